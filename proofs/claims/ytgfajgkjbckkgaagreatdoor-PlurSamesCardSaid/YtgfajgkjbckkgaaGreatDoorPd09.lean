/- Texts of this seat, joined. Conditions: none beyond each statement's own. -/
import Derived.Test.YtgfajgkjbckkgaaGreatDoorPd07
import Derived.Test.YtgfajgkjbckkgaaGreatDoorPd08
import Derived.Test.YtgfajgkjbckkgaaGreatDoorRows
import Derived.ProofKit
import Derived.OpenShut
import Derived.DataElems
import Derived.SizedLaws
import Derived.ChangeSlices
import Derived.ChangeSame
set_option linter.all false
section
noncomputable section
namespace Go.Proofs.YtgfajgkjbckkgaaGreatDoor.PZ
open Go.RowKit Go.Proofs.YtgfajgkjbckkgaaGreatDoorW.PrintWords Go.Proofs.YtgfajgkjbckkgaaGreatDoorW.PrintLast Go.Proofs.YtgfajgkjbckkgaaGreatDoorW.PrintMore
attribute [local go_sem] max2_int min2_int max_two min_two max_three min_three max_four min_four   -- for this text's walks alone
mutual
def rule_Text.l0:Nat→List ByteArray→List (List (S60))→Int→Int→Option (ByteArray)
 | 0,_,_,_,_=>none
 | k+1,x3,x9,x10,x11=>if x11<x10 then (if 0≤x11 then (if x11<(x9.length:Int) then (rule_Text.l1 k x3 ([]:List ByteArray) x9 x10 x11 (rd_L7 x9 x11) ((rd_L7 x9 x11).length:Int) 0) else (none)) else (none)) else ((strings_Join.f x3 (⟨#[32,111,114,32]⟩:ByteArray)).bind fun ay=>(some ay))
def rule_Text.l1:Nat→List ByteArray→List ByteArray→List (List (S60))→Int→Int→List (S60)→Int→Int→Option (ByteArray)
 | 0,_,_,_,_,_,_,_,_=>none
 | k+1,x3,x6,x9,x10,x11,x15,x16,x17=>if x17<x16 then (if 0≤x17 then (if x17<(x15.length:Int) then ((rule_written.f k ((rd_T60 x15 x17).f0) ((rd_T60 x15 x17).f1) ((rd_T60 x15 x17).f2) ((rd_T60 x15 x17).f3)).bind fun ap=>(if x6.length<8796093022208 then (rule_Text.l1 k x3 (x6 ++ [ap]) x9 x10 x11 x15 x16 (wrap64 (x17+1))) else (none))) else (none)) else (none)) else ((strings_Join.f x6 (⟨#[32,97,110,100,32]⟩:ByteArray)).bind fun aq=>(if x3.length<8796093022208 then (rule_Text.l0 k (x3 ++ [aq]) x9 x10 (wrap64 (x11+1))) else (none)))
end
def rule_Text.f (k:Nat)(l0:List (List (S60))):Option (ByteArray):=rule_Text.l0 k ([]:List ByteArray) l0 (l0.length:Int) 0
theorem rule_Text.mono_l:∀ k,(∀ y0 y1 y2 y3,LeO (rule_Text.l0 k y0 y1 y2 y3) (rule_Text.l0 (k+1) y0 y1 y2 y3))∧(∀ y0 y1 y2 y3 y4 y5 y6 y7,LeO (rule_Text.l1 k y0 y1 y2 y3 y4 y5 y6 y7) (rule_Text.l1 (k+1) y0 y1 y2 y3 y4 y5 y6 y7))
 | 0=>⟨fun _ _ _ _ r h=>by simp [rule_Text.l0] at h,fun _ _ _ _ _ _ _ _ r h=>by simp [rule_Text.l1] at h⟩
 | k+1=>by
  obtain ⟨ih0,ih1⟩:=rule_Text.mono_l k
  refine ⟨?_,?_⟩
  ·intro y0 y1 y2 y3
   unfold rule_Text.l0
   repeat' first|(with_reducible first|apply ih0|apply ih1|apply rule_written.mono|apply LeO.refl|apply LeO.none|refine LeO.ite ?_ ?_|refine LeO.bind ?_ (fun _=>?_))|apply ih0|apply ih1|apply rule_written.mono|apply LeO.none
  ·intro y0 y1 y2 y3 y4 y5 y6 y7
   unfold rule_Text.l1
   repeat' first|(with_reducible first|apply ih0|apply ih1|apply rule_written.mono|apply LeO.refl|apply LeO.none|refine LeO.ite ?_ ?_|refine LeO.bind ?_ (fun _=>?_))|apply ih0|apply ih1|apply rule_written.mono|apply LeO.none
theorem rule_Text.mono:∀ a0 k,LeO (rule_Text.f k a0) (rule_Text.f (k+1) a0):=by
 intro a0 k
 obtain ⟨ih0,ih1⟩:=rule_Text.mono_l k
 unfold rule_Text.f
 repeat' first|(with_reducible first|apply ih0|apply ih1|apply rule_written.mono|apply LeO.refl|apply LeO.none|refine LeO.ite ?_ ?_|refine LeO.bind ?_ (fun _=>?_))|apply ih0|apply ih1|apply rule_written.mono|apply LeO.none
set_option maxHeartbeats 8000000 in
set_option maxRecDepth 100000 in
theorem rule_Text.calls (k:Nat)(A0:Option Addr)(c0:Nat)(l0:List (List (S60)))(r:ByteArray)(w:World)(hG:GL w)(hr0:Kd.C (Kd.slice 60 k60) w A0 l0.length l0)(hc0:l0.length≤c0)(h:rule_Text.f k l0=some r) :
  Calls Tryz.prog 35 #[.slice A0 l0.length c0] w fun e w'=>e = .returned (.string r)∧Below w.heap.size w w':=by
 have hu60:=Tryz.underlying60
 have HR0:=zS hr0
 have HC0:=zS hc0
 clear hr0 hc0
 have HB:=zS (Below.refl w.heap.size w)
 have HG:=zS hG
 clear hG
 have H:(rule_Text.l0 k ([]:List ByteArray) l0 (l0.length:Int) 0)=some r:=h
 clear h
 have H':=zS H
 clear H
 go_enter Tryz.func35,Tryz.ntmps35
 go_wp2
 go_loopg [3,11] k (fun kq v3 v11 w'=>∃ (af:List ByteArray) (aa:Int),v11 = .int .i64 aa∧Sd (rule_Text.l0 kq af l0 (l0.length:Int) aa=some r)∧Sd (kq≤k)∧Sd (Kd.R Kd.string 9 w' w.heap.size (fun _=>True) v3 af)∧Sd (Below w.heap.size w w'))
 case atStart=>exact ⟨(([]:List ByteArray)),(0),(by first|rfl|(simp;done)|(simp [*];done)),H',⟨Nat.le_refl _⟩,⟨by first|exact Kd.R_nil _ _ _ _ _|exact Kd.N_nil _ _ _ _ _|exact Kd.V_nil _ _ _ _ _|exact Kd.Q_nil _ _ _ _ _|exact Kd.S_nil _ _ _ _ _⟩,⟨bQ HB⟩⟩
 case round=>
  clear H'
  obtain ⟨af,aa,rfl,HA,HK1,HO_3,HB⟩:=hrel
  cases gk with
  | zero=>exact absurd HA.out (by simp [rule_Text.l0])
  | succ k1=>
   have H:=HA.out
   clear HA
   simp only [rule_Text.l0] at H
   by_cases c2:aa<(l0.length:Int)
   rotate_left
   ·rw [if_neg c2] at H
    have aC:=zD c2
    clear c2
    replace H:=Option.bind_eq_some_iff.mp H
    obtain ⟨ay,aD,H⟩:=H
    try dsimp only at H
    have A19:=zS aD
    clear aD
    obtain rfl:=zE H
    obtain ⟨aT,aU,aV⟩:=Kd.R_slice HO_3.out
    subst aV
    go_wp2_with (first|((with_reducible refine gate_callee (f:=57) rfl ?_);refine gL (some 34) Tryz.func57 #[.slice aT af.length aU,.string (⟨#[32,111,114,32]⟩:ByteArray)] ?_;(with_reducible refine (strings_Join.calls _ _ af (⟨#[32,111,114,32]⟩:ByteArray) ay _ (rc HO_3) (rl HO_3) A19.out).mono ?_);rintro e w21 ⟨rfl,hb⟩;refine ⟨_,rfl,?_⟩;replace HO_3:=rb HO_3 hb;replace HB:=bs HB hb;(try clear hb)))
    go_ret
    exact ⟨by first|rfl|(simp <;> rfl)|(simp [*] <;> rfl),bQ HB⟩
   rw [if_pos c2] at H
   have aC:=zC c2
   clear c2
   by_cases c3:0≤aa
   rotate_left
   ·rw [if_neg c3] at H
    exact absurd H (by simp)
   rw [if_pos c3] at H
   have aW:=zC c3
   clear c3
   by_cases c4:aa<(l0.length:Int)
   rotate_left
   ·rw [if_neg c4] at H
    exact absurd H (by simp)
   rw [if_pos c4] at H
   have aX:=zC c4
   clear c4
   have H':=zS H
   clear H
   have ar:0≤(aa:Int):=zB (by first|(with_reducible assumption)|assumption)
   have au:aa<(l0.length:Int):=zB (by first|(with_reducible assumption)|assumption)
   obtain ⟨a5,aY,aZ,a1,ae,hl120_0,hi120_0⟩:=at_L7 HR0.out aa ar au
   cases a1
   replace ae:=(HB.out.cell (World.block_lt_of_cell? w _ ae)).trans ae
   have av:=zS hi120_0
   have aR:=zS hl120_0
   clear hi120_0 hl120_0
   replace ar:=eq_true ar
   replace au:=eq_true au
   go_wp2
   go_loopg [6,17] k1 (fun kq v6 v17 w'=>∃ (ag:List ByteArray) (ab:Int),v17 = .int .i64 ab∧Sd (rule_Text.l1 kq af ag l0 (l0.length:Int) aa (rd_L7 l0 aa) ((rd_L7 l0 aa).length:Int) ab=some r)∧Sd (kq≤k1)∧Sd (Kd.R Kd.string 9 w' w.heap.size (fun k_=>some k_≠(v6:Value).ownBlock) u3 af)∧Sd (Kd.R Kd.string 9 w' w.heap.size (fun k_=>some k_≠(u3:Value).ownBlock) v6 ag)∧Sd (Below w.heap.size w w'))
   case atStart=>exact ⟨(([]:List ByteArray)),(0),(by first|rfl|(simp;done)|(simp [*];done)),H',⟨Nat.le_refl _⟩,⟨by (with_reducible repeat (first|apply Kd.R_alloc|apply Kd.R_drewN|apply Kd.R_drew));exact Kd.R_mono HO_3.out (fun _ hk=>(by simp [Value.ownBlock]))⟩,⟨by first|exact Kd.R_nil _ _ _ _ _|exact Kd.N_nil _ _ _ _ _|exact Kd.V_nil _ _ _ _ _|exact Kd.Q_nil _ _ _ _ _|exact Kd.S_nil _ _ _ _ _⟩,⟨bQ HB⟩⟩
   case round=>
    clear H'
    try clear c1
    try clear p1
    try clear q1
    try clear hx1
    try clear c2
    try clear aC
    try clear p2
    try clear c3
    try clear aW
    try clear c4
    try clear aX
    try clear ae
    try clear ar
    try clear au
    obtain ⟨ag,ab,rfl,HA,HK2,HO_3,HO_6,HB⟩:=hrel
    cases gk with
    | zero=>exact absurd HA.out (by simp [rule_Text.l1])
    | succ k2=>
     have H:=HA.out
     clear HA
     simp only [rule_Text.l1] at H
     by_cases c5:ab<((rd_L7 l0 aa).length:Int)
     rotate_left
     ·rw [if_neg c5] at H
      have a2:=zD c5
      clear c5
      replace H:=Option.bind_eq_some_iff.mp H
      obtain ⟨aq,aE,H⟩:=H
      try dsimp only at H
      have A14:=zS aE
      clear aE
      by_cases c15:af.length<8796093022208
      rotate_left
      ·rw [if_neg c15] at H
       exact absurd H (by simp)
      rw [if_pos c15] at H
      have LMc15:=zS c15
      clear c15
      obtain ⟨aG,an⟩:∃ y_:List ByteArray,y_=(af ++ [aq]):=⟨_,rfl⟩
      replace H:(rule_Text.l0 k2 aG l0 (l0.length:Int) (wrap64 (aa+1)))=some r:=by first|(rw [an];with_reducible exact H)|(have H2_:=(Option.bind_some _ _).symm.trans H;rw [an];with_reducible exact H2_)|(have H2_:=(Option.bind_some _ _).symm.trans H;with_reducible exact H2_)|with_reducible exact H|(rw [an];exact H)|exact H
      have aH:=zS an
      clear an
      have H':=zS H
      clear H
      obtain ⟨aI,aJ,a3⟩:=Kd.R_slice HO_6.out
      subst a3
      go_wp2_with (first|((with_reducible refine gate_callee (f:=57) rfl ?_);refine gL (some 29) Tryz.func57 #[.slice aI ag.length aJ,.string (⟨#[32,97,110,100,32]⟩:ByteArray)] ?_;(with_reducible refine (strings_Join.calls _ _ ag (⟨#[32,97,110,100,32]⟩:ByteArray) aq _ (rc HO_6) (rl HO_6) A14.out).mono ?_);rintro e w17 ⟨rfl,hb⟩;refine ⟨_,rfl,?_⟩;replace HO_3:=rb HO_3 hb;replace HO_6:=rb HO_6 hb;replace HB:=bs HB hb;(try clear hb))|((with_reducible refine gate_builtin (b:=.append) (xs:=#[.tmp 27,.tmp 30]) rfl ?_);at_builtin;refine Kd.R_append Kd.string (w0:=w) w.heap.size rfl (.tmp 27) (.tmp 30) 76 9 (.string ⟨#[]⟩) 16 rfl Tryz.underlying76 info9 rfl (by decide) (by omega) u3 af aq [.string aq] (fun k_=>some k_≠(.slice aI ag.length aJ:Value).ownBlock) (fun _=>False) rfl rfl ?aP (fun _ hk=>hk.elim) ?aF ?aO ?aB ?aS ?aL ?_;(case aP=>exact rfl);(case aB=>exact (bQ HB));(case aF=>exact (fun k_ hk=>Kd.fresh' (Kd.R_lt (ro HO_6)) k_ hk));(case aO=>exact (ro HO_3));(case aS=>exact (bz HB));(case aL=>have:=LMc15.out;omega);intro ba w18 ho hb hg hat;rw [← aH.out] at ho;replace HO_6:=zS (Kd.R_after (ok:=(fun _=>True)) (by (with_reducible repeat (first|apply Kd.R_alloc|apply Kd.R_drewN|apply Kd.R_drew));exact Kd.R_mono HO_6.out (fun _ hk=>⟨trivial,hk⟩)) hg hat);replace HB:=zS (hb);have aK:=zS (ho);clear HO_3;clear ho hb hg hat))
      go_roundg k2
      case measure=>have:=HK1.out;have:=HK2.out;omega
      case rel=>exact ⟨(aG),(wrap64 (aa+1)),(by first|rfl|(simp;done)|(simp [*];done)),H',⟨by have:=HK1.out;have:=HK2.out;omega⟩,⟨by (with_reducible repeat (first|apply Kd.R_alloc|apply Kd.R_drewN|apply Kd.R_drew));exact Kd.R_mono aK.out (fun _ hk=>trivial)⟩,⟨bQ HB⟩⟩
     rw [if_pos c5] at H
     have a2:=zC c5
     clear c5
     by_cases c6:0≤ab
     rotate_left
     ·rw [if_neg c6] at H
      exact absurd H (by simp)
     rw [if_pos c6] at H
     have bb:=zC c6
     clear c6
     by_cases c7:ab<((rd_L7 l0 aa).length:Int)
     rotate_left
     ·rw [if_neg c7] at H
      exact absurd H (by simp)
     rw [if_pos c7] at H
     have bc:=zC c7
     clear c7
     replace H:=Option.bind_eq_some_iff.mp H
     obtain ⟨ap,A80,H⟩:=H
     try dsimp only at H
     have A8:=zS A80
     clear A80
     by_cases c9:ag.length<8796093022208
     rotate_left
     ·rw [if_neg c9] at H
      exact absurd H (by simp)
     rw [if_pos c9] at H
     have LMc9:=zS c9
     clear c9
     obtain ⟨aM,ao⟩:∃ y_:List ByteArray,y_=(ag ++ [ap]):=⟨_,rfl⟩
     replace H:(rule_Text.l1 k2 af aM l0 (l0.length:Int) aa (rd_L7 l0 aa) ((rd_L7 l0 aa).length:Int) (wrap64 (ab+1)))=some r:=by first|(rw [ao];with_reducible exact H)|(have H2_:=(Option.bind_some _ _).symm.trans H;rw [ao];with_reducible exact H2_)|(have H2_:=(Option.bind_some _ _).symm.trans H;with_reducible exact H2_)|with_reducible exact H|(rw [ao];exact H)|exact H
     have aN:=zS ao
     clear ao
     have H':=zS H
     clear H
     have az:0≤(ab:Int):=zB (by first|(with_reducible assumption)|assumption)
     have aA:ab<((rd_L7 l0 aa).length:Int):=zB (by first|(with_reducible assumption)|assumption)
     obtain ⟨a6,ah,ai,a4,aj,ak,al,am,hl121_3,hi121_3⟩:=at_T60 av.out ab az aA
     cases a4
     replace aj:=(HB.out.cell (World.block_lt_of_cell? w _ aj)).trans aj
     replace ak:=(HB.out.cell (World.block_lt_of_cell? w _ ak)).trans ak
     replace al:=(HB.out.cell (World.block_lt_of_cell? w _ al)).trans al
     replace am:=(HB.out.cell (World.block_lt_of_cell? w _ am)).trans am
     have aw:=zS hi121_3
     have ax:=zS hl121_3
     clear hi121_3 hl121_3
     replace az:=eq_true az
     replace aA:=eq_true aA
     go_wp2_with (first|((with_reducible refine gate_dst (N:=8) rfl ?_);refine box_event ?hg (N:=8) ?hd (cs:=#[.int .u8 0,.int .i64 0,.bool false,.slice none 0 0]) (t:=60) ?hr ?_;(case hd=>rfl);(case hg=>rfl);(case hr=>first|(go_simp;done)|(go_simp;rfl));intro ac hg w10 hbox hb;replace HO_3:=rb HO_3 hb;replace HO_6:=rb HO_6 hb;have ad:=zS (hbox);have a7:=bg HB hg;replace HB:=bs HB hb;clear hb hbox hg;have a8:=blkc4 ad.out;have a9:=blkf4 ad.out)|((with_reducible refine gate_callee (f:=56) rfl ?_);refine gL (some 23) Tryz.func56 #[.agg #[.int .u8 ((rd_T60 (rd_L7 l0 aa) ab).f0),.int .i64 ((rd_T60 (rd_L7 l0 aa) ab).f1),.bool ((rd_T60 (rd_L7 l0 aa) ab).f2),.slice ah ((rd_T60 (rd_L7 l0 aa) ab).f3).length ai]] ?_;(with_reducible refine (rule_written.calls k2 ((rd_T60 (rd_L7 l0 aa) ab).f0) ((rd_T60 (rd_L7 l0 aa) ab).f1) ((rd_T60 (rd_L7 l0 aa) ab).f2) _ _ ((rd_T60 (rd_L7 l0 aa) ab).f3) ap _ ?side3 (cb aw HB) ax.out A8.out).mono ?_);(case side3=>refine GL.below HG.out ?_;exact bQ HB);rintro e w12 ⟨rfl,hb⟩;refine ⟨_,rfl,?_⟩;replace HO_3:=zS (Kd.R_below (by (with_reducible repeat (first|apply Kd.R_alloc|apply Kd.R_drewN|apply Kd.R_drew));exact (Kd.R_mono (Kd.R_far (p:=⟨ac,3,none⟩) (Kd.R_far (p:=⟨ac,2,none⟩) (Kd.R_far (p:=⟨ac,1,none⟩) (Kd.R_far (p:=⟨ac,0,none⟩) (Kd.R_types HO_3.out ad.out (by decide)) (fun _ hk=>hk.2) (.int .u8 ((rd_T60 (rd_L7 l0 aa) ab).f0))) (fun _ hk=>hk.2) (.int .i64 ((rd_T60 (rd_L7 l0 aa) ab).f1))) (fun _ hk=>hk.2) (.bool ((rd_T60 (rd_L7 l0 aa) ab).f2))) (fun _ hk=>hk.2) (.slice ah ((rd_T60 (rd_L7 l0 aa) ab).f3).length ai)) (fun _ h_=>h_.1))) hb);replace HO_6:=zS (Kd.R_below (by (with_reducible repeat (first|apply Kd.R_alloc|apply Kd.R_drewN|apply Kd.R_drew));exact (Kd.R_mono (Kd.R_far (p:=⟨ac,3,none⟩) (Kd.R_far (p:=⟨ac,2,none⟩) (Kd.R_far (p:=⟨ac,1,none⟩) (Kd.R_far (p:=⟨ac,0,none⟩) (Kd.R_types HO_6.out ad.out (by decide)) (fun _ hk=>hk.2) (.int .u8 ((rd_T60 (rd_L7 l0 aa) ab).f0))) (fun _ hk=>hk.2) (.int .i64 ((rd_T60 (rd_L7 l0 aa) ab).f1))) (fun _ hk=>hk.2) (.bool ((rd_T60 (rd_L7 l0 aa) ab).f2))) (fun _ hk=>hk.2) (.slice ah ((rd_T60 (rd_L7 l0 aa) ab).f3).length ai)) (fun _ h_=>h_.1))) hb);replace ad:=zS (blk_below (g:=ac) (o:=.cells #[.int .u8 ((rd_T60 (rd_L7 l0 aa) ab).f0),.int .i64 ((rd_T60 (rd_L7 l0 aa) ab).f1),.bool ((rd_T60 (rd_L7 l0 aa) ab).f2),.slice ah ((rd_T60 (rd_L7 l0 aa) ab).f3).length ai] 60 (0,0)) (kp ad rfl) hb);replace HB:=bs HB hb;(try clear hb);(try clear hk))|((with_reducible refine gate_builtin (b:=.append) (xs:=#[.tmp 21,.tmp 24]) rfl ?_);at_builtin;refine Kd.R_append Kd.string (w0:=w) w.heap.size rfl (.tmp 21) (.tmp 24) 76 9 (.string ⟨#[]⟩) 16 rfl Tryz.underlying76 info9 rfl (by decide) (by omega) u6 ag ap [.string ap] (fun k_=>some k_≠(u3:Value).ownBlock) (fun _=>False) rfl rfl ?aP (fun _ hk=>hk.elim) ?aF ?aO ?aB ?aS ?aL ?_;(case aP=>exact rfl);(case aB=>exact (bQ HB));(case aF=>exact (fun k_ hk=>Kd.fresh' (Kd.R_lt (ro HO_3)) k_ hk));(case aO=>exact (ro HO_6));(case aS=>exact (bz HB));(case aL=>have:=LMc9.out;omega);intro bd w13 ho hb hg hat;rw [← aN.out] at ho;replace HO_3:=zS (Kd.R_after (ok:=(fun _=>True)) (by (with_reducible repeat (first|apply Kd.R_alloc|apply Kd.R_drewN|apply Kd.R_drew));exact Kd.R_mono HO_3.out (fun _ hk=>⟨trivial,hk⟩)) hg hat);replace ad:=zS (blk_grown (ko ad) hg (Kd.R_ne HO_6.out ad.out (by decide)));replace HB:=zS (hb);have aQ:=zS (ho);clear HO_6;clear ho hb hg hat))
     go_roundg k2
     case measure=>have:=HK1.out;have:=HK2.out;omega
     case rel=>exact ⟨(aM),(wrap64 (ab+1)),(by first|rfl|(simp;done)|(simp [*];done)),H',⟨by have:=HK1.out;have:=HK2.out;omega⟩,⟨by (with_reducible repeat (first|apply Kd.R_alloc|apply Kd.R_drewN|apply Kd.R_drew));exact Kd.R_mono HO_3.out (fun _ hk=>hk.2)⟩,⟨ro aQ⟩,⟨bQ HB⟩⟩
end Go.Proofs.YtgfajgkjbckkgaaGreatDoor.PZ
end
end
section
set_option maxRecDepth 100000
namespace Go.Proofs.YtgfajgkjbckkgaaGreatDoor.PZ
open Go.RowKit Go.Proofs.YtgfajgkjbckkgaaGreatDoorW.PrintWords Go.Proofs.YtgfajgkjbckkgaaGreatDoorW.PrintLast
theorem any_more {α:Type}{l:List α}{p:α→Bool}{k:Nat}(z:α)(hk:k<l.length)(h:(l.take k).any p=false)(he:p (l.getD k z)=false):(l.take (k+1)).any p=false:=by
 rw [List.take_succ_eq_append_getElem hk,List.any_append,h]
 simpa [List.getD_eq_getElem?_getD,List.getElem?_eq_getElem hk] using he
theorem any_end {α:Type}{l:List α}{p:α→Bool}{k:Nat}(hk:l.length≤k)(h:(l.take k).any p=false):l.any p=false:=by
 rwa [List.take_of_length_le hk] at h
theorem getD_mem {α:Type}{l:List α}{k:Nat}(z:α)(hk:k<l.length):l.getD k z ∈ l:=by
 rw [List.getD_eq_getElem?_getD,List.getElem?_eq_getElem hk];exact List.getElem_mem hk
theorem any_hit {α:Type}{l:List α}{p:α→Bool}{k:Nat}(z:α)(hk:k<l.length)(he:p (l.getD k z)=true):l.any p=true:=List.any_eq_true.mpr ⟨_,getD_mem z hk,he⟩
set_option maxHeartbeats 2000000 in
set_option maxRecDepth 100000 in
theorem ixf_rg1 (fv:Nat)(ef:∀ args w,(callFunc fv args).run Tryz.prog w = .ok (.enter fv args) w)(v1:Value)(p:Rg→Bool)(A0:Option Addr)(c0:Nat)(l0:List Rg)(w:World)
    (hr0:Kd.C k57 w A0 l0.length l0) (hc0:l0.length≤c0) (hP:∀ x ∈ l0,∀ W,Below w.heap.size w W→Calls Tryz.prog fv #[.agg #[.int .i64 x.f0,.int .i64 x.f1],v1] W fun e w'=>e = .returned (.bool (p x))∧Below W.heap.size W w') :
    Calls Tryz.prog 79 #[.slice A0 l0.length c0,.func (.func fv) #[] #[v1]] w fun e w'=>∃ i:Int,e = .returned (.int .i64 i)∧decide (i≥0)=l0.any p∧Below w.heap.size w w':=by
 have hn:=hr0.2.1
 have L0:=zA (fun W (hb:Below w.heap.size w W)=>Kd.C_below hr0 hb)
 have HP:=zA hP
 clear hr0 hP
 go_enter Tryz.func79,Tryz.ntmps79
 go_wp2
 go_loopg [8] l0.length (fun gg s8 wr=>∃ k:Nat,k≤l0.length∧l0.length - k≤gg∧s8 = .int .i64 k∧Aside0 (Below w.heap.size w wr)∧Aside0 ((l0.take k).any p=false))
 case atStart=>exact ⟨0,by omega,by omega,rfl,⟨Below.refl _ _⟩,⟨by simp⟩⟩
 case round=>
  obtain ⟨k,hk,hg,rfl,HB,HT⟩:=hrel
  by_cases hlt:k<l0.length
  rotate_left
  ·have j1:decide ((k:Int)<(l0.length:Int))=false:=zD (by omega)
   have HQ:=zA (any_end (p:=p) (by omega) HT.out)
   go_wp2
   go_ret
   exact ⟨-1,rfl,by rw [HQ.out];rfl,HB.out⟩
  have j1:decide ((k:Int)<(l0.length:Int))=true:=zC (by omega)
  obtain ⟨ad,rfl,x0,x1⟩:=rg_at (L0.out wr HB.out) k hlt
  have p0:(0≤(k:Int))=True:=eq_true (by omega)
  have m2:decide (k<l0.length)=true:=zC hlt
  have m3:((k:Int)<(l0.length:Int))=True:=eq_true (by omega)
  have m4:(k<l0.length)=True:=eq_true hlt
  have HM:=zA (fun he=>any_more (p:=p) (⟨0,0⟩:Rg) hlt HT.out he)
  have HH:=zA (fun he=>any_hit (p:=p) (⟨0,0⟩:Rg) hlt he)
  have HF:=HP.out _ (getD_mem (⟨0,0⟩:Rg) hlt) wr HB.out
  generalize l0.getD k ⟨0,0⟩=X at *
  cases hq:p X with
  | false=>
   rw [hq] at HF
   have HF:=zA HF
   have HQ:=zA (HM.out hq)
   clear hq
   go_wp2_with (go_at_fn fv;refine (HF.out).mono ?_;rintro e w5 ⟨rfl,hb5⟩;have hB:=zA (below_step HB.out hb5);clear hb5)
   go_roundg (l0.length - (k+1))
   case measure=>omega
   case rel=>exact ⟨k+1,by omega,by omega,by go_num,hB,HQ⟩
  | true=>
   rw [hq] at HF
   have HF:=zA HF
   have HQ:=zA (HH.out hq)
   clear hq
   go_wp2_with (go_at_fn fv;refine (HF.out).mono ?_;rintro e w5 ⟨rfl,hb5⟩;have hB:=zA (below_step HB.out hb5);clear hb5)
   go_ret
   exact ⟨(k:Int),rfl,by rw [HQ.out];simp,hB.out⟩
set_option maxHeartbeats 2000000 in
theorem cf_rg1 (fv:Nat)(ef:∀ args w,(callFunc fv args).run Tryz.prog w = .ok (.enter fv args) w)(v1:Value)(p:Rg→Bool)(A0:Option Addr)(c0:Nat)(l0:List Rg)(w:World)
    (hr0:Kd.C k57 w A0 l0.length l0) (hc0:l0.length≤c0) (hP:∀ x ∈ l0,∀ W,Below w.heap.size w W→Calls Tryz.prog fv #[.agg #[.int .i64 x.f0,.int .i64 x.f1],v1] W fun e w'=>e = .returned (.bool (p x))∧Below W.heap.size W w') :
    Calls Tryz.prog 60 #[.slice A0 l0.length c0,.func (.func fv) #[] #[v1]] w fun e w'=>e = .returned (.bool (l0.any p))∧Below w.heap.size w w':=by
 have HE:=ixf_rg1 fv ef v1 p A0 c0 l0 w hr0 hc0 hP
 clear hr0 hP
 generalize l0.any p=B at *
 go_enter Tryz.func60,Tryz.ntmps60
 go_wp2_with (go_at_call 79;refine HE.mono ?_;rintro e w5 ⟨i,rfl,hi,hb5⟩;have HI:=zA hi;have HB:=zA hb5;clear hi hb5)
 go_ret
 exact ⟨by rw [← HI.out];rfl,HB.out⟩
set_option maxHeartbeats 2000000 in
set_option maxRecDepth 100000 in
theorem ixf_rg2 (fv:Nat)(ef:∀ args w,(callFunc fv args).run Tryz.prog w = .ok (.enter fv args) w)(v1:Value)(v2:Value)(p:Rg→Bool)(A0:Option Addr)(c0:Nat)(l0:List Rg)(w:World)
    (hr0:Kd.C k57 w A0 l0.length l0) (hc0:l0.length≤c0) (hP:∀ x ∈ l0,∀ W,Below w.heap.size w W→Calls Tryz.prog fv #[.agg #[.int .i64 x.f0,.int .i64 x.f1],v1,v2] W fun e w'=>e = .returned (.bool (p x))∧Below W.heap.size W w') :
    Calls Tryz.prog 79 #[.slice A0 l0.length c0,.func (.func fv) #[] #[v1,v2]] w fun e w'=>∃ i:Int,e = .returned (.int .i64 i)∧decide (i≥0)=l0.any p∧Below w.heap.size w w':=by
 have hn:=hr0.2.1
 have L0:=zA (fun W (hb:Below w.heap.size w W)=>Kd.C_below hr0 hb)
 have HP:=zA hP
 clear hr0 hP
 go_enter Tryz.func79,Tryz.ntmps79
 go_wp2
 go_loopg [8] l0.length (fun gg s8 wr=>∃ k:Nat,k≤l0.length∧l0.length - k≤gg∧s8 = .int .i64 k∧Aside0 (Below w.heap.size w wr)∧Aside0 ((l0.take k).any p=false))
 case atStart=>exact ⟨0,by omega,by omega,rfl,⟨Below.refl _ _⟩,⟨by simp⟩⟩
 case round=>
  obtain ⟨k,hk,hg,rfl,HB,HT⟩:=hrel
  by_cases hlt:k<l0.length
  rotate_left
  ·have j1:decide ((k:Int)<(l0.length:Int))=false:=zD (by omega)
   have HQ:=zA (any_end (p:=p) (by omega) HT.out)
   go_wp2
   go_ret
   exact ⟨-1,rfl,by rw [HQ.out];rfl,HB.out⟩
  have j1:decide ((k:Int)<(l0.length:Int))=true:=zC (by omega)
  obtain ⟨ad,rfl,x0,x1⟩:=rg_at (L0.out wr HB.out) k hlt
  have p0:(0≤(k:Int))=True:=eq_true (by omega)
  have m2:decide (k<l0.length)=true:=zC hlt
  have m3:((k:Int)<(l0.length:Int))=True:=eq_true (by omega)
  have m4:(k<l0.length)=True:=eq_true hlt
  have HM:=zA (fun he=>any_more (p:=p) (⟨0,0⟩:Rg) hlt HT.out he)
  have HH:=zA (fun he=>any_hit (p:=p) (⟨0,0⟩:Rg) hlt he)
  have HF:=HP.out _ (getD_mem (⟨0,0⟩:Rg) hlt) wr HB.out
  generalize l0.getD k ⟨0,0⟩=X at *
  cases hq:p X with
  | false=>
   rw [hq] at HF
   have HF:=zA HF
   have HQ:=zA (HM.out hq)
   clear hq
   go_wp2_with (go_at_fn fv;refine (HF.out).mono ?_;rintro e w5 ⟨rfl,hb5⟩;have hB:=zA (below_step HB.out hb5);clear hb5)
   go_roundg (l0.length - (k+1))
   case measure=>omega
   case rel=>exact ⟨k+1,by omega,by omega,by go_num,hB,HQ⟩
  | true=>
   rw [hq] at HF
   have HF:=zA HF
   have HQ:=zA (HH.out hq)
   clear hq
   go_wp2_with (go_at_fn fv;refine (HF.out).mono ?_;rintro e w5 ⟨rfl,hb5⟩;have hB:=zA (below_step HB.out hb5);clear hb5)
   go_ret
   exact ⟨(k:Int),rfl,by rw [HQ.out];simp,hB.out⟩
set_option maxHeartbeats 2000000 in
theorem cf_rg2 (fv:Nat)(ef:∀ args w,(callFunc fv args).run Tryz.prog w = .ok (.enter fv args) w)(v1:Value)(v2:Value)(p:Rg→Bool)(A0:Option Addr)(c0:Nat)(l0:List Rg)(w:World)
    (hr0:Kd.C k57 w A0 l0.length l0) (hc0:l0.length≤c0) (hP:∀ x ∈ l0,∀ W,Below w.heap.size w W→Calls Tryz.prog fv #[.agg #[.int .i64 x.f0,.int .i64 x.f1],v1,v2] W fun e w'=>e = .returned (.bool (p x))∧Below W.heap.size W w') :
    Calls Tryz.prog 60 #[.slice A0 l0.length c0,.func (.func fv) #[] #[v1,v2]] w fun e w'=>e = .returned (.bool (l0.any p))∧Below w.heap.size w w':=by
 have HE:=ixf_rg2 fv ef v1 v2 p A0 c0 l0 w hr0 hc0 hP
 clear hr0 hP
 generalize l0.any p=B at *
 go_enter Tryz.func60,Tryz.ntmps60
 go_wp2_with (go_at_call 79;refine HE.mono ?_;rintro e w5 ⟨i,rfl,hi,hb5⟩;have HI:=zA hi;have HB:=zA hb5;clear hi hb5)
 go_ret
 exact ⟨by rw [← HI.out];rfl,HB.out⟩
set_option maxHeartbeats 2000000 in
set_option maxRecDepth 100000 in
theorem ixf_rl1 (fv:Nat)(ef:∀ args w,(callFunc fv args).run Tryz.prog w = .ok (.enter fv args) w)(v1:Value)(p:Rl→Bool)(A0:Option Addr)(c0:Nat)(l0:List Rl)(w:World)
    (hr0:Kd.C k60 w A0 l0.length l0) (hc0:l0.length≤c0) (hP:∀ x ∈ l0,∀ W A3 c3,Below w.heap.size w W→Kd.C k57 W A3 x.f3.length x.f3→x.f3.length≤c3→Calls Tryz.prog fv #[.agg #[.int .u8 x.f0,.int .i64 x.f1,.bool x.f2,.slice A3 x.f3.length c3],v1] W fun e w'=>e = .returned (.bool (p x))∧Below W.heap.size W w') :
    Calls Tryz.prog 86 #[.slice A0 l0.length c0,.func (.func fv) #[] #[v1]] w fun e w'=>∃ i:Int,e = .returned (.int .i64 i)∧decide (i≥0)=l0.any p∧Below w.heap.size w w':=by
 have hn:=hr0.2.1
 have L0:=zA (fun W (hb:Below w.heap.size w W)=>Kd.C_below hr0 hb)
 have HP:=zA hP
 clear hr0 hP
 go_enter Tryz.func86,Tryz.ntmps86
 go_wp2
 go_loopg [8] l0.length (fun gg s8 wr=>∃ k:Nat,k≤l0.length∧l0.length - k≤gg∧s8 = .int .i64 k∧Aside0 (Below w.heap.size w wr)∧Aside0 ((l0.take k).any p=false))
 case atStart=>exact ⟨0,by omega,by omega,rfl,⟨Below.refl _ _⟩,⟨by simp⟩⟩
 case round=>
  obtain ⟨k,hk,hg,rfl,HB,HT⟩:=hrel
  by_cases hlt:k<l0.length
  rotate_left
  ·have j1:decide ((k:Int)<(l0.length:Int))=false:=zD (by omega)
   have HQ:=zA (any_end (p:=p) (by omega) HT.out)
   go_wp2
   go_ret
   exact ⟨-1,rfl,by rw [HQ.out];rfl,HB.out⟩
  have j1:decide ((k:Int)<(l0.length:Int))=true:=zC (by omega)
  obtain ⟨ad,A3,c3,rfl,x0,x1,x2,x3,hx3,HX⟩:=rel_at (L0.out wr HB.out) k hlt
  have p0:(0≤(k:Int))=True:=eq_true (by omega)
  have m2:decide (k<l0.length)=true:=zC hlt
  have m3:((k:Int)<(l0.length:Int))=True:=eq_true (by omega)
  have m4:(k<l0.length)=True:=eq_true hlt
  have HM:=zA (fun he=>any_more (p:=p) (⟨0,0,false,[]⟩:Rl) hlt HT.out he)
  have HH:=zA (fun he=>any_hit (p:=p) (⟨0,0,false,[]⟩:Rl) hlt he)
  have HF:=HP.out _ (getD_mem (⟨0,0,false,[]⟩:Rl) hlt) wr A3 c3 HB.out HX hx3
  generalize l0.getD k ⟨0,0,false,[]⟩=X at *
  cases hq:p X with
  | false=>
   rw [hq] at HF
   have HF:=zA HF
   have HQ:=zA (HM.out hq)
   clear hq
   go_wp2_with (go_at_fn fv;refine (HF.out).mono ?_;rintro e w5 ⟨rfl,hb5⟩;have hB:=zA (below_step HB.out hb5);clear hb5)
   go_roundg (l0.length - (k+1))
   case measure=>omega
   case rel=>exact ⟨k+1,by omega,by omega,by go_num,hB,HQ⟩
  | true=>
   rw [hq] at HF
   have HF:=zA HF
   have HQ:=zA (HH.out hq)
   clear hq
   go_wp2_with (go_at_fn fv;refine (HF.out).mono ?_;rintro e w5 ⟨rfl,hb5⟩;have hB:=zA (below_step HB.out hb5);clear hb5)
   go_ret
   exact ⟨(k:Int),rfl,by rw [HQ.out];simp,hB.out⟩
set_option maxHeartbeats 2000000 in
theorem cf_rl1 (fv:Nat)(ef:∀ args w,(callFunc fv args).run Tryz.prog w = .ok (.enter fv args) w)(v1:Value)(p:Rl→Bool)(A0:Option Addr)(c0:Nat)(l0:List Rl)(w:World)
    (hr0:Kd.C k60 w A0 l0.length l0) (hc0:l0.length≤c0) (hP:∀ x ∈ l0,∀ W A3 c3,Below w.heap.size w W→Kd.C k57 W A3 x.f3.length x.f3→x.f3.length≤c3→Calls Tryz.prog fv #[.agg #[.int .u8 x.f0,.int .i64 x.f1,.bool x.f2,.slice A3 x.f3.length c3],v1] W fun e w'=>e = .returned (.bool (p x))∧Below W.heap.size W w') :
    Calls Tryz.prog 64 #[.slice A0 l0.length c0,.func (.func fv) #[] #[v1]] w fun e w'=>e = .returned (.bool (l0.any p))∧Below w.heap.size w w':=by
 have HE:=ixf_rl1 fv ef v1 p A0 c0 l0 w hr0 hc0 hP
 clear hr0 hP
 generalize l0.any p=B at *
 go_enter Tryz.func64,Tryz.ntmps64
 go_wp2_with (go_at_call 86;refine HE.mono ?_;rintro e w5 ⟨i,rfl,hi,hb5⟩;have HI:=zA hi;have HB:=zA hb5;clear hi hb5)
 go_ret
 exact ⟨by rw [← HI.out];rfl,HB.out⟩
set_option maxHeartbeats 2000000 in
set_option maxRecDepth 100000 in
theorem ixf_rw1 (fv:Nat)(ef:∀ args w,(callFunc fv args).run Tryz.prog w = .ok (.enter fv args) w)(v1:Value)(p:List Rl→Bool)(A0:Option Addr)(c0:Nat)(l0:List (List Rl))(w:World)
    (hr0:Kd.C (Kd.slice 60 k60) w A0 l0.length l0) (hc0:l0.length≤c0) (hP:∀ x ∈ l0,∀ W A3 c3,Below w.heap.size w W→Kd.C k60 W A3 x.length x→x.length≤c3→Calls Tryz.prog fv #[.slice A3 x.length c3,v1] W fun e w'=>e = .returned (.bool (p x))∧Below W.heap.size W w') :
    Calls Tryz.prog 85 #[.slice A0 l0.length c0,.func (.func fv) #[] #[v1]] w fun e w'=>∃ i:Int,e = .returned (.int .i64 i)∧decide (i≥0)=l0.any p∧Below w.heap.size w w':=by
 have hn:=hr0.2.1
 have L0:=zA (fun W (hb:Below w.heap.size w W)=>Kd.C_below hr0 hb)
 have HP:=zA hP
 clear hr0 hP
 go_enter Tryz.func85,Tryz.ntmps85
 go_wp2
 go_loopg [8] l0.length (fun gg s8 wr=>∃ k:Nat,k≤l0.length∧l0.length - k≤gg∧s8 = .int .i64 k∧Aside0 (Below w.heap.size w wr)∧Aside0 ((l0.take k).any p=false))
 case atStart=>exact ⟨0,by omega,by omega,rfl,⟨Below.refl _ _⟩,⟨by simp⟩⟩
 case round=>
  obtain ⟨k,hk,hg,rfl,HB,HT⟩:=hrel
  by_cases hlt:k<l0.length
  rotate_left
  ·have j1:decide ((k:Int)<(l0.length:Int))=false:=zD (by omega)
   have HQ:=zA (any_end (p:=p) (by omega) HT.out)
   go_wp2
   go_ret
   exact ⟨-1,rfl,by rw [HQ.out];rfl,HB.out⟩
  have j1:decide ((k:Int)<(l0.length:Int))=true:=zC (by omega)
  obtain ⟨ad,A3,c3,rfl,x0,hx3,HX⟩:=row_at (L0.out wr HB.out) k hlt
  have p0:(0≤(k:Int))=True:=eq_true (by omega)
  have m2:decide (k<l0.length)=true:=zC hlt
  have m3:((k:Int)<(l0.length:Int))=True:=eq_true (by omega)
  have m4:(k<l0.length)=True:=eq_true hlt
  have HM:=zA (fun he=>any_more (p:=p) ([]:List Rl) hlt HT.out he)
  have HH:=zA (fun he=>any_hit (p:=p) ([]:List Rl) hlt he)
  have HF:=HP.out _ (getD_mem ([]:List Rl) hlt) wr A3 c3 HB.out HX hx3
  generalize l0.getD k []=X at *
  cases hq:p X with
  | false=>
   rw [hq] at HF
   have HF:=zA HF
   have HQ:=zA (HM.out hq)
   clear hq
   go_wp2_with (go_at_fn fv;refine (HF.out).mono ?_;rintro e w5 ⟨rfl,hb5⟩;have hB:=zA (below_step HB.out hb5);clear hb5)
   go_roundg (l0.length - (k+1))
   case measure=>omega
   case rel=>exact ⟨k+1,by omega,by omega,by go_num,hB,HQ⟩
  | true=>
   rw [hq] at HF
   have HF:=zA HF
   have HQ:=zA (HH.out hq)
   clear hq
   go_wp2_with (go_at_fn fv;refine (HF.out).mono ?_;rintro e w5 ⟨rfl,hb5⟩;have hB:=zA (below_step HB.out hb5);clear hb5)
   go_ret
   exact ⟨(k:Int),rfl,by rw [HQ.out];simp,hB.out⟩
set_option maxHeartbeats 2000000 in
theorem cf_rw1 (fv:Nat)(ef:∀ args w,(callFunc fv args).run Tryz.prog w = .ok (.enter fv args) w)(v1:Value)(p:List Rl→Bool)(A0:Option Addr)(c0:Nat)(l0:List (List Rl))(w:World)
    (hr0:Kd.C (Kd.slice 60 k60) w A0 l0.length l0) (hc0:l0.length≤c0) (hP:∀ x ∈ l0,∀ W A3 c3,Below w.heap.size w W→Kd.C k60 W A3 x.length x→x.length≤c3→Calls Tryz.prog fv #[.slice A3 x.length c3,v1] W fun e w'=>e = .returned (.bool (p x))∧Below W.heap.size W w') :
    Calls Tryz.prog 62 #[.slice A0 l0.length c0,.func (.func fv) #[] #[v1]] w fun e w'=>e = .returned (.bool (l0.any p))∧Below w.heap.size w w':=by
 have HE:=ixf_rw1 fv ef v1 p A0 c0 l0 w hr0 hc0 hP
 clear hr0 hP
 generalize l0.any p=B at *
 go_enter Tryz.func62,Tryz.ntmps62
 go_wp2_with (go_at_call 85;refine HE.mono ?_;rintro e w5 ⟨i,rfl,hi,hb5⟩;have HI:=zA hi;have HB:=zA hb5;clear hi hb5)
 go_ret
 exact ⟨by rw [← HI.out];rfl,HB.out⟩
end Go.Proofs.YtgfajgkjbckkgaaGreatDoor.PZ
end
section
set_option maxRecDepth 100000
namespace Go.Proofs.YtgfajgkjbckkgaaGreatDoor.PZ
open Go.ChangeShapes Go.WideShapes Go.ChangeAt Go.RowKit Go.Proofs.YtgfajgkjbckkgaaGreatDoorW.PrintWords
section
section
variable {H:Type}{enc:TypeId×Value→H}{W:World}
theorem weightsAll_mem {P:Program}{e:TypeId}:∀ {ds:List (DataW H)} {d:DataW H},d ∈ ds→∀ n ∈ d.weights P e,n ∈ DataW.weightsAll P e ds
  | [],_,h,_,_=>by cases h
  | d0 :: ds,d,h,n,hn=>by
    rw [DataW.weightsAll,List.mem_append]
    rcases List.mem_cons.1 h with rfl|h
    · exact .inl hn
    · exact .inr (weightsAll_mem h n hn)
theorem open_sl {α:Type}(d:Kd α)(Q:α→Prop)(t q bytes:Nat)(hU:Tryz.prog.underlying t=some (.slice q))(hC:Tryz.prog.cellsOf q=d.sz)(hB:Tryz.prog.bytesOf q=bytes)(hb1:1≤bytes)
    (he:∀ {fuel:Nat} {cs:List Value} {y:DataW H×List MemPlace},DataW.trod enc Tryz.prog W 0 (fun _=>true) true fuel q cs=some y→(∀ n ∈ y.1.weights Tryz.prog q,n≤reachBytes)→∃ x:α,d.K W x cs∧Q x)
    {fuel:Nat} {cs:List Value} {y:DataW H×List MemPlace} (h:DataW.trod enc Tryz.prog W 0 (fun _=>true) true fuel t cs=some y) (hz:∀ n ∈ y.1.weights Tryz.prog t,n≤reachBytes) :
    ∃ (A:Option Addr) (l:List α) (c:Nat),cs=[.slice A l.length c]∧d.C W A l.length l∧l.length≤c∧OkL bytes Q l:=by
 rcases DataW.trod_slice hU h with ⟨hcs,_⟩|⟨a,len,cap,elems,rest,n,_,hcs,hx,_,hl,hm,hlen,hel,_,_⟩
 · exact ⟨none,[],0,hcs,Kd.C_nil _ _,Nat.le_refl _,by unfold OkL;simp⟩
 have each:∀ i:Fin len,∃ (x:α) (c:List Value),W.cells? 0 (a.add (i.1 * d.sz)) d.sz=some c∧d.K W x c∧Q x:=by
  intro ⟨i,hi⟩
  have hE:=hel i hi
  have hil:i<elems.length:=by omega
  rw [hC,List.getElem?_eq_getElem hil,Option.bind_eq_some_iff] at hE
  obtain ⟨c,hc,hy⟩:=hE
  obtain ⟨x,hK,hQ⟩:=he hy (fun n hn=>hz n (by
   rw [hx]
   simp only [DataW.weights,hU]
   refine List.mem_cons_of_mem _ (List.mem_append_left _ (weightsAll_mem (d:=elems[i].1) ?_ n hn))
   exact List.mem_map_of_mem (List.getElem_mem hil)))
  exact ⟨x,c,hc,hK,hQ⟩
 have hk:=hz ((elems.length+rest.length) * bytes) (by rw [hx];simp [DataW.weights,hU,hB])
 have hr:reachBytes=140737488351232:=rfl
 rw [hr] at hk
 have hlb:len * bytes≤140737488351232:=Nat.le_trans (Nat.mul_le_mul_right _ (by omega)) hk
 have hll:len≤140737488351232:=Nat.le_trans (Nat.le_mul_of_pos_right _ hb1) hlb
 refine ⟨some a,List.ofFn fun i=>Classical.choose (each i),cap,by rw [hcs];simp,⟨rfl,by rw [List.length_ofFn];omega,fun _=>⟨a,rfl,fun j p hj=>?_⟩⟩,by simpa using hl,?_,fun x hx=>?_⟩
 ·obtain ⟨hj1,hj2⟩:=List.getElem?_eq_some_iff.1 hj
  have hj3:j<len:=by simpa using hj1
  have hp:p=Classical.choose (each ⟨j,hj3⟩):=by rw [← hj2];simp
  obtain ⟨c,hc,hK,_⟩:=Classical.choose_spec (each ⟨j,hj3⟩)
  rw [← hp] at hK
  obtain ⟨_,hcl,hcc⟩:=World.cells?_some hc
  refine ⟨c,hcl,hK,fun i u hi=>?_⟩
  obtain ⟨hi1,_⟩:=List.getElem?_eq_some_iff.1 hi
  have:=hcc i (by omega)
  rw [Addr.add_add] at this
  rw [this];exact hi
 · rw [List.length_ofFn];exact hlb
 obtain ⟨i,rfl⟩:=List.mem_ofFn.1 hx
 exact (Classical.choose_spec (each i)).choose_spec.2.2
section
variable {fuel:Nat}{cs:List Value}{y:DataW H×List MemPlace}
theorem el_g (h:DataW.trod enc Tryz.prog W 0 (fun _=>true) true fuel 57 cs=some y)(_:∀ n ∈ y.1.weights Tryz.prog 57,n≤reachBytes):∃ x:Rg,k57.K W x cs∧OkG x:=by
 obtain ⟨xs,m,_,_,hl,hlen,hf⟩:=DataW.trod_array Tryz.underlying57 h
 have hl':cs.length=2:=hl.trans (by kernel_rfl)
 have e:Tryz.prog.cellsOf 3=1:=by kernel_rfl
 match cs,hl' with
 | [u,v],_=>
  have h0:=hf 0 (by omega)
  have h1:=hf 1 (by omega)
  rw [e] at h0 h1
  rw [List.getElem?_eq_getElem (by omega)] at h0 h1
  obtain ⟨b0,g0,_,w0⟩:=DataW.trod_int Tryz.underlying3 h0
  obtain ⟨b1,g1,_,w1⟩:=DataW.trod_int Tryz.underlying3 h1
  obtain rfl:u = .int .i64 b0:=by simpa using g0
  obtain rfl:v = .int .i64 b1:=by simpa using g1
  exact ⟨⟨b0,b1⟩,k57_mk W ⟨b0,b1⟩,w0,w1⟩
theorem sl_g (h:DataW.trod enc Tryz.prog W 0 (fun _=>true) true fuel 58 cs=some y)(hz:∀ n ∈ y.1.weights Tryz.prog 58,n≤reachBytes) :
    ∃ (A:Option Addr) (l:List Rg) (c:Nat),cs=[.slice A l.length c]∧k57.C W A l.length l∧l.length≤c∧OkL 16 OkG l:=
  open_sl k57 OkG _ _ 16 Tryz.underlying58 (by kernel_rfl) (by kernel_rfl) (by decide) el_g h hz
theorem el_x (h:DataW.trod enc Tryz.prog W 0 (fun _=>true) true fuel 60 cs=some y)(hz:∀ n ∈ y.1.weights Tryz.prog 60,n≤reachBytes):∃ x:Rl,k60.K W x cs∧OkX x:=by
 obtain ⟨ys,n,_,hy,hl,hlen,hf⟩:=DataW.trod_struct Tryz.underlying60 h
 have hl':cs.length=4:=hl.trans (by kernel_rfl)
 have hlen':ys.length=4:=hlen
 have e0:Tryz.prog.cellsOf 5=1:=by kernel_rfl
 have e1:Tryz.prog.cellsOf 3=1:=by kernel_rfl
 have e2:Tryz.prog.cellsOf 4=1:=by kernel_rfl
 have e3:Tryz.prog.cellsOf 58=1:=by kernel_rfl
 match cs,hl' with
 | [u0,u1,u2,u3],_=>
  have h0:DataW.trod enc Tryz.prog W 0 (fun _=>true) true n 5 (([u0,u1,u2,u3].drop 0).take (Tryz.prog.cellsOf 5))=ys[0]?:=hf 0 _ rfl
  have h1:DataW.trod enc Tryz.prog W 0 (fun _=>true) true n 3 (([u0,u1,u2,u3].drop 1).take (Tryz.prog.cellsOf 3))=ys[1]?:=hf 1 _ rfl
  have h2:DataW.trod enc Tryz.prog W 0 (fun _=>true) true n 4 (([u0,u1,u2,u3].drop 2).take (Tryz.prog.cellsOf 4))=ys[2]?:=hf 2 _ rfl
  have h3:DataW.trod enc Tryz.prog W 0 (fun _=>true) true n 58 (([u0,u1,u2,u3].drop 3).take (Tryz.prog.cellsOf 58))=ys[3]?:=hf 3 _ rfl
  rw [List.getElem?_eq_getElem (by omega)] at h0 h1 h2 h3
  rw [e0] at h0
  rw [e1] at h1
  rw [e2] at h2
  rw [e3] at h3
  obtain ⟨b0,g0,_,w0⟩:=DataW.trod_int (k:=.u8) Tryz.underlying5 h0
  obtain ⟨b1,g1,_,w1⟩:=DataW.trod_int Tryz.underlying3 h1
  obtain ⟨b2,g2,_⟩:=DataW.trod_bool Tryz.underlying4 h2
  obtain ⟨A,l,c,g3,hC,hc,hO⟩:=sl_g h3 (fun n hn=>hz n (by
   rw [hy]
   simp only [DataW.weights,Tryz.underlying60]
   exact DataW.weights_mem_each (j:=3) (t:=58) (d:=ys[3].1) rfl (by rw [List.getElem?_map,List.getElem?_eq_getElem (by omega)];rfl) n hn))
  obtain rfl:u0 = .int .u8 b0:=by simpa using g0
  obtain rfl:u1 = .int .i64 b1:=by simpa using g1
  obtain rfl:u2 = .bool b2:=by simpa using g2
  obtain rfl:u3 = .slice A l.length c:=by simpa using g3
  exact ⟨⟨b0,b1,b2,l⟩,k60_mk W ⟨b0,b1,b2,l⟩ hc hC,w0,w1,hO⟩
theorem sl_x (h:DataW.trod enc Tryz.prog W 0 (fun _=>true) true fuel 61 cs=some y)(hz:∀ n ∈ y.1.weights Tryz.prog 61,n≤reachBytes) :
    ∃ (A:Option Addr) (l:List Rl) (c:Nat),cs=[.slice A l.length c]∧k60.C W A l.length l∧l.length≤c∧OkL 48 OkX l:=
  open_sl k60 OkX _ _ 48 Tryz.underlying61 (by kernel_rfl) (by kernel_rfl) (by decide) el_x h hz
theorem sl_c (h:DataW.trod enc Tryz.prog W 0 (fun _=>true) true fuel 44 cs=some y)(hz:∀ n ∈ y.1.weights Tryz.prog 44,n≤reachBytes) :
    ∃ (A:Option Addr) (l:List (List Rl)) (c:Nat),cs=[.slice A l.length c]∧(Kd.slice 60 k60).C W A l.length l∧l.length≤c∧OkC l:=
  open_sl (Kd.slice 60 k60) (OkL 48 OkX) _ _ 24 Tryz.underlying44 (by kernel_rfl) (by kernel_rfl) (by decide) (fun h hz=>by
    obtain ⟨A,l,c,e,hC,hc,hO⟩:=sl_x h hz
    exact ⟨l,⟨A,c,e,hc,hC⟩,hO⟩) h hz
theorem el_ru (h:DataW.trod enc Tryz.prog W 0 (fun _=>true) true fuel 65 cs=some y)(hz:∀ n ∈ y.1.weights Tryz.prog 65,n≤reachBytes):∃ x:S65,k65.K W x cs∧OkRu x:=by
 obtain ⟨ys,n,_,hy,hl,hlen,hf⟩:=DataW.trod_struct Tryz.underlying65 h
 have hl':cs.length=2:=hl.trans (by kernel_rfl)
 have hlen':ys.length=2:=hlen
 have e1:Tryz.prog.cellsOf 3=1:=by kernel_rfl
 have e3:Tryz.prog.cellsOf 44=1:=by kernel_rfl
 match cs,hl' with
 | [u0,u1],_=>
  have h0:DataW.trod enc Tryz.prog W 0 (fun _=>true) true n 3 (([u0,u1].drop 0).take (Tryz.prog.cellsOf 3))=ys[0]?:=hf 0 _ rfl
  have h1:DataW.trod enc Tryz.prog W 0 (fun _=>true) true n 44 (([u0,u1].drop 1).take (Tryz.prog.cellsOf 44))=ys[1]?:=hf 1 _ rfl
  rw [List.getElem?_eq_getElem (by omega)] at h0 h1
  rw [e1] at h0
  rw [e3] at h1
  obtain ⟨b0,g0,_,w0⟩:=DataW.trod_int Tryz.underlying3 h0
  obtain ⟨A,l,c,g1,hC,hc,hO⟩:=sl_c h1 (fun n hn=>hz n (by
   rw [hy]
   simp only [DataW.weights,Tryz.underlying65]
   exact DataW.weights_mem_each (j:=1) (t:=44) (d:=ys[1].1) rfl (by rw [List.getElem?_map,List.getElem?_eq_getElem (by omega)];rfl) n hn))
  obtain rfl:u0 = .int .i64 b0:=by simpa using g0
  obtain rfl:u1 = .slice A l.length c:=by simpa using g1
  exact ⟨⟨b0,l⟩,k65_mk W ⟨b0,l⟩ hc hC,w0,hO⟩
theorem sl_ru (h:DataW.trod enc Tryz.prog W 0 (fun _=>true) true fuel 28 cs=some y)(hz:∀ n ∈ y.1.weights Tryz.prog 28,n≤reachBytes) :
    ∃ (A:Option Addr) (l:List S65) (c:Nat),cs=[.slice A l.length c]∧k65.C W A l.length l∧l.length≤c∧OkRus l:=
  open_sl k65 OkRu _ _ 32 Tryz.underlying28 (by kernel_rfl) (by kernel_rfl) (by decide) el_ru h hz
end
end
theorem trod_error {fuel:Nat}{t:TypeId}{ms:Array (String×TypeId)}{cs:List Value}{p:List MemPlace}{W:World}(hU:Tryz.prog.underlying t=some (.interface ms)){nm:String}{d2:DataW Unit}
    (h:DataW.trod (fun _=>()) Tryz.prog W 0 (fun _=>true) false fuel t cs=some (.iface nm d2,p)):∃ tp v,cs=[.iface tp v]:=by
 cases fuel with
 | zero=>simp [DataW.trod] at h
 | succ n=>
  unfold DataW.trod at h
  rw [hU] at h
  split at h <;> simp_all
end
end Go.Proofs.YtgfajgkjbckkgaaGreatDoor.PZ
end
section
set_option maxRecDepth 100000
namespace Go.Proofs.YtgfajgkjbckkgaaGreatDoor.PZ
open Go.RowKit Go.Proofs.YtgfajgkjbckkgaaGreatDoorW.PrintWords Go.Proofs.YtgfajgkjbckkgaaGreatDoorW.PrintLast
theorem take_run (p:Int→Bool)(t:List Int):t.take (runL p t)=t.takeWhile p:=by
 induction t with
 | nil=>rfl
 | cons c t ih=>
  rw [runL_cons,List.takeWhile_cons]
  split
  · rw [List.take_succ_cons,ih]
  rfl
theorem take_all (p:Int→Bool):∀ (t:List Int),∀ c ∈ t.takeWhile p,p c=true
  | [],_,h=>by simp at h
  | x :: t,c,h=>by
    rw [List.takeWhile_cons] at h
    split at h
    · rename_i hx
      rcases List.mem_cons.1 h with rfl|h
      · exact hx
      · exact take_all p t c h
    · simp at h
theorem decv_lt {l:List Int}(h:∀ c ∈ l,isDi c=true):0≤decv l∧decv l<T10 l.length:=by
 have e:l=(l.map fun c=>c - 48).map chr:=by
  rw [List.map_map]
  conv=>lhs;rw [← List.map_id l]
  apply List.map_congr_left
  intro c _
  simp only [Function.comp_apply,id,chr]
  omega
 have hf:Figs (l.map fun c=>c - 48):=by
  intro d hd
  obtain ⟨c,hc,rfl⟩:=List.mem_map.1 hd
  have:=h c hc
  unfold isDi at this
  simp at this
  omega
 have:=num_lt hf
 rw [e,decv_chr]
 simpa using this
theorem num_some {least:Int}{t:List Int}{v:Int}{n:Nat}(h:numP least t=(some v,n)):0≤v∧least≤v∧v≤999999999:=by
 unfold numP at h
 simp only at h
 split at h
 · cases h
 rename_i hn
 simp only [not_or,Nat.not_lt,Int.not_lt] at hn
 obtain ⟨h1,h2,h3,h4⟩:=hn
 have hv:=congrArg Prod.fst h
 simp only [Option.some.injEq] at hv
 have hd:=decv_lt (l:=(t.drop (bl t)).take (runL isDi (t.drop (bl t)))) (by
  intro c hc
  rw [take_run] at hc
  exact take_all _ _ c hc)
 have hl:((t.drop (bl t)).take (runL isDi (t.drop (bl t)))).length≤9:=by rw [List.length_take];omega
 have ht:=T10_le hl
 have e9:T10 9=1000000000:=by decide
 rw [hv] at hd h4
 omega
theorem one_some {t:List Int}{r:Rg}{n:Nat}(h:oneP t=(some r,n)):GoodG r:=by
 unfold oneP at h
 rcases h1:numP 0 t with ⟨_|a,m⟩
 · rw [h1] at h;cases h
 rw [h1] at h
 have ha:=num_some h1
 simp only at h
 split at h
 ·rcases h2:numP (a+1) (t.drop (m+(bl (t.drop m)+2))) with ⟨_|b,j⟩
  · rw [h2] at h;cases h
  rw [h2] at h
  have hb:=num_some h2
  simp only [Prod.mk.injEq,Option.some.injEq] at h
  rw [← h.1]
  exact ⟨by simp;omega,by simp;omega,by simp;omega⟩
 simp only [Prod.mk.injEq,Option.some.injEq] at h
 rw [← h.1]
 exact ⟨by simp;omega,by simp,by simp;omega⟩
theorem rng_some:∀ (k:Nat) (t:List Int) (l:List Rg) (n:Nat),rngF k t=(some l,n)→l≠[]∧∀ r ∈ l,GoodG r
  | 0,_,_,_,h=>by cases h
  | k+1,t,l,n,h=>by
    rw [rngF] at h
    rcases h1:oneP t with ⟨_|a,m⟩
    · rw [h1] at h;cases h
    rw [h1] at h
    have ha:=one_some h1
    simp only at h
    split at h
    · rcases h2:rngF k (t.drop (m+(bl (t.drop m)+1))) with ⟨_|b,j⟩
      · rw [h2] at h;cases h
      rw [h2] at h
      have hb:=rng_some k _ _ _ h2
      simp only [Prod.mk.injEq,Option.some.injEq] at h
      rw [← h.1]
      exact ⟨by simp,fun r hr=>by
        rcases List.mem_cons.1 hr with rfl|hr
        · exact ha
        · exact hb.2 r hr⟩
    · simp only [Prod.mk.injEq,Option.some.injEq] at h
      rw [← h.1]
      exact ⟨by simp,fun r hr=>by rw [List.mem_singleton.1 hr];exact ha⟩
theorem mod_some {t:List Int}{v:Int}{n:Nat}(h:modP t=(some v,n)):0≤v∧v≤999999999:=by
 unfold modP at h
 split at h
 ·rcases h2:numP 1 (t.drop (bl t+1)) with ⟨_|b,j⟩
  · rw [h2] at h;cases h
  rw [h2] at h
  have hb:=num_some h2
  simp only [Prod.mk.injEq,Option.some.injEq] at h
  omega
 simp only [Prod.mk.injEq,Option.some.injEq] at h
 omega
theorem op_some {t:List Int}{v:Int}{n:Nat}(h:opP t=(some v,n)):isOp v=true:=by
 unfold opP at h
 split at h
 ·rename_i hc
  simp only [Prod.mk.injEq,Option.some.injEq] at h
  rw [← h.1]
  exact hc.2
 cases h
theorem rel_some {t:List Int}{x:Rl}{n:Nat}(h:relP t=(some x,n)):GoodX x:=by
 unfold relP at h
 rcases h1:opP t with ⟨_|c,m⟩
 · rw [h1] at h;cases h
 rw [h1] at h
 simp only at h
 rcases h2:modP (t.drop m) with ⟨_|v,j⟩
 · rw [h2] at h;cases h
 rw [h2] at h
 simp only at h
 rcases h3:notP (t.drop (m+j)) with ⟨_|b,i⟩
 · rw [h3] at h;cases h
 rw [h3] at h
 simp only at h
 rcases h4:rngP (t.drop (m+j+i)) with ⟨_|l,q⟩
 · rw [h4] at h;cases h
 rw [h4] at h
 simp only [Prod.mk.injEq,Option.some.injEq] at h
 rw [← h.1]
 have a1:=op_some h1
 have a2:=mod_some h2
 have a3:=rng_some _ _ _ _ h4
 exact ⟨a1,a2.1,a2.2,a3.1,a3.2⟩
theorem rels_some:∀ (k:Nat) (t:List Int) (r:List (Rl×Bool)) (n:Nat),relsF k t=(some r,n)→Ends r∧∀ x ∈ r,GoodX x.1
  | 0,_,_,_,h=>by cases h
  | k+1,t,l,n,h=>by
    rw [relsF] at h
    rcases h1:relP t with ⟨_|a,m⟩
    · rw [h1] at h;cases h
    rw [h1] at h
    have ha:=rel_some h1
    simp only at h
    have more:∀ (o:Bool) (q:Nat) (j:Nat) (b:List (Rl×Bool)),relsF k (t.drop q)=(some b,j)→Ends ((a,o) :: b)∧∀ x ∈ (a,o) :: b,GoodX x.1:=by
     intro o q j b hb
     obtain ⟨⟨u,y,hy⟩,hg⟩:=rels_some k _ _ _ hb
     exact ⟨⟨(a,o) :: u,y,by rw [hy];rfl⟩,fun r hr=>by
      rcases List.mem_cons.1 hr with rfl|hr
      · exact ha
      exact hg r hr⟩
    split at h
    · simp only [Prod.mk.injEq,Option.some.injEq] at h
      rw [← h.1]
      exact ⟨⟨[],a,rfl⟩,fun r hr=>by rw [List.mem_singleton.1 hr];exact ha⟩
    · split at h
      · rcases h2:relsF k (t.drop (m+bl (t.drop m)+2)) with ⟨_|b,j⟩
        · rw [h2] at h;cases h
        rw [h2] at h
        simp only [Prod.mk.injEq,Option.some.injEq] at h
        rw [← h.1]
        exact more _ _ _ _ h2
      · split at h
        · rcases h2:relsF k (t.drop (m+bl (t.drop m)+3)) with ⟨_|b,j⟩
          · rw [h2] at h;cases h
          rw [h2] at h
          simp only [Prod.mk.injEq,Option.some.injEq] at h
          rw [← h.1]
          exact more _ _ _ _ h2
        · cases h
theorem join_cons (sep x:List Int){l:List (List Int)}(h:l≠[]):joinT sep (x :: l)=x ++ (sep ++ joinT sep l):=by
 cases l with
 | nil=>exact absurd rfl h
 | cons y l=>simp [joinT]
theorem join_snoc (sep x:List Int){l:List (List Int)}(h:l≠[]):joinT sep (l ++ [x])=joinT sep l ++ (sep ++ x):=by
 cases l with
 | nil=>exact absurd rfl h
 | cons y l=>simp [joinT]
theorem rowsOf_ne (l:List Rl)(r:List (Rl×Bool)):rowsOf l r≠[]:=by
 induction r generalizing l with
 | nil=>simp [rowsOf]
 | cons x r ih=>obtain ⟨x,_|_⟩:=x <;> simp [rowsOf,ih]
theorem ends_tail {x y:Rl×Bool}{r:List (Rl×Bool)}(h:Ends (x :: y :: r)):Ends (y :: r):=by
 obtain ⟨a,z,hz⟩:=h
 cases a with
 | nil=>simp at hz
 | cons w a=>exact ⟨a,z,by simp at hz;exact hz.2⟩
theorem ends_one {x:Rl}{o:Bool}(h:Ends [(x,o)]):o=false:=by
 obtain ⟨a,y,hy⟩:=h
 have:=congrArg List.getLast? hy
 simp at this
 exact this.2
def ahead (sp:List Int)(l:List Rl):List Int:=if l=[] then [] else rowT sp l ++ (sp ++ wordAnd ++ sp)
theorem row_snoc (sp:List Int)(l:List Rl)(x:Rl):rowT sp (l ++ [x])=ahead sp l ++ relT sp x:=by
 unfold ahead
 by_cases h:l=[]
 · subst h;simp [rowT,joinT]
 rw [if_neg h]
 unfold rowT
 rw [List.map_append,List.map_cons,List.map_nil,join_snoc _ _ (by simpa using h)]
 simp only [List.append_assoc]
theorem cond_rows (sp:List Int):∀ (r:List (Rl×Bool)) (l:List Rl),Ends r→condT sp (rowsOf l r)=ahead sp l ++ runT sp r
  | [],_,⟨a,x,h⟩=>by simp at h
  | [(x,o)],l,h=>by
    obtain rfl:=ends_one h
    simp only [rowsOf,condT,List.map_cons,List.map_nil,joinT,List.flatMap_nil,List.append_nil,runT]
    exact row_snoc sp l x
  | (x,true) :: y :: r,l,h=>by
    have ih:=cond_rows sp (y :: r) [] (ends_tail h)
    simp only [rowsOf] at ih ⊢
    have hne:(rowsOf [] (y :: r)).map (rowT sp)≠[]:=by simpa using rowsOf_ne [] (y :: r)
    rw [runT_cons sp x true (by simp)]
    unfold condT at ih ⊢
    rw [List.map_cons,join_cons _ _ hne,ih,row_snoc]
    simp [ahead,wrd]
  | (x,false) :: y :: r,l,h=>by
    have ih:=cond_rows sp (y :: r) (l ++ [x]) (ends_tail h)
    simp only [rowsOf] at ih ⊢
    rw [ih,runT_cons sp x false (by simp)]
    unfold ahead
    rw [if_neg (by simp)]
    rw [row_snoc]
    unfold ahead
    simp [wrd]
theorem right_runs {c:List (List Rl)}(h:rightP c=true):∃ r,Ends r∧(∀ x ∈ r,GoodX x.1)∧rowsOf [] r=c∧(∀ sp,condT sp c=runT sp r)∧fullP r=false∧(runT [32] r).length≤400:=by
 unfold rightP at h
 rw [Bool.and_eq_true,decide_eq_true_eq,decide_eq_true_eq] at h
 obtain ⟨h1,h2⟩:=h
 unfold parseP at h1 h2
 by_cases hl:400<(condT [32] c).length
 · rw [if_pos hl] at h1;simp at h1
 rw [if_neg hl] at h1 h2
 rcases hh:relsP (condT [32] c) with ⟨_|r,n⟩
 · rw [hh] at h1;simp at h1
 rw [hh] at h1 h2
 simp only at h1 h2
 by_cases hf:fullP r=true
 · rw [if_pos hf] at h1;simp at h1
 rw [if_neg hf] at h2
 simp only at h2
 obtain ⟨hE,hg⟩:=rels_some _ _ _ _ hh
 have ht:∀ sp,condT sp c=runT sp r:=fun sp=>by
  rw [h2,cond_rows sp r [] hE]
  rfl
 exact ⟨r,hE,hg,h2.symm,ht,by simpa using hf,by rw [← ht];omega⟩
end Go.Proofs.YtgfajgkjbckkgaaGreatDoor.PZ
end
section
noncomputable section
namespace Go.Proofs.YtgfajgkjbckkgaaGreatDoor.PZ
open Go.RowKit Go.Proofs.YtgfajgkjbckkgaaGreatDoorW.PrintWords Go.Proofs.YtgfajgkjbckkgaaGreatDoorW.PrintLast Go.Proofs.YtgfajgkjbckkgaaGreatDoorW.PrintMore
attribute [local go_sem] max2_int min2_int max_two min_two max_three min_three max_four min_four   -- for this text's walks alone
def oper_In.f (l0:List Int)(a1:Int)(a2:Int):Option (Bool):=(oper_bare.f l0).bind fun ab=>(if a2≥0 then ((oper_number.f (mx a1 0)).bind fun ae=>((oper_compared.f ab ae).bind fun ad=>(if ad≥0 then ((oper_number.f a2).bind fun af=>((oper_compared.f ab af).bind fun ag=>(some (decide (ag≤0))))) else (some false)))) else (some false))
set_option maxHeartbeats 8000000 in
set_option maxRecDepth 100000 in
theorem oper_In.calls (A0:Option Addr)(c0:Nat)(l0:List Int)(a1:Int)(a2:Int)(r:Bool)(w:World)(hG:GL w)(hr0:Kd.C (Kd.int .u8) w A0 l0.length l0)(hc0:l0.length≤c0)(h:oper_In.f l0 a1 a2=some r) :
  Calls Tryz.prog 84 #[.slice A0 l0.length c0,.int .i64 a1,.int .i64 a2] w fun e w'=>e = .returned (.bool r)∧Below w.heap.size w w':=by
 have HR0:=zS hr0
 have HC0:=zS hc0
 clear hr0 hc0
 have HB:=zS (Below.refl w.heap.size w)
 have HG:=zS hG
 clear hG
 have H:((oper_bare.f l0).bind fun ab=>(if a2≥0 then ((oper_number.f (mx a1 0)).bind fun ae=>((oper_compared.f ab ae).bind fun ad=>(if ad≥0 then ((oper_number.f a2).bind fun af=>((oper_compared.f ab af).bind fun ag=>(some (decide (ag≤0))))) else (some false)))) else (some false)))=some r:=h
 clear h
 replace H:=Option.bind_eq_some_iff.mp H
 obtain ⟨ab,A40,H⟩:=H
 try dsimp only at H
 have A4:=zS A40
 clear A40
 by_cases c5:a2≥0
 rotate_left
 ·rw [if_neg c5] at H
  have am:decide (0≤a2)=false:=zD c5
  clear c5
  obtain rfl:=zE H
  go_enter Tryz.func84,Tryz.ntmps84
  go_wp2_with (first|((with_reducible refine gate_callee (f:=107) rfl ?_);refine gL (some 8) Tryz.func107 #[.slice A0 l0.length c0] ?_;(with_reducible refine (oper_bare.calls (fun k_=>k_<w.heap.size) _ _ l0 ab _ ?side1 A4.out).mono ?_);(case side1=>exact Kd.V_mk HC0.out (Kd.F_below (Kd.C_F (Kd.heap_int .u8) HR0.out) (bQ HB)));rintro e w22 ⟨aj,rfl,ho0,hb⟩;refine ⟨_,rfl,?_⟩;have aa:=zS (Kd.V_lower (Kd.V_mono (ok':=fun k_=>True) ho0 (fun k_ hk_=>trivial)) (bz HB));replace HB:=bs HB hb;(try clear hb);(try clear ho0)))
  go_ret
  exact ⟨by first|rfl|(simp <;> rfl)|(simp [*] <;> rfl),bQ HB⟩
 rw [if_pos c5] at H
 have am:decide (0≤a2)=true:=zC c5
 clear c5
 obtain ⟨ji6,ah⟩:∃ j_:Int,(mx a1 0)=j_:=⟨_,rfl⟩
 replace H:((oper_number.f (ji6)).bind fun ae=>((oper_compared.f ab ae).bind fun ad=>(if ad≥0 then ((oper_number.f a2).bind fun af=>((oper_compared.f ab af).bind fun ag=>(some (decide (ag≤0))))) else (some false))))=some r:=by first|(rw [ah] at H;exact H)|(simp only [ah] at H ⊢;exact H)
 (try rw [ah] at A4)
 (try (have hji6l:0≤ji6:=by (rw [← ah];unfold mx;(repeat' split) <;> omega)))
 (try (have hji6m:0≤ji6:=by omega))
 have aw:(if a1<0 then 0 else a1)=ji6:=ah
 replace H:=Option.bind_eq_some_iff.mp H
 obtain ⟨ae,A70,H⟩:=H
 try dsimp only at H
 have A7:=zS A70
 clear A70
 replace H:=Option.bind_eq_some_iff.mp H
 obtain ⟨ad,A80,H⟩:=H
 try dsimp only at H
 have A8:=zS A80
 clear A80
 by_cases c9:ad≥0
 ·rw [if_pos c9] at H
  have an:decide (0≤ad)=true:=zC c9
  clear c9
  replace H:=Option.bind_eq_some_iff.mp H
  obtain ⟨af,ak,H⟩:=H
  try dsimp only at H
  have A10:=zS ak
  clear ak
  replace H:=Option.bind_eq_some_iff.mp H
  obtain ⟨ag,al,H⟩:=H
  try dsimp only at H
  have A11:=zS al
  clear al
  obtain rfl:=zE H
  go_enter Tryz.func84,Tryz.ntmps84
  go_wp2_with (first|((with_reducible refine gate_callee (f:=107) rfl ?_);refine gL (some 8) Tryz.func107 #[.slice A0 l0.length c0] ?_;(with_reducible refine (oper_bare.calls (fun k_=>k_<w.heap.size) _ _ l0 ab _ ?side1 A4.out).mono ?_);(case side1=>exact Kd.V_mk HC0.out (Kd.F_below (Kd.C_F (Kd.heap_int .u8) HR0.out) (bQ HB)));rintro e w12 ⟨aj,rfl,ho0,hb⟩;refine ⟨_,rfl,?_⟩;have aa:=zS (Kd.V_lower (Kd.V_mono (ok':=fun k_=>True) ho0 (fun k_ hk_=>trivial)) (bz HB));replace HB:=bs HB hb;(try clear hb);(try clear ho0))|(go_at_call 109;(with_reducible refine (oper_number.calls ji6 ae _ ?side1 A7.out).mono ?_);(case side1=>refine GL.below HG.out ?_;exact bQ HB);rintro e w13 ⟨ao,rfl,ho0,hb⟩;replace aa:=vb aa hb;have ac:=zS (Kd.V_lower (Kd.V_mono (ok':=fun k_=>True) ho0 (fun k_ hk_=>trivial)) (bz HB));replace HB:=bs HB hb;(try clear hb);(try clear hb2);(try clear hk);(try clear hi);(try clear ho0);obtain ⟨ax,ay,ap⟩:=Kd.V_slice aa.out;subst ap;obtain ⟨az,aA,aq⟩:=Kd.V_slice ac.out;subst aq)|(go_at_call 108;(with_reducible refine (oper_compared.calls _ _ ab _ _ ae ad _ (vc aa) (vl aa) (vc ac) (vl ac) A8.out).mono ?_);rintro e w' ⟨rfl,⟨nd,rfl⟩⟩)|(go_at_call 109;(with_reducible refine (oper_number.calls a2 af _ ?side1 A10.out).mono ?_);(case side1=>refine GL.below HG.out ?_;exact bQ HB);rintro e w16 ⟨aB,rfl,ho0,hb⟩;replace aa:=vb aa hb;replace ac:=vb ac hb;have ai:=zS (Kd.V_lower (Kd.V_mono (ok':=fun k_=>True) ho0 (fun k_ hk_=>trivial)) (bz HB));replace HB:=bs HB hb;(try clear hb);(try clear hb2);(try clear hk);(try clear hi);(try clear ho0);obtain ⟨aC,aD,ar⟩:=Kd.V_slice ai.out;subst ar)|(go_at_call 108;(with_reducible refine (oper_compared.calls _ _ ab _ _ af ag _ (vc aa) (vl aa) (vc ai) (vl ai) A11.out).mono ?_);rintro e w' ⟨rfl,⟨nd,rfl⟩⟩))
  go_ret
  exact ⟨by first|rfl|(simp <;> rfl)|(simp only [← ah];first|rfl|(simp <;> rfl))|(simp [*] <;> rfl),bQ HB⟩
 rw [if_neg c9] at H
 have an:decide (0≤ad)=false:=zD c9
 clear c9
 obtain rfl:=zE H
 go_enter Tryz.func84,Tryz.ntmps84
 go_wp2_with (first|((with_reducible refine gate_callee (f:=107) rfl ?_);refine gL (some 8) Tryz.func107 #[.slice A0 l0.length c0] ?_;(with_reducible refine (oper_bare.calls (fun k_=>k_<w.heap.size) _ _ l0 ab _ ?side1 A4.out).mono ?_);(case side1=>exact Kd.V_mk HC0.out (Kd.F_below (Kd.C_F (Kd.heap_int .u8) HR0.out) (bQ HB)));rintro e w18 ⟨aj,rfl,ho0,hb⟩;refine ⟨_,rfl,?_⟩;have aa:=zS (Kd.V_lower (Kd.V_mono (ok':=fun k_=>True) ho0 (fun k_ hk_=>trivial)) (bz HB));replace HB:=bs HB hb;(try clear hb);(try clear ho0))|(go_at_call 109;(with_reducible refine (oper_number.calls ji6 ae _ ?side1 A7.out).mono ?_);(case side1=>refine GL.below HG.out ?_;exact bQ HB);rintro e w19 ⟨ao,rfl,ho0,hb⟩;replace aa:=vb aa hb;have ac:=zS (Kd.V_lower (Kd.V_mono (ok':=fun k_=>True) ho0 (fun k_ hk_=>trivial)) (bz HB));replace HB:=bs HB hb;(try clear hb);(try clear hb2);(try clear hk);(try clear hi);(try clear ho0);obtain ⟨aE,aF,au⟩:=Kd.V_slice aa.out;subst au;obtain ⟨aG,aH,av⟩:=Kd.V_slice ac.out;subst av)|(go_at_call 108;(with_reducible refine (oper_compared.calls _ _ ab _ _ ae ad _ (vc aa) (vl aa) (vc ac) (vl ac) A8.out).mono ?_);rintro e w' ⟨rfl,⟨nd,rfl⟩⟩))
 go_ret
 exact ⟨by first|rfl|(simp <;> rfl)|(simp only [← ah];first|rfl|(simp <;> rfl))|(simp [*] <;> rfl),bQ HB⟩
end Go.Proofs.YtgfajgkjbckkgaaGreatDoor.PZ
end
end
section
noncomputable section
namespace Go.Proofs.YtgfajgkjbckkgaaGreatDoor.PZ
open Go.RowKit Go.Proofs.YtgfajgkjbckkgaaGreatDoorW.PrintWords Go.Proofs.YtgfajgkjbckkgaaGreatDoorW.PrintLast Go.Proofs.YtgfajgkjbckkgaaGreatDoorW.PrintMore
attribute [local go_sem] max2_int min2_int max_two min_two max_three min_three max_four min_four   -- for this text's walks alone
end Go.Proofs.YtgfajgkjbckkgaaGreatDoor.PZ
end
end
section
noncomputable section
namespace Go.Proofs.YtgfajgkjbckkgaaGreatDoor.PZ
open Go.RowKit Go.Proofs.YtgfajgkjbckkgaaGreatDoorW.PrintWords Go.Proofs.YtgfajgkjbckkgaaGreatDoorW.PrintLast Go.Proofs.YtgfajgkjbckkgaaGreatDoorW.PrintMore
attribute [local go_sem] max2_int min2_int max_two min_two max_three min_three max_four min_four   -- for this text's walks alone
end Go.Proofs.YtgfajgkjbckkgaaGreatDoor.PZ
end
end
