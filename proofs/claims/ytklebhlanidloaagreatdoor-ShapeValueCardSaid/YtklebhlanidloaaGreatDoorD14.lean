/- Texts of this seat, joined. Conditions: none beyond each statement's own. -/
import Derived.Test.YtklebhlanidloaaGreatDoorD13
import Derived.Test.YtklebhlanidloaaGreatDoorD12
set_option linter.all false
section
noncomputable section
namespace Go.Proofs.YtklebhlanidloaaGreatDoor.PZ
open Go.RowKit Go.Proofs.YtklebhlanidloaaGreatDoorW.PrintWords Go.Proofs.YtklebhlanidloaaGreatDoorW.PrintLast Go.Proofs.YtklebhlanidloaaGreatDoorW.PrintMore
attribute [local go_sem] max2_int min2_int max_two min_two max_three min_three max_four min_four   -- for this text's walks alone
mutual
def exergueref05_Norm.l0:Nat→Bool→List Int→Int→Int→Int→Int→Option (Bool×List Int×Int×Int)
 | 0,_,_,_,_,_,_=>none
 | k+1,x0,x1,x2,x8,x9,x10=>if x10<(x1.length:Int) then (if 0≤x10 then (if (rd x1 x10)>9 then (some (false,([]:List Int),0,1)) else (if (rd x1 x10)>0 then (if x8<0 then (exergueref05_Norm.l0 k x0 x1 x2 x10 x10 (wrap64 (x10+1))) else (exergueref05_Norm.l0 k x0 x1 x2 x8 x10 (wrap64 (x10+1)))) else (exergueref05_Norm.l0 k x0 x1 x2 x8 x9 (wrap64 (x10+1))))) else (none)) else (if x2<(-1099511627776) then (exergueref05_Norm.j1 k x0 x1 x2 x8 x9 true) else (exergueref05_Norm.j1 k x0 x1 x2 x8 x9 (decide (x2>1099511627776))))
def exergueref05_Norm.j1:Nat→Bool→List Int→Int→Int→Int→Bool→Option (Bool×List Int×Int×Int)
 | 0,_,_,_,_,_,_=>none
 | k+1,x0,x1,x2,x8,x9,x39=>if x39=true then (some (false,([]:List Int),0,11)) else (if x8<0 then (some (x0,([]:List Int),0,0)) else (if 0≤x8 then (if x8≤(wrap64 (x9+1)) then (if (wrap64 (x9+1))≤(x1.length:Int) then ((some ((x1.take ((wrap64 (x9+1)):Int).toNat).drop (x8:Int).toNat:List Int)).bind fun ae=>((exergueref05_Right.f k x0 ae (wrap64 ((wrap64 ((wrap64 (x2+(x1.length:Int))) - 1)) - x9))).bind fun aC=>(if aC=true then (some (x0,ae,wrap64 ((wrap64 ((wrap64 (x2+(x1.length:Int))) - 1)) - x9),0)) else (some (false,([]:List Int),0,11))))) else (none)) else (none)) else (none)))
end
def exergueref05_Norm.f (k:Nat)(a0:Bool)(l1:List Int)(a2:Int):Option (Bool×List Int×Int×Int):=exergueref05_Norm.l0 k a0 l1 a2 (-1) (-1) 0
theorem exergueref05_Norm.mono_l:∀ k,(∀ y0 y1 y2 y3 y4 y5,LeO (exergueref05_Norm.l0 k y0 y1 y2 y3 y4 y5) (exergueref05_Norm.l0 (k+1) y0 y1 y2 y3 y4 y5))∧(∀ y0 y1 y2 y3 y4 y5,LeO (exergueref05_Norm.j1 k y0 y1 y2 y3 y4 y5) (exergueref05_Norm.j1 (k+1) y0 y1 y2 y3 y4 y5))
 | 0=>⟨fun _ _ _ _ _ _ r h=>by simp [exergueref05_Norm.l0] at h,fun _ _ _ _ _ _ r h=>by simp [exergueref05_Norm.j1] at h⟩
 | k+1=>by
  obtain ⟨ih0,ih1⟩:=exergueref05_Norm.mono_l k
  refine ⟨?_,?_⟩
  ·intro y0 y1 y2 y3 y4 y5
   unfold exergueref05_Norm.l0
   repeat' first|(with_reducible first|apply ih0|apply ih1|apply exergueref05_Right.mono|apply LeO.refl|apply LeO.none|refine LeO.ite ?_ ?_|refine LeO.bind ?_ (fun _=>?_))|apply ih0|apply ih1|apply exergueref05_Right.mono|apply LeO.none
  ·intro y0 y1 y2 y3 y4 y5
   unfold exergueref05_Norm.j1
   repeat' first|(with_reducible first|apply ih0|apply ih1|apply exergueref05_Right.mono|apply LeO.refl|apply LeO.none|refine LeO.ite ?_ ?_|refine LeO.bind ?_ (fun _=>?_))|apply ih0|apply ih1|apply exergueref05_Right.mono|apply LeO.none
theorem exergueref05_Norm.mono:∀ a0 a1 a2 k,LeO (exergueref05_Norm.f k a0 a1 a2) (exergueref05_Norm.f (k+1) a0 a1 a2):=by
 intro a0 a1 a2 k
 obtain ⟨ih0,ih1⟩:=exergueref05_Norm.mono_l k
 unfold exergueref05_Norm.f
 repeat' first|(with_reducible first|apply ih0|apply ih1|apply exergueref05_Right.mono|apply LeO.refl|apply LeO.none|refine LeO.ite ?_ ?_|refine LeO.bind ?_ (fun _=>?_))|apply ih0|apply ih1|apply exergueref05_Right.mono|apply LeO.none
set_option maxHeartbeats 8000000 in
set_option maxRecDepth 100000 in
theorem exergueref05_Norm.calls (k:Nat)(a0:Bool)(P1_:Nat→Prop)(A1:Option Addr)(c1:Nat)(l1:List Int)(a2:Int)(r1:Bool)(r2:List Int)(r3:Int)(r4:Int)(w:World)(hs1:Kd.V (Kd.int .u8) 5 w w.heap.size (fun k_=>P1_ k_) (.slice A1 l1.length c1) l1)(h:exergueref05_Norm.f k a0 l1 a2=some (r1,r2,r3,r4)) :
  Calls Tryz.prog 29 #[.bool a0,.slice A1 l1.length c1,.int .i64 a2] w fun e w'=>∃ v1_:Value,e = .returned (.tuple #[.agg #[.bool r1,v1_,.int .i64 r3],.int .i64 r4])∧Kd.V (Kd.int .u8) 5 w' w.heap.size (fun k_=>(P1_ k_∨w.heap.size≤k_)) v1_ r2∧Below w.heap.size w w':=by
 have hu29:=Tryz.underlying29
 have HO1:=zS (show Kd.V (Kd.int .u8) 5 w w.heap.size (fun k_=>(P1_ k_∨w.heap.size≤k_)) (.slice A1 l1.length c1) l1 from Kd.V_mono hs1 (fun k_ hk=>.inl hk))
 have HB:=zS (Below.refl w.heap.size w)
 have H:(exergueref05_Norm.l0 k a0 l1 a2 (-1) (-1) 0)=some (r1,r2,r3,r4):=h
 clear h
 have H':=zS H
 clear H
 go_enter Tryz.func29,Tryz.ntmps29
 go_wp2_with (first|((with_reducible refine gate_dst (N:=6) rfl ?_);refine box_event ?hg (N:=6) ?hd (cs:=#[.bool false,.slice none 0 0,.int .i64 0]) (t:=29) ?hr ?_;(case hd=>rfl);(case hg=>rfl);(case hr=>first|(go_simp;done)|(go_simp;rfl));intro ai hg w4 hbox hb;replace HO1:=zS (Kd.V_below (Kd.V_elderB (vo HO1) ai (Nat.le_of_eq hg.symm)) hb);have ab:=zS (hbox);have aZ:=bg HB hg;replace HB:=bs HB hb;clear hb hbox hg))
 go_loopg [8,9,10] k (fun kq v8 v9 v10 w'=>∃ (af:Int) (ad:Int) (aa:Int) (ag:Bool) (ah:Int),v8 = .int .i64 af∧v9 = .int .i64 ad∧v10 = .int .i64 aa∧Sd (exergueref05_Norm.l0 kq a0 l1 a2 af ad aa=some (r1,r2,r3,r4))∧Sd (kq≤k)∧Sd (Kd.V (Kd.int .u8) 5 w' w.heap.size (fun k_=>(P1_ k_∨w.heap.size≤k_)∧k_≠ai) (.slice A1 l1.length c1) l1)∧Sd (w'.heap[ai]?=some (.cells #[.bool ag,(.slice none 0 0),.int .i64 ah] 29 (0,0)))∧Sd (Below w.heap.size w w'))
 case atStart=>exact ⟨((-1)),((-1)),(0),(false),(0),(by first|rfl|(simp;done)|(simp [*];done)),(by first|rfl|(simp;done)|(simp [*];done)),(by first|rfl|(simp;done)|(simp [*];done)),H',⟨Nat.le_refl _⟩,⟨vo HO1⟩,⟨ko ab⟩,⟨bl HB⟩⟩
 case round=>
  clear H'
  try clear c1
  try clear c2
  try clear p2
  obtain ⟨af,ad,aa,ag,ah,rfl,rfl,rfl,HA,HK1,HO_1,ab,HB⟩:=hrel
  cases gk with
  | zero=>exact absurd HA.out (by simp [exergueref05_Norm.l0])
  | succ k1=>
   have H:=HA.out
   clear HA
   simp only [exergueref05_Norm.l0] at H
   by_cases c5:aa<(l1.length:Int)
   ·rw [if_pos c5] at H
    have aM:=zC c5
    clear c5
    by_cases c6:0≤aa
    rotate_left
    ·rw [if_neg c6] at H
     exact absurd H (by simp)
    rw [if_pos c6] at H
    have aU:=zC c6
    clear c6
    by_cases c7:(rd l1 aa)>9
    ·rw [if_pos c7] at H
     have aN:decide (9<(rd l1 aa))=true:=zC c7
     clear c7
     simp only [Option.some.injEq,Prod.mk.injEq] at H
     obtain ⟨rfl,rfl,rfl,rfl⟩:=H
     have al:0≤(aa:Int):=zB (by first|(with_reducible assumption)|assumption)
     have am:aa<(l1.length:Int):=zB (by first|(with_reducible assumption)|assumption)
     obtain ⟨au,aA,ar⟩:=Kd.at_int (Kd.V_reads' HO_1.out).2.2 aa al am
     cases aA
     replace al:=eq_true al
     replace am:=eq_true am
     have aV:=blkc3 ab.out
     have aW:=blkf3 ab.out
     go_wp2
     refine bodyPost_ret (results_ct rfl _ _ ai 29 #[.bool false,.slice none 0 0,.int .i64 0] (0,0) _ rfl (kp ab rfl) Tryz.underlying29 rfl (by kernel_rfl)) rfl ?_
     exact ⟨_,by first|rfl|(simp <;> rfl)|(simp [*] <;> rfl),(by first|exact Kd.V_nil _ _ _ _ _|exact (Kd.V_mono (Kd.R_V (by first|exact Kd.R_nil _ _ _ _ _|exact Kd.R_nil _ _ _ 0 _|exact Kd.N_nil _ _ _ _ _|exact Kd.V_nil _ _ _ _ _|exact Kd.Q_nil _ _ _ _ _|exact Kd.S_nil _ _ _ _ _)) (fun k_ hk=>by first|exact ⟨(.inr (hk.1)),hk.2⟩|exact (.inr (hk))))),bl HB⟩
    rw [if_neg c7] at H
    have aN:decide (9<(rd l1 aa))=false:=zD c7
    clear c7
    by_cases c9:(rd l1 aa)>0
    rotate_left
    ·rw [if_neg c9] at H
     have aO:decide (0<(rd l1 aa))=false:=zD c9
     clear c9
     have H':=zS H
     clear H
     have al:0≤(aa:Int):=zB (by first|(with_reducible assumption)|assumption)
     have am:aa<(l1.length:Int):=zB (by first|(with_reducible assumption)|assumption)
     obtain ⟨au,aA,ar⟩:=Kd.at_int (Kd.V_reads' HO_1.out).2.2 aa al am
     cases aA
     replace al:=eq_true al
     replace am:=eq_true am
     have ap:0≤(aa:Int):=zB (by first|(with_reducible assumption)|assumption)
     have aq:aa<(l1.length:Int):=zB (by first|(with_reducible assumption)|assumption)
     obtain ⟨ay,aD,aw⟩:=Kd.at_int (Kd.V_reads' HO_1.out).2.2 aa ap aq
     obtain rfl:au=ay:=(by injection aD)
     replace ap:=eq_true ap
     replace aq:=eq_true aq
     go_wp2
     go_roundg k1
     case measure=>have:=HK1.out;omega
     case rel=>exact ⟨(af),(ad),(wrap64 (aa+1)),(ag),(ah),(by first|rfl|(simp;done)|(simp [*];done)),(by first|rfl|(simp;done)|(simp [*];done)),(by first|rfl|(simp;done)|(simp [*];done)),H',⟨by have:=HK1.out;omega⟩,⟨vo HO_1⟩,⟨ko ab⟩,⟨bl HB⟩⟩
    rw [if_pos c9] at H
    have aO:decide (0<(rd l1 aa))=true:=zC c9
    clear c9
    by_cases c10:af<0
    ·rw [if_pos c10] at H
     have aK:=zC c10
     clear c10
     have H':=zS H
     clear H
     have al:0≤(aa:Int):=zB (by first|(with_reducible assumption)|assumption)
     have am:aa<(l1.length:Int):=zB (by first|(with_reducible assumption)|assumption)
     obtain ⟨au,aA,ar⟩:=Kd.at_int (Kd.V_reads' HO_1.out).2.2 aa al am
     cases aA
     replace al:=eq_true al
     replace am:=eq_true am
     have ap:0≤(aa:Int):=zB (by first|(with_reducible assumption)|assumption)
     have aq:aa<(l1.length:Int):=zB (by first|(with_reducible assumption)|assumption)
     obtain ⟨ay,aD,aw⟩:=Kd.at_int (Kd.V_reads' HO_1.out).2.2 aa ap aq
     obtain rfl:au=ay:=(by injection aD)
     replace ap:=eq_true ap
     replace aq:=eq_true aq
     go_wp2
     go_roundg k1
     case measure=>have:=HK1.out;omega
     case rel=>exact ⟨(aa),(aa),(wrap64 (aa+1)),(ag),(ah),(by first|rfl|(simp;done)|(simp [*];done)),(by first|rfl|(simp;done)|(simp [*];done)),(by first|rfl|(simp;done)|(simp [*];done)),H',⟨by have:=HK1.out;omega⟩,⟨vo HO_1⟩,⟨ko ab⟩,⟨bl HB⟩⟩
    rw [if_neg c10] at H
    have aK:=zD c10
    clear c10
    have H':=zS H
    clear H
    have al:0≤(aa:Int):=zB (by first|(with_reducible assumption)|assumption)
    have am:aa<(l1.length:Int):=zB (by first|(with_reducible assumption)|assumption)
    obtain ⟨au,aA,ar⟩:=Kd.at_int (Kd.V_reads' HO_1.out).2.2 aa al am
    cases aA
    replace al:=eq_true al
    replace am:=eq_true am
    have ap:0≤(aa:Int):=zB (by first|(with_reducible assumption)|assumption)
    have aq:aa<(l1.length:Int):=zB (by first|(with_reducible assumption)|assumption)
    obtain ⟨ay,aD,aw⟩:=Kd.at_int (Kd.V_reads' HO_1.out).2.2 aa ap aq
    obtain rfl:au=ay:=(by injection aD)
    replace ap:=eq_true ap
    replace aq:=eq_true aq
    go_wp2
    go_roundg k1
    case measure=>have:=HK1.out;omega
    case rel=>exact ⟨(af),(aa),(wrap64 (aa+1)),(ag),(ah),(by first|rfl|(simp;done)|(simp [*];done)),(by first|rfl|(simp;done)|(simp [*];done)),(by first|rfl|(simp;done)|(simp [*];done)),H',⟨by have:=HK1.out;omega⟩,⟨vo HO_1⟩,⟨ko ab⟩,⟨bl HB⟩⟩
   rw [if_neg c5] at H
   have aM:=zD c5
   clear c5
   have aL:=zS H
   clear H
   go_upto_region 12 with (fail)
   go_cut [39] (fun v39 wc=>∃ (kq:Nat) (ax:Bool),v39 = .bool ax∧Sd (exergueref05_Norm.j1 kq a0 l1 a2 af ad ax=some (r1,r2,r3,r4))∧Sd (kq≤k1)∧Sd (Kd.V (Kd.int .u8) 5 wc w.heap.size (fun k_=>(P1_ k_∨w.heap.size≤k_)∧k_≠ai) (.slice A1 l1.length c1) l1)∧Sd (wc.heap[ai]?=some (.cells #[.bool ag,(.slice none 0 0),.int .i64 ah] 29 (0,0)))∧Sd (Below w.heap.size w wc))
   case first=>
    have H:=aL.out
    clear aL
    by_cases c12:a2<(-1099511627776)
    ·rw [if_pos c12] at H
     have av:=zC c12
     clear c12
     (first|rw [av]|(simp only [i64_w,i32_w];rw [av])|rw [aP]|skip)
     have H':=zS H
     clear H
     go_wp2
     go_meet
     case rel=>exact ⟨_,(true),(by first|rfl|(simp;done)|(simp [*];done)),H',⟨by have:=HK1.out;first|omega|exact Nat.le_refl _⟩,⟨vo HO_1⟩,⟨ko ab⟩,⟨bl HB⟩⟩
    rw [if_neg c12] at H
    have av:=zD c12
    clear c12
    (first|rw [av]|(simp only [i64_w,i32_w];rw [av])|rw [aP]|skip)
    have H':=zS H
    clear H
    go_wp2
    go_meet
    case rel=>exact ⟨_,(decide (a2>1099511627776)),(by first|rfl|(simp;done)|(simp [*];done)),H',⟨by have:=HK1.out;first|omega|exact Nat.le_refl _⟩,⟨vo HO_1⟩,⟨ko ab⟩,⟨bl HB⟩⟩
   case rest=>
    clear aL
    try clear c1
    try clear c2
    try clear p2
    try clear c5
    try clear aM
    try clear p5
    try clear q5
    try clear hx5
    try clear c6
    try clear aU
    try clear p6
    try clear c7
    try clear aN
    try clear c9
    try clear aO
    try clear c10
    try clear aK
    try clear c12
    try clear av
    try clear aV
    try clear aW
    try clear ar
    try clear aw
    try clear p2
    try clear al
    try clear ap
    try clear am
    try clear aq
    obtain ⟨kq,ax,rfl,HA,HJ10,HO_1,ab,HB⟩:=hcut
    cases kq with
    | zero=>exact absurd HA.out (by simp [exergueref05_Norm.j1])
    | succ kj10=>
     have H:=HA.out
     clear HA
     simp only [exergueref05_Norm.j1] at H
     by_cases c13:ax=true
     ·subst c13
      rw [if_pos rfl] at H
      simp only [Option.some.injEq,Prod.mk.injEq] at H
      obtain ⟨rfl,rfl,rfl,rfl⟩:=H
      have a3:=blkc3 ab.out
      have a4:=blkf3 ab.out
      go_wp2
      refine bodyPost_ret (results_ct rfl _ _ ai 29 #[.bool false,.slice none 0 0,.int .i64 0] (0,0) _ rfl (kp ab rfl) Tryz.underlying29 rfl (by kernel_rfl)) rfl ?_
      exact ⟨_,by first|rfl|(simp <;> rfl)|(simp [*] <;> rfl),(by first|exact Kd.V_nil _ _ _ _ _|exact (Kd.V_mono (Kd.R_V (by first|exact Kd.R_nil _ _ _ _ _|exact Kd.R_nil _ _ _ 0 _|exact Kd.N_nil _ _ _ _ _|exact Kd.V_nil _ _ _ _ _|exact Kd.Q_nil _ _ _ _ _|exact Kd.S_nil _ _ _ _ _)) (fun k_ hk=>by first|exact ⟨(.inr (hk.1)),hk.2⟩|exact (.inr (hk))))),bl HB⟩
     replace c13:=Bool.eq_false_iff.mpr c13
     subst c13
     rw [if_neg (show ¬ (false=true) by decide)] at H
     by_cases c15:af<0
     ·rw [if_pos c15] at H
      have aQ:=zC c15
      clear c15
      simp only [Option.some.injEq,Prod.mk.injEq] at H
      obtain ⟨rfl,rfl,rfl,rfl⟩:=H
      have a5:=blkc3 ab.out
      have a6:=blkf3 ab.out
      go_wp2
      refine bodyPost_ret (results_ct rfl _ _ ai 29 #[.bool a0,.slice none 0 0,.int .i64 0] (0,0) _ rfl (kp ab rfl) Tryz.underlying29 rfl (by kernel_rfl)) rfl ?_
      exact ⟨_,by first|rfl|(simp <;> rfl)|(simp [*] <;> rfl),(by first|exact Kd.V_nil _ _ _ _ _|exact (Kd.V_mono (Kd.R_V (by first|exact Kd.R_nil _ _ _ _ _|exact Kd.R_nil _ _ _ 0 _|exact Kd.N_nil _ _ _ _ _|exact Kd.V_nil _ _ _ _ _|exact Kd.Q_nil _ _ _ _ _|exact Kd.S_nil _ _ _ _ _)) (fun k_ hk=>by first|exact ⟨(.inr (hk.1)),hk.2⟩|exact (.inr (hk))))),bl HB⟩
     rw [if_neg c15] at H
     have aQ:=zD c15
     clear c15
     by_cases c17:0≤af
     rotate_left
     ·rw [if_neg c17] at H
      exact absurd H (by simp)
     rw [if_pos c17] at H
     have a7:=eq_true c17
     have a8:=zC c17
     clear c17
     by_cases c18:af≤(wrap64 (ad+1))
     rotate_left
     ·rw [if_neg c18] at H
      exact absurd H (by simp)
     rw [if_pos c18] at H
     have a9:=eq_true c18
     have ba:=zC c18
     by_cases c19:(wrap64 (ad+1))≤(l1.length:Int)
     rotate_left
     ·rw [if_neg c19] at H
      exact absurd H (by simp)
     rw [if_pos c19] at H
     have bb:=eq_true c19
     have bc:=zC c19
     obtain ⟨ae,az⟩:∃ y_:List Int,y_=((l1.take ((wrap64 (ad+1)):Int).toNat).drop (af:Int).toNat):=⟨_,rfl⟩
     replace H:((exergueref05_Right.f kj10 a0 ae (wrap64 ((wrap64 ((wrap64 (a2+(l1.length:Int))) - 1)) - ad))).bind fun aC=>(if aC=true then (some (a0,ae,wrap64 ((wrap64 ((wrap64 (a2+(l1.length:Int))) - 1)) - ad),0)) else (some (false,([]:List Int),0,11))))=some (r1,r2,r3,r4):=by first|(rw [az];with_reducible exact H)|(have H2_:=(Option.bind_some _ _).symm.trans H;rw [az];with_reducible exact H2_)|(have H2_:=(Option.bind_some _ _).symm.trans H;with_reducible exact H2_)|with_reducible exact H|(rw [az];exact H)|exact H
     have aB:=zS az
     clear az
     replace H:=Option.bind_eq_some_iff.mp H
     obtain ⟨aC,aR,H⟩:=H
     try dsimp only at H
     have A20:=zS aR
     clear aR
     by_cases c21:aC=true
     ·subst c21
      rw [if_pos rfl] at H
      simp only [Option.some.injEq,Prod.mk.injEq] at H
      obtain ⟨rfl,rfl,rfl,rfl⟩:=H
      have q22:((wrap64 (ad+1)):Int)≤((l1.length:Int):Int):=zB (by first|(with_reducible assumption)|assumption)
      obtain ⟨i022,hi022,_,hsz22,_⟩:=info_parts info5
      have hroom22:l1.length≤c1:=(Kd.V_reads' HO_1.out).2.1
      have hC22:Kd.F (Kd.int .u8) _ _ A1 l1.length l1:=(Kd.V_at (base:=w.heap.size) HO_1.out).2.2
      have ql22:(af:Int)≤((wrap64 (ad+1)):Int):=zB (by first|(with_reducible assumption)|assumption)
      have aX:(0:Int)≤(af:Int):=zB (by first|(with_reducible assumption)|assumption)
      have hcut22:=cut_mid (P:=Tryz.prog) 27 5 .i64 .i64 Tryz.underlying27 hi022 1 hsz22 A1 l1.length c1 af (wrap64 (ad+1)) aX ql22 q22 hroom22
      have aE:=Kd.F_mid (lo:=(af:Int).toNat) (hi:=((wrap64 (ad+1)):Int).toNat) (c:=c1) hC22 (by omega) (by omega) hroom22
      obtain ⟨A22,hA22⟩:∃ Az_,Az_=(if c1=(af:Int).toNat then A1 else (A1:Option Addr).map (·.add ((af:Int).toNat * 1))):=⟨_,rfl⟩
      obtain ⟨c22,aI⟩:∃ cz_,cz_=c1 - (af:Int).toNat:=⟨_,rfl⟩
      have aF:ae.length=((wrap64 (ad+1)):Int).toNat - (af:Int).toNat:=(by rw [aB.out,List.length_drop,List.length_take] <;> omega)
      rw [show ((l1).take ((wrap64 (ad+1)):Int).toNat).drop (af:Int).toNat=ae from aB.out.symm] at aE
      replace aE:Kd.F (Kd.int .u8) _ _ A22 ae.length ae:=(by rw [hA22];exact aE)
      rw [← aF,← hA22,← aI] at hcut22
      have aj:=zS (show Kd.V (Kd.int .u8) 5 _ w.heap.size _ (.slice A22 ae.length c22) ae from Kd.V_mk (by rw [aF,aI];exact Nat.sub_le_sub_right (Nat.le_trans (by omega) hroom22) _) aE)
      have aS:=zS (show ae.length≤c22 from by rw [aF,aI];exact Nat.sub_le_sub_right (Nat.le_trans (by omega) hroom22) _)
      clear aE hC22 hroom22 hi022 hsz22 aI
      have KY22:=zS aF
      have KA22:=zS hA22
      clear aF hA22
      replace q22:=eq_true q22
      go_wp2_with (first|((with_reducible refine gate_dst (N:=11) rfl ?_);refine box_event ?hg (N:=11) ?hd (cs:=#[.bool false,.slice none 0 0,.int .i64 0]) (t:=29) ?hr ?_;(case hd=>rfl);(case hg=>rfl);(case hr=>first|(go_simp;done)|(go_simp;rfl));intro ac hg w23 hbox hb;replace HO_1:=zS (Kd.V_below (Kd.V_elderB (vo HO_1) ac (Nat.le_of_eq hg.symm)) hb);replace aj:=zS (Kd.V_below (Kd.V_elderB (vo aj) ac (Nat.le_of_eq hg.symm)) hb);have ak:=zS (hbox);have aT:=bg HB hg;replace HB:=bs HB hb;have an:=kn ab hg;have ao:=km ab hg;replace ab:=kb ab hb;clear hb hbox hg;have bd:=ao.out;have be:=an.out;have bf:=blkc3 ak.out;have bh:=blkf3 ak.out)|((with_reducible refine gate_callee (f:=33) rfl ?_);refine gL (some 60) Tryz.func33 #[.agg #[.bool a0,.slice A22 ae.length c22,.int .i64 (wrap64 ((wrap64 ((wrap64 (a2+(l1.length:Int))) - 1)) - ad))]] ?_;(with_reducible refine (exergueref05_Right.calls kj10 a0 _ _ ae (wrap64 ((wrap64 ((wrap64 (a2+(l1.length:Int))) - 1)) - ad)) true _ ?side1 (vl aj) A20.out).mono ?_);(case side1=>exact (Kd.V_reads' (Kd.V_far (p:=⟨ac,2,none⟩) (Kd.V_far (p:=⟨ac,1,none⟩) (Kd.V_far (p:=⟨ac,0,none⟩) (Kd.V_mono aj.out (fun k_ hk=>(⟨hk,hk.2⟩:_∧k_≠ac))) (fun _ hk=>hk.2) (.bool a0)) (fun _ hk=>hk.2) (.slice A22 ae.length c22)) (fun _ hk=>hk.2) (.int .i64 (wrap64 ((wrap64 ((wrap64 (a2+(l1.length:Int))) - 1)) - ad))))).2.2);rintro e w26 ⟨rfl,hb⟩;refine ⟨_,rfl,?_⟩;replace HO_1:=zS (Kd.V_below (by (with_reducible repeat (first|apply Kd.V_alloc|apply Kd.V_drewN|apply Kd.V_drew));exact (Kd.V_mono (Kd.V_far (p:=⟨ac,2,none⟩) (Kd.V_far (p:=⟨ac,1,none⟩) (Kd.V_far (p:=⟨ac,0,none⟩) (Kd.V_mono HO_1.out (fun k_ hk=>(⟨hk,hk.2⟩:_∧k_≠ac))) (fun _ hk=>hk.2) (.bool a0)) (fun _ hk=>hk.2) (.slice A22 ae.length c22)) (fun _ hk=>hk.2) (.int .i64 (wrap64 ((wrap64 ((wrap64 (a2+(l1.length:Int))) - 1)) - ad)))) (fun _ h_=>h_.1))) hb);replace aj:=zS (Kd.V_below (by (with_reducible repeat (first|apply Kd.V_alloc|apply Kd.V_drewN|apply Kd.V_drew));exact (Kd.V_mono (Kd.V_far (p:=⟨ac,2,none⟩) (Kd.V_far (p:=⟨ac,1,none⟩) (Kd.V_far (p:=⟨ac,0,none⟩) (Kd.V_mono aj.out (fun k_ hk=>(⟨hk,hk.2⟩:_∧k_≠ac))) (fun _ hk=>hk.2) (.bool a0)) (fun _ hk=>hk.2) (.slice A22 ae.length c22)) (fun _ hk=>hk.2) (.int .i64 (wrap64 ((wrap64 ((wrap64 (a2+(l1.length:Int))) - 1)) - ad)))) (fun _ h_=>h_.1))) hb);replace ab:=kb ab hb;replace ak:=zS (blk_below (g:=ac) (o:=.cells #[.bool a0,.slice A22 ae.length c22,.int .i64 (wrap64 ((wrap64 ((wrap64 (a2+(l1.length:Int))) - 1)) - ad))] 29 (0,0)) (kp ak rfl) hb);replace HB:=bs HB hb;(try clear hb);(try clear hk);have bi:=blkc3 ak.out;have bj:=blkf3 ak.out;have bk:=blkc3 ab.out;have bm:=blkf3 ab.out))
      refine bodyPost_ret (results_ct rfl _ _ ai 29 #[.bool a0,.slice A22 ae.length c22,.int .i64 (wrap64 ((wrap64 ((wrap64 (a2+(l1.length:Int))) - 1)) - ad))] (0,0) _ rfl (kp ab rfl) Tryz.underlying29 rfl (by kernel_rfl)) rfl ?_
      exact ⟨_,by first|rfl|(simp <;> rfl)|(simp [*] <;> rfl),by (with_reducible repeat (first|apply Kd.V_alloc|apply Kd.V_drewN|apply Kd.V_drew));exact Kd.V_mono (Kd.V_far (p:=⟨ai,2,none⟩) (Kd.V_far (p:=⟨ai,1,none⟩) (Kd.V_far (p:=⟨ai,0,none⟩) (Kd.V_mono aj.out (fun k_ hk=>(⟨hk,hk.1.2⟩:_∧k_≠ai))) (fun _ hk=>hk.2) (.bool a0)) (fun _ hk=>hk.2) (.slice A22 ae.length c22)) (fun _ hk=>hk.2) (.int .i64 (wrap64 ((wrap64 ((wrap64 (a2+(l1.length:Int))) - 1)) - ad)))) (fun _ hk=>hk.1.1.1),bl HB⟩
     replace c21:=Bool.eq_false_iff.mpr c21
     subst c21
     rw [if_neg (show ¬ (false=true) by decide)] at H
     simp only [Option.some.injEq,Prod.mk.injEq] at H
     obtain ⟨rfl,rfl,rfl,rfl⟩:=H
     have q29:((wrap64 (ad+1)):Int)≤((l1.length:Int):Int):=zB (by first|(with_reducible assumption)|assumption)
     obtain ⟨i029,hi029,_,hsz29,_⟩:=info_parts info5
     have hroom29:l1.length≤c1:=(Kd.V_reads' HO_1.out).2.1
     have hC29:Kd.F (Kd.int .u8) _ _ A1 l1.length l1:=(Kd.V_at (base:=w.heap.size) HO_1.out).2.2
     have ql29:(af:Int)≤((wrap64 (ad+1)):Int):=zB (by first|(with_reducible assumption)|assumption)
     have aY:(0:Int)≤(af:Int):=zB (by first|(with_reducible assumption)|assumption)
     have hcut29:=cut_mid (P:=Tryz.prog) 27 5 .i64 .i64 Tryz.underlying27 hi029 1 hsz29 A1 l1.length c1 af (wrap64 (ad+1)) aY ql29 q29 hroom29
     have aG:=Kd.F_mid (lo:=(af:Int).toNat) (hi:=((wrap64 (ad+1)):Int).toNat) (c:=c1) hC29 (by omega) (by omega) hroom29
     obtain ⟨A29,hA29⟩:∃ Az_,Az_=(if c1=(af:Int).toNat then A1 else (A1:Option Addr).map (·.add ((af:Int).toNat * 1))):=⟨_,rfl⟩
     obtain ⟨c29,aJ⟩:∃ cz_,cz_=c1 - (af:Int).toNat:=⟨_,rfl⟩
     have aH:ae.length=((wrap64 (ad+1)):Int).toNat - (af:Int).toNat:=(by rw [aB.out,List.length_drop,List.length_take] <;> omega)
     rw [show ((l1).take ((wrap64 (ad+1)):Int).toNat).drop (af:Int).toNat=ae from aB.out.symm] at aG
     replace aG:Kd.F (Kd.int .u8) _ _ A29 ae.length ae:=(by rw [hA29];exact aG)
     rw [← aH,← hA29,← aJ] at hcut29
     have aj:=zS (show Kd.V (Kd.int .u8) 5 _ w.heap.size _ (.slice A29 ae.length c29) ae from Kd.V_mk (by rw [aH,aJ];exact Nat.sub_le_sub_right (Nat.le_trans (by omega) hroom29) _) aG)
     have aS:=zS (show ae.length≤c29 from by rw [aH,aJ];exact Nat.sub_le_sub_right (Nat.le_trans (by omega) hroom29) _)
     clear aG hC29 hroom29 hi029 hsz29 aJ
     have KY29:=zS aH
     have KA29:=zS hA29
     clear aH hA29
     replace q29:=eq_true q29
     go_wp2_with (first|((with_reducible refine gate_dst (N:=11) rfl ?_);refine box_event ?hg (N:=11) ?hd (cs:=#[.bool false,.slice none 0 0,.int .i64 0]) (t:=29) ?hr ?_;(case hd=>rfl);(case hg=>rfl);(case hr=>first|(go_simp;done)|(go_simp;rfl));intro ac hg w30 hbox hb;replace HO_1:=zS (Kd.V_below (Kd.V_elderB (vo HO_1) ac (Nat.le_of_eq hg.symm)) hb);replace aj:=zS (Kd.V_below (Kd.V_elderB (vo aj) ac (Nat.le_of_eq hg.symm)) hb);have ak:=zS (hbox);have aT:=bg HB hg;replace HB:=bs HB hb;have an:=kn ab hg;have ao:=km ab hg;replace ab:=kb ab hb;clear hb hbox hg;have bn:=ao.out;have bo:=an.out;have bp:=blkc3 ak.out;have bq:=blkf3 ak.out)|((with_reducible refine gate_callee (f:=33) rfl ?_);refine gL (some 60) Tryz.func33 #[.agg #[.bool a0,.slice A29 ae.length c29,.int .i64 (wrap64 ((wrap64 ((wrap64 (a2+(l1.length:Int))) - 1)) - ad))]] ?_;(with_reducible refine (exergueref05_Right.calls kj10 a0 _ _ ae (wrap64 ((wrap64 ((wrap64 (a2+(l1.length:Int))) - 1)) - ad)) false _ ?side1 (vl aj) A20.out).mono ?_);(case side1=>exact (Kd.V_reads' (Kd.V_far (p:=⟨ac,2,none⟩) (Kd.V_far (p:=⟨ac,1,none⟩) (Kd.V_far (p:=⟨ac,0,none⟩) (Kd.V_mono aj.out (fun k_ hk=>(⟨hk,hk.2⟩:_∧k_≠ac))) (fun _ hk=>hk.2) (.bool a0)) (fun _ hk=>hk.2) (.slice A29 ae.length c29)) (fun _ hk=>hk.2) (.int .i64 (wrap64 ((wrap64 ((wrap64 (a2+(l1.length:Int))) - 1)) - ad))))).2.2);rintro e w33 ⟨rfl,hb⟩;refine ⟨_,rfl,?_⟩;replace HO_1:=zS (Kd.V_below (by (with_reducible repeat (first|apply Kd.V_alloc|apply Kd.V_drewN|apply Kd.V_drew));exact (Kd.V_mono (Kd.V_far (p:=⟨ac,2,none⟩) (Kd.V_far (p:=⟨ac,1,none⟩) (Kd.V_far (p:=⟨ac,0,none⟩) (Kd.V_mono HO_1.out (fun k_ hk=>(⟨hk,hk.2⟩:_∧k_≠ac))) (fun _ hk=>hk.2) (.bool a0)) (fun _ hk=>hk.2) (.slice A29 ae.length c29)) (fun _ hk=>hk.2) (.int .i64 (wrap64 ((wrap64 ((wrap64 (a2+(l1.length:Int))) - 1)) - ad)))) (fun _ h_=>h_.1))) hb);replace aj:=zS (Kd.V_below (by (with_reducible repeat (first|apply Kd.V_alloc|apply Kd.V_drewN|apply Kd.V_drew));exact (Kd.V_mono (Kd.V_far (p:=⟨ac,2,none⟩) (Kd.V_far (p:=⟨ac,1,none⟩) (Kd.V_far (p:=⟨ac,0,none⟩) (Kd.V_mono aj.out (fun k_ hk=>(⟨hk,hk.2⟩:_∧k_≠ac))) (fun _ hk=>hk.2) (.bool a0)) (fun _ hk=>hk.2) (.slice A29 ae.length c29)) (fun _ hk=>hk.2) (.int .i64 (wrap64 ((wrap64 ((wrap64 (a2+(l1.length:Int))) - 1)) - ad)))) (fun _ h_=>h_.1))) hb);replace ab:=kb ab hb;replace ak:=zS (blk_below (g:=ac) (o:=.cells #[.bool a0,.slice A29 ae.length c29,.int .i64 (wrap64 ((wrap64 ((wrap64 (a2+(l1.length:Int))) - 1)) - ad))] 29 (0,0)) (kp ak rfl) hb);replace HB:=bs HB hb;(try clear hb);(try clear hk);have br:=blkc3 ab.out;have bu:=blkf3 ab.out))
     refine bodyPost_ret (results_ct rfl _ _ ai 29 #[.bool false,.slice none 0 0,.int .i64 0] (0,0) _ rfl (kp ab rfl) Tryz.underlying29 rfl (by kernel_rfl)) rfl ?_
     exact ⟨_,by first|rfl|(simp <;> rfl)|(simp [*] <;> rfl),(by first|exact Kd.V_nil _ _ _ _ _|exact (Kd.V_mono (Kd.R_V (by first|exact Kd.R_nil _ _ _ _ _|exact Kd.R_nil _ _ _ 0 _|exact Kd.N_nil _ _ _ _ _|exact Kd.V_nil _ _ _ _ _|exact Kd.Q_nil _ _ _ _ _|exact Kd.S_nil _ _ _ _ _)) (fun k_ hk=>by first|exact ⟨(.inr (hk.1)),hk.2⟩|exact (.inr (hk))))),bl HB⟩
end Go.Proofs.YtklebhlanidloaaGreatDoor.PZ
end
end
section
set_option maxRecDepth 100000
namespace Go.Proofs.YtklebhlanidloaaGreatDoor.PZ
open Go.RowKit Go.Proofs.YtklebhlanidloaaGreatDoorW.PrintWords Go.Proofs.YtklebhlanidloaaGreatDoorW.PrintLast
section
open Classical in
noncomputable def evOf {α:Type} [Inhabited α](g:Nat→Option α):α:=if h:∃ r,Ev g r then Classical.choose h else default
theorem evOf_ev {α:Type} [Inhabited α]{g:Nat→Option α}(h:∃ r,Ev g r):Ev g (evOf g):=by unfold evOf;rw [dif_pos h];exact Classical.choose_spec h
theorem Ev.unique {α:Type}{g:Nat→Option α}{a b:α}(h:Ev g a)(k:Ev g b):a=b:=by
 obtain ⟨K,h⟩:=h
 obtain ⟨L,k⟩:=k
 have:=(h (max K L) (Nat.le_max_left _ _)).symm.trans (k (max K L) (Nat.le_max_right _ _))
 exact zE this
theorem evOf_eq {α:Type} [Inhabited α]{g:Nat→Option α}{a:α}(h:Ev g a):evOf g=a:=Ev.unique (evOf_ev ⟨a,h⟩) h
theorem pat_f (l:List Int)(i:Int)(h0:0≤i):exergueref10_at.f l i=some (atN l i):=by
 unfold exergueref10_at.f atN
 rw [if_pos h0]
 split <;> rfl
theorem atN_drop (l:List Int)(i:Nat):atN l i=(l.drop i).headD (-1):=by
 unfold atN
 by_cases h:i<l.length
 · rw [if_pos (by omega),drop_cons l i h];rfl
 rw [if_neg (by omega),List.drop_of_length_le (by omega)];rfl
theorem many_l0 (l:List Int)(i:Nat)(r:Int)(hr:0≤r)(hl:l.length≤100000)(hi:i≤1000000):∀ (s:List Int)(n:Nat),l.drop (i+n)=s→n≤100000→i+n≤200000+l.length - s.length→Ev (fun k=>exergueref10_many.l0 k l i r n) (((n+(s.takeWhile (fun c=>c == r)).length:Nat):Int)):=by
 intro s
 induction s with
 | nil=>
  intro n hd hn _
  refine Ev_shift ?_
  have ha:atN l ((i:Int)+(n:Int)) = -1:=by rw [show ((i:Int)+(n:Int))=((i+n:Nat):Int) by omega,atN_drop,hd];rfl
  simp only [exergueref10_many.l0,w64 ((i:Int)+(n:Int)) (by omega) (by omega),pat_f l _ (show 0≤(i:Int)+(n:Int) by omega),Option.bind_some,ha,if_neg (show ¬ (-1:Int)=r by omega)]
  exact Ev.now _
 | cons c s ih=>
  intro n hd hn hb
  refine Ev_shift ?_
  have ha:atN l ((i:Int)+(n:Int))=c:=by rw [show ((i:Int)+(n:Int))=((i+n:Nat):Int) by omega,atN_drop,hd];rfl
  simp only [exergueref10_many.l0,w64 ((i:Int)+(n:Int)) (by omega) (by omega),pat_f l _ (show 0≤(i:Int)+(n:Int) by omega),Option.bind_some,ha]
  have hlen:l.length - (i+n)=s.length+1:=by rw [← List.length_drop,hd];rfl
  by_cases hc:c=r
  ·have e:wrap64 ((n:Int)+1)=((n+1:Nat):Int):=by rw [w64 _ (by omega) (by omega)];omega
   have hd2:l.drop (i+(n+1))=s:=by rw [← Nat.add_assoc,← List.drop_drop,hd];rfl
   simp only [hc,if_true,e]
   have:=ih (n+1) hd2 (by omega) (by omega)
   rw [List.takeWhile_cons,if_pos (by simp)]
   rw [show n+(r :: List.takeWhile (fun c=>c == r) s).length=n+1+(List.takeWhile (fun c=>c == r) s).length by simp;omega]
   exact this
  simp only [if_neg hc]
  rw [List.takeWhile_cons,if_neg (by simpa using hc)]
  exact Ev.now _
theorem many_ev (l:List Int)(i r:Int)(hr:0≤r)(hl:l.length≤100000)(h0:0≤i)(hi:i≤200000):Ev (fun k=>exergueref10_many.f k l i r) (manyN l i r:Int):=by
 obtain ⟨n,rfl⟩:=Int.eq_ofNat_of_zero_le h0
 have h:=many_l0 l n r hr hl (by omega) (l.drop n) 0 rfl (by omega) (by rw [List.length_drop];omega)
 unfold exergueref10_many.f manyN
 simpa using h
theorem special_l0 (r:Int):∀ (m i:Nat),i+m=11→∃ b,Ev (fun k=>exergueref10_Special.l0 k r i) b:=by
 intro m
 induction m with
 | zero=>
  intro i hi
  refine ⟨false,Ev_shift ?_⟩
  simp only [exergueref10_Special.l0,if_neg (show ¬ (i:Int)<11 by omega)]
  exact Ev.now _
 | succ m ih=>
  intro i hi
  obtain ⟨b,hb⟩:=ih (i+1) (by omega)
  have e:wrap64 ((i:Int)+1)=((i+1:Nat):Int):=by rw [w64 _ (by omega) (by omega)];omega
  by_cases h:wrap32 (bt (⟨#[35,64,44,46,59,42,37,45,43,39,69]⟩:ByteArray) i)=r
  ·refine ⟨true,Ev_shift ?_⟩
   simp only [exergueref10_Special.l0,if_pos (show (i:Int)<11 by omega),if_pos (show (0:Int)≤(i:Int) by omega),h,if_true]
   exact Ev.now _
  refine ⟨b,Ev_shift ?_⟩
  simp only [exergueref10_Special.l0,if_pos (show (i:Int)<11 by omega),if_pos (show (0:Int)≤(i:Int) by omega),if_neg h,e]
  exact hb
theorem special_ex (r:Int):∃ b,Ev (fun k=>exergueref10_Special.f k r) b:=by
 obtain ⟨b,hb⟩:=special_l0 r 11 0 rfl
 have hj:∀ x,∃ b,Ev (fun k=>exergueref10_Special.j0 k r x) b:=by
  intro x
  cases x with
  | true=>exact ⟨true,Ev_shift (by simp only [exergueref10_Special.j0,if_true];exact Ev.now _)⟩
  | false=>exact ⟨b,Ev_shift (by simp only [exergueref10_Special.j0,Bool.false_eq_true,if_false];exact hb)⟩
 unfold exergueref10_Special.f
 by_cases h1:r≥48
 ·simp only [if_pos h1]
  by_cases h2:r≤57
  · simp only [if_pos h2];exact hj _
  simp only [if_neg h2];exact hj _
 simp only [if_neg h1];exact hj _
theorem sign_ex (r:Int):∃ n,exergueref10_Sign.f r=some n:=by
 unfold exergueref10_Sign.f
 repeat' split
 all_goals exact ⟨_,rfl⟩
def AffOk (l:List Int)(r:List S114×Int×Bool):Prop:=0≤r.2.1∧r.2.1≤l.length+2∧r.1.length≤l.length+2
theorem affix_all (l:List Int)(hl:l.length≤100000):∀ (m:Nat),(∀ (i:Nat)(out:List S114),l.length+2≤i+m→out.length≤i→i≤l.length+2→∃ r,Ev (fun k=>exergueref10_affix.l0 k l i out) r∧AffOk l r) ∧
    (∀ (i:Nat) (out:List S114) (o:Int),l.length+2≤i+m→out.length+1≤i→i≤l.length+2→0≤o→o≤l.length→∃ r,Ev (fun k=>exergueref10_affix.l1 k l i out o) r∧AffOk l r):=by
 intro m
 induction m with
 | zero=>
  refine ⟨fun i out h1 h2 h3=>?_,fun i out o h1 h2 h3 h4 h5=>?_⟩
  ·refine ⟨(out,(i:Int),true),Ev_shift ?_,⟨by show (0:Int)≤i;omega,by show (i:Int)≤_;omega,by show out.length≤_;omega⟩⟩
   simp only [exergueref10_affix.l0,if_neg (show ¬ (i:Int)<(l.length:Int) by omega)]
   exact Ev.now _
  refine ⟨([],o,false),Ev_shift ?_,⟨h4,by show o≤_;omega,by simp⟩⟩
  simp only [exergueref10_affix.l1,if_neg (show ¬ (i:Int)<(l.length:Int) by omega)]
  refine Ev_shift ?_
  simp only [exergueref10_affix.j2,Bool.false_eq_true,if_false,if_pos (show (i:Int)≥(l.length:Int) by omega)]
  exact Ev.now _
 | succ m ih=>
  obtain ⟨ih0,ih1⟩:=ih
  have hw:∀ i:Nat,i≤l.length+2→wrap64 ((i:Int)+1)=((i+1:Nat):Int):=fun i hi=>by rw [w64 _ (by omega) (by omega)];omega
  have hw2:∀ i:Nat,i≤l.length+2→wrap64 ((i:Int)+2)=((i+2:Nat):Int):=fun i hi=>by rw [w64 _ (by omega) (by omega)];omega
  have hat:∀ i:Nat,exergueref10_at.f l ((i:Nat):Int)=some (atN l i):=fun i=>pat_f l _ (by omega)
  refine ⟨fun i out h1 h2 h3=>?_,fun i out o h1 h2 h3 h4 h5=>?_⟩
  ·by_cases hi:i<l.length
   rotate_left
   ·refine ⟨(out,(i:Int),true),Ev_shift ?_,⟨by show (0:Int)≤i;omega,by show (i:Int)≤_;omega,by show out.length≤_;omega⟩⟩
    simp only [exergueref10_affix.l0,if_neg (show ¬ (i:Int)<(l.length:Int) by omega)]
    exact Ev.now _
   obtain ⟨sg,hsg⟩:=sign_ex (rd l i)
   obtain ⟨sp,hsp⟩:=special_ex (rd l i)
   have hlim:out.length<8796093022208:=by omega
   by_cases c1:sg>0
   ·obtain ⟨r,hr,ho⟩:=ih0 (i+1) (out ++ [⟨sg,0⟩]) (by omega) (by simp;omega) (by omega)
    refine ⟨r,Ev_shift ?_,ho⟩
    simp only [exergueref10_affix.l0,if_pos (show (i:Int)<(l.length:Int) by omega),if_pos (show (0:Int)≤(i:Int) by omega),hsg,Option.bind_some]
    refine Ev.bind hsp ?_
    simp only [if_pos c1,if_pos hlim,hw i h3]
    exact hr
   by_cases c2:rd l i=39
   ·by_cases c3:atN l ((i+1:Nat):Int)=39
    ·have hi2:i+1<l.length:=by
      apply Classical.byContradiction
      intro hn
      unfold atN at c3
      rw [if_neg (by omega)] at c3
      omega
     obtain ⟨r,hr,ho⟩:=ih0 (i+2) (out ++ [⟨0,39⟩]) (by omega) (by simp;omega) (by omega)
     refine ⟨r,Ev_shift ?_,ho⟩
     simp only [exergueref10_affix.l0,if_pos (show (i:Int)<(l.length:Int) by omega),if_pos (show (0:Int)≤(i:Int) by omega),hsg,Option.bind_some]
     refine Ev.bind hsp ?_
     simp only [if_neg c1,if_pos c2,hw i h3,hat,Option.bind_some,if_pos c3,if_pos hlim,hw2 i h3]
     exact hr
    obtain ⟨r,hr,ho⟩:=ih1 (i+1) out (i:Int) (by omega) (by omega) (by omega) (by omega) (by omega)
    refine ⟨r,Ev_shift ?_,ho⟩
    simp only [exergueref10_affix.l0,if_pos (show (i:Int)<(l.length:Int) by omega),if_pos (show (0:Int)≤(i:Int) by omega),hsg,Option.bind_some]
    refine Ev.bind hsp ?_
    simp only [if_neg c1,if_pos c2,hw i h3,hat,Option.bind_some,if_neg c3]
    exact hr
   cases sp with
   | true=>
    refine ⟨(out,(i:Int),true),Ev_shift ?_,⟨by show (0:Int)≤i;omega,by show (i:Int)≤_;omega,by show out.length≤_;omega⟩⟩
    simp only [exergueref10_affix.l0,if_pos (show (i:Int)<(l.length:Int) by omega),if_pos (show (0:Int)≤(i:Int) by omega),hsg,Option.bind_some]
    refine Ev.bind hsp ?_
    simp only [if_neg c1,if_neg c2,if_true]
    exact Ev.now _
   | false=>
    obtain ⟨r,hr,ho⟩:=ih0 (i+1) (out ++ [⟨0,rd l i⟩]) (by omega) (by simp;omega) (by omega)
    refine ⟨r,Ev_shift ?_,ho⟩
    simp only [exergueref10_affix.l0,if_pos (show (i:Int)<(l.length:Int) by omega),if_pos (show (0:Int)≤(i:Int) by omega),hsg,Option.bind_some]
    refine Ev.bind hsp ?_
    simp only [if_neg c1,if_neg c2,Bool.false_eq_true,if_false,if_pos hlim,hw i h3]
    exact hr
  by_cases hi:i<l.length
  rotate_left
  ·refine ⟨([],o,false),Ev_shift ?_,⟨h4,by show o≤_;omega,by simp⟩⟩
   simp only [exergueref10_affix.l1,if_neg (show ¬ (i:Int)<(l.length:Int) by omega)]
   refine Ev_shift ?_
   simp only [exergueref10_affix.j2,Bool.false_eq_true,if_false,if_pos (show (i:Int)≥(l.length:Int) by omega)]
   exact Ev.now _
  have hlim:out.length<8796093022208:=by omega
  have jt:∃ r,Ev (fun k=>exergueref10_affix.j2 k l i out o true) r∧AffOk l r:=by
   by_cases c2:rd l i=39
   ·obtain ⟨r,hr,ho⟩:=ih1 (i+2) (out ++ [⟨0,rd l i⟩]) o (by omega) (by simp;omega) (by omega) h4 h5
    refine ⟨r,Ev_shift ?_,ho⟩
    have e:wrap64 (wrap64 ((i:Int)+1)+1)=((i+2:Nat):Int):=by rw [hw i h3,w64 _ (by omega) (by omega)];omega
    simp only [exergueref10_affix.j2,if_true,if_pos (show (0:Int)≤(i:Int) by omega),if_pos (show (i:Int)<(l.length:Int) by omega),if_pos hlim,Option.bind_some,if_pos c2,e]
    exact hr
   obtain ⟨r,hr,ho⟩:=ih1 (i+1) (out ++ [⟨0,rd l i⟩]) o (by omega) (by simp;omega) (by omega) h4 h5
   refine ⟨r,Ev_shift ?_,ho⟩
   simp only [exergueref10_affix.j2,if_true,if_pos (show (0:Int)≤(i:Int) by omega),if_pos (show (i:Int)<(l.length:Int) by omega),if_pos hlim,Option.bind_some,if_neg c2,hw i h3]
   exact hr
  have jf:∃ r,Ev (fun k=>exergueref10_affix.j2 k l i out o false) r∧AffOk l r:=by
   obtain ⟨r,hr,ho⟩:=ih0 (i+1) out (by omega) (by omega) (by omega)
   refine ⟨r,Ev_shift ?_,ho⟩
   simp only [exergueref10_affix.j2,Bool.false_eq_true,if_false,if_neg (show ¬ (i:Int)≥(l.length:Int) by omega),hw i h3]
   exact hr
  have jb:∀ b,∃ r,Ev (fun k=>exergueref10_affix.j2 k l i out o b) r∧AffOk l r:=fun b=>by cases b;exact jf;exact jt
  by_cases c2:rd l i=39
  ·obtain ⟨r,hr,ho⟩:=jb (atN l ((i+1:Nat):Int) == 39)
   refine ⟨r,Ev_shift ?_,ho⟩
   simp only [exergueref10_affix.l1,if_pos (show (i:Int)<(l.length:Int) by omega),if_pos (show (0:Int)≤(i:Int) by omega),if_pos c2,hw i h3,hat,Option.bind_some]
   exact hr
  obtain ⟨r,hr,ho⟩:=jt
  refine ⟨r,Ev_shift ?_,ho⟩
  simp only [exergueref10_affix.l1,if_pos (show (i:Int)<(l.length:Int) by omega),if_pos (show (0:Int)≤(i:Int) by omega),if_neg c2]
  exact hr
noncomputable def affixV (l:List Int)(i:Int):List S114×Int×Bool:=evOf fun k=>exergueref10_affix.f k l i
theorem affix_ev (l:List Int)(i:Int)(hl:l.length≤100000)(h0:0≤i):Ev (fun k=>exergueref10_affix.f k l i) (affixV l i)∧0≤(affixV l i).2.1∧((affixV l i).2.1≤i∨(affixV l i).2.1≤l.length+2)∧(affixV l i).1.length≤l.length+2:=by
 by_cases h1:i≤l.length+2
 ·obtain ⟨n,rfl⟩:=Int.eq_ofNat_of_zero_le h0
  obtain ⟨r,hr,ho⟩:=(affix_all l hl (l.length+2)).1 n [] (by omega) (by simp) (by omega)
  have e:affixV l n=r:=evOf_eq hr
  rw [e]
  exact ⟨hr,ho.1,.inr ho.2.1,ho.2.2⟩
 have hr:Ev (fun k=>exergueref10_affix.f k l i) ([],i,true):=by
  refine Ev_shift ?_
  simp only [exergueref10_affix.f,exergueref10_affix.l0,if_neg (show ¬ i<(l.length:Int) by omega)]
  exact Ev.now _
 have e:affixV l i=([],i,true):=evOf_eq hr
 rw [e]
 exact ⟨hr,h0,.inl (Int.le_refl _),by simp⟩
theorem is_ex (r:Int):∃ b,exergueref01_Is.f r=some b:=by
 unfold exergueref01_Is.f
 repeat' split
 all_goals exact ⟨_,rfl⟩
theorem size_ex (r:Int):∃ n,exergueref01_Size.f r=some n∧0≤n∧n≤4∧(exergueref01_Is.f r=some true→1≤n):=by
 unfold exergueref01_Size.f
 obtain ⟨b,hb⟩:=is_ex r
 rw [hb]
 simp only [Option.bind_some]
 cases b
 · exact ⟨0,by simp,by omega,by omega,by simp⟩
 simp only [if_true]
 repeat' split
 all_goals exact ⟨_,rfl,by omega,by omega,fun _=>by omega⟩
theorem bytes_ex (r:Int):∃ l,exergueref01_Bytes.f r=some l∧l.length≤4:=by
 obtain ⟨n,hn,_,_⟩:=size_ex r
 unfold exergueref01_Bytes.f
 rw [hn]
 simp only [Option.bind_some]
 repeat' split
 all_goals exact ⟨_,rfl,by simp⟩
theorem text_ex (r:Int):∃ s,exergueref10_text.f r=some s∧s.size≤4:=by
 obtain ⟨l,hl,h4⟩:=bytes_ex r
 unfold exergueref10_text.f
 rw [hl]
 refine ⟨_,rfl,?_⟩
 have:(strOfNums l).size=l.length:=by simp [strOfNums,ByteArray.size]
 omega
theorem runes_l0 (l:List S114)(hl:l.length≤100000):∀ (m i:Nat),i+m=l.length→∃ b,Ev (fun k=>exergueref10_runes.l0 k l i) b:=by
 intro m
 induction m with
 | zero=>
  intro i hi
  refine ⟨true,Ev_shift ?_⟩
  simp only [exergueref10_runes.l0,if_neg (show ¬ (i:Int)<(l.length:Int) by omega)]
  exact Ev.now _
 | succ m ih=>
  intro i hi
  obtain ⟨b,hb⟩:=ih (i+1) (by omega)
  obtain ⟨c,hc⟩:=is_ex ((rd_T114 l i).f1)
  have e:wrap64 ((i:Int)+1)=((i+1:Nat):Int):=by rw [w64 _ (by omega) (by omega)];omega
  cases c with
  | false=>
   refine ⟨false,Ev_shift ?_⟩
   simp only [exergueref10_runes.l0,if_pos (show (i:Int)<(l.length:Int) by omega),if_pos (show (0:Int)≤(i:Int) by omega),hc,Option.bind_some,Bool.false_eq_true,if_false]
   exact Ev.now _
  | true=>
   refine ⟨b,Ev_shift ?_⟩
   simp only [exergueref10_runes.l0,if_pos (show (i:Int)<(l.length:Int) by omega),if_pos (show (0:Int)≤(i:Int) by omega),hc,Option.bind_some,if_true,e]
   exact hb
noncomputable def runesV (l:List S114):Bool:=evOf fun k=>exergueref10_runes.f k l
theorem runes_ev (l:List S114)(hl:l.length≤100000):Ev (fun k=>exergueref10_runes.f k l) (runesV l):=evOf_ev (runes_l0 l hl l.length 0 (by omega))
theorem toks_l0 (a b:List S114)(hl:a.length≤100000)(hab:a.length=b.length):∀ (m i:Nat),i+m=a.length→∃ r,Ev (fun k=>exergueref10_Toks.l0 k a b i) r:=by
 intro m
 induction m with
 | zero=>
  intro i hi
  refine ⟨true,Ev_shift ?_⟩
  simp only [exergueref10_Toks.l0,if_neg (show ¬ (i:Int)<(a.length:Int) by omega)]
  exact Ev.now _
 | succ m ih=>
  intro i hi
  obtain ⟨r,hr⟩:=ih (i+1) (by omega)
  have e:wrap64 ((i:Int)+1)=((i+1:Nat):Int):=by rw [w64 _ (by omega) (by omega)];omega
  by_cases c:(!(((rd_T114 a i).f0) == ((rd_T114 b i).f0)) || (!(((rd_T114 a i).f1) == ((rd_T114 b i).f1))))=true
  ·refine ⟨false,Ev_shift ?_⟩
   simp only [exergueref10_Toks.l0,if_pos (show (i:Int)<(a.length:Int) by omega),if_pos (show (i:Int)<(b.length:Int) by omega),if_pos (show (0:Int)≤(i:Int) by omega),if_pos c]
   exact Ev.now _
  refine ⟨r,Ev_shift ?_⟩
  simp only [exergueref10_Toks.l0,if_pos (show (i:Int)<(a.length:Int) by omega),if_pos (show (i:Int)<(b.length:Int) by omega),if_pos (show (0:Int)≤(i:Int) by omega),if_neg c,e]
  exact hr
noncomputable def toksV (a b:List S114):Bool:=evOf fun k=>exergueref10_Toks.f k a b
theorem toks_ev (a b:List S114)(hl:a.length≤100000):Ev (fun k=>exergueref10_Toks.f k a b) (toksV a b):=by
 refine evOf_ev ?_
 unfold exergueref10_Toks.f
 by_cases h:(a.length:Int)=(b.length:Int)
 ·simp only [if_pos h]
  exact toks_l0 a b hl (by omega) a.length 0 (by omega)
 simp only [if_neg h]
 exact ⟨_,Ev.now _⟩
def tmsS (s:ByteArray):Nat→ByteArray
  | 0=>⟨#[]⟩
  | n+1=>tmsS s n ++ s
theorem tmsS_size (s:ByteArray)(n:Nat):(tmsS s n).size=s.size * n:=by
 induction n with
 | zero=>rfl
 | succ n ih=>unfold tmsS;rw [ByteArray.size_append,ih,Nat.mul_succ]
theorem times_l0 (s:ByteArray)(hs:s.size≤1)(n:Nat)(hn:n≤1000):∀ (m i:Nat),i+m=n→Ev (fun k=>exergueref10_times.l0 k s n (tmsS s i) i) (tmsS s n):=by
 intro m
 induction m with
 | zero=>
  intro i hi
  obtain rfl:i=n:=by omega
  refine Ev_shift ?_
  simp only [exergueref10_times.l0,if_neg (show ¬ (i:Int)<(i:Int) by omega)]
  exact Ev.now _
 | succ m ih=>
  intro i hi
  have e:wrap64 ((i:Int)+1)=((i+1:Nat):Int):=by rw [w64 _ (by omega) (by omega)];omega
  have hz:=tmsS_size s i
  have hz2:s.size * i≤1000:=Nat.le_trans (Nat.mul_le_mul hs (show i≤1000 by omega)) (by omega)
  refine Ev_shift ?_
  simp only [exergueref10_times.l0,if_pos (show (i:Int)<(n:Int) by omega),if_pos (show (tmsS s i).size+s.size≤9223372036854775807 by omega),e]
  exact ih (i+1) (by omega)
theorem times_ev (s:ByteArray)(n:Int)(hs:s.size≤1)(hn:n≤1000):Ev (fun k=>exergueref10_times.f k s n) (tmsS s n.toNat):=by
 unfold exergueref10_times.f
 by_cases h0:0≤n
 ·obtain ⟨m,rfl⟩:=Int.eq_ofNat_of_zero_le h0
  exact times_l0 s hs m (by omega) m 0 (by omega)
 refine Ev_shift ?_
 have e:n.toNat=0:=by omega
 simp only [exergueref10_times.l0,if_neg (show ¬ (0:Int)<n by omega),e]
 exact Ev.now _
theorem written_all (l:List S114)(hl:l.length≤100000):∀ (m i:Nat)(s:ByteArray)(b:Bool),i+m=l.length→s.size≤6 * i→∃ r,Ev (fun k=>exergueref10_written.l0 k l s b i) r∧r.size≤6 * l.length+1:=by
 intro m
 induction m with
 | zero=>
  intro i s b hi hs
  cases b with
  | true=>
   refine ⟨s ++ ⟨#[39]⟩,Ev_shift ?_,by rw [ByteArray.size_append];show s.size+1≤_;omega⟩
   simp only [exergueref10_written.l0,if_neg (show ¬ (i:Int)<(l.length:Int) by omega),if_true,if_pos (show s.size+1≤9223372036854775807 by omega)]
   exact Ev.now _
  | false=>
   refine ⟨s,Ev_shift ?_,by omega⟩
   simp only [exergueref10_written.l0,if_neg (show ¬ (i:Int)<(l.length:Int) by omega),Bool.false_eq_true,if_false]
   exact Ev.now _
 | succ m ih=>
  intro i s b hi hs
  have e:wrap64 ((i:Int)+1)=((i+1:Nat):Int):=by rw [w64 _ (by omega) (by omega)];omega
  have p0:(0:Int)≤(i:Int):=by omega
  have p1:(i:Int)<(l.length:Int):=by omega
  obtain ⟨sp,hsp⟩:=special_ex ((rd_T114 l i).f1)
  obtain ⟨tx,htx,ht4⟩:=text_ex ((rd_T114 l i).f1)
  obtain ⟨ty,hty,hy4⟩:=text_ex 164
  have one:∀ (t:ByteArray),t.size=1→∀ s:ByteArray,(s ++ t).size=s.size+1:=fun t h s=>by rw [ByteArray.size_append,h]
  have h39:∀ s:ByteArray,(s ++ (⟨#[39]⟩:ByteArray)).size=s.size+1:=one _ rfl
  have j4:∀ (s:ByteArray) (b x7:Bool),s.size≤6 * i+1→∃ r,Ev (fun k=>exergueref10_written.j4 k l s b i x7) r∧r.size≤6 * l.length+1:=by
   intro s b x7 hs
   have goon:∀ s:ByteArray,s.size≤6 * (i+1)→∃ r,Ev (fun k=>exergueref10_written.l0 k l s b ((i+1:Nat):Int)) r∧r.size≤6 * l.length+1:=fun s h=>ih (i+1) s b (by omega) h
   by_cases c0:(rd_T114 l i).f0=0
   ·have hz:(s ++ tx).size=s.size+tx.size:=ByteArray.size_append
    cases x7 with
    | true=>
     obtain ⟨r,hr,ho⟩:=goon ((s ++ tx) ++ (⟨#[39]⟩:ByteArray)) (by rw [h39,hz];omega)
     refine ⟨r,Ev_shift ?_,ho⟩
     simp only [exergueref10_written.j4,if_pos p0,if_pos p1,if_pos c0,htx,Option.bind_some,if_pos (show s.size+tx.size≤9223372036854775807 by omega),if_true,if_pos (show (s ++ tx).size+1≤9223372036854775807 by omega),e]
     exact hr
    | false=>
     obtain ⟨r,hr,ho⟩:=goon (s ++ tx) (by omega)
     refine ⟨r,Ev_shift ?_,ho⟩
     simp only [exergueref10_written.j4,if_pos p0,if_pos p1,if_pos c0,htx,Option.bind_some,if_pos (show s.size+tx.size≤9223372036854775807 by omega),Bool.false_eq_true,if_false,e]
     exact hr
   have step:∀ (t:ByteArray),t.size=1→∃ r,Ev (fun k=>exergueref10_written.l0 k l (s ++ t) b ((i+1:Nat):Int)) r∧r.size≤6 * l.length+1:=fun t ht=>goon _ (by rw [one t ht];omega)
   have q1:s.size+1≤9223372036854775807:=by omega
   by_cases c1:(rd_T114 l i).f0=1
   ·obtain ⟨r,hr,ho⟩:=step (⟨#[45]⟩:ByteArray) rfl
    refine ⟨r,Ev_shift ?_,ho⟩
    simp only [exergueref10_written.j4,if_pos p0,if_pos p1,if_neg c0,if_pos c1,if_pos q1,e]
    exact hr
   by_cases c2:(rd_T114 l i).f0=2
   ·obtain ⟨r,hr,ho⟩:=step (⟨#[43]⟩:ByteArray) rfl
    refine ⟨r,Ev_shift ?_,ho⟩
    simp only [exergueref10_written.j4,if_pos p0,if_pos p1,if_neg c0,if_neg c1,if_pos c2,if_pos q1,e]
    exact hr
   by_cases c3:(rd_T114 l i).f0=3
   ·obtain ⟨r,hr,ho⟩:=step (⟨#[37]⟩:ByteArray) rfl
    refine ⟨r,Ev_shift ?_,ho⟩
    simp only [exergueref10_written.j4,if_pos p0,if_pos p1,if_neg c0,if_neg c1,if_neg c2,if_pos c3,if_pos q1,e]
    exact hr
   by_cases c4:(rd_T114 l i).f0=4
   ·obtain ⟨r,hr,ho⟩:=goon (s ++ ty) (by rw [ByteArray.size_append];omega)
    refine ⟨r,Ev_shift ?_,ho⟩
    simp only [exergueref10_written.j4,if_pos p0,if_pos p1,if_neg c0,if_neg c1,if_neg c2,if_neg c3,if_pos c4,hty,Option.bind_some,if_pos (show s.size+ty.size≤9223372036854775807 by omega),e]
    exact hr
   obtain ⟨r,hr,ho⟩:=goon s (by omega)
   refine ⟨r,Ev_shift ?_,ho⟩
   simp only [exergueref10_written.j4,if_pos p0,if_pos p1,if_neg c0,if_neg c1,if_neg c2,if_neg c3,if_neg c4,e]
   exact hr
  have j3:∀ (x7 x8 x50:Bool),∃ r,Ev (fun k=>exergueref10_written.j3 k l s b i x7 x8 x50) r∧r.size≤6 * l.length+1:=by
   intro x7 x8 x50
   cases x50 with
   | true=>
    obtain ⟨r,hr,ho⟩:=j4 (s ++ (⟨#[39]⟩:ByteArray)) x8 x7 (by rw [h39];omega)
    refine ⟨r,Ev_shift ?_,ho⟩
    simp only [exergueref10_written.j3,if_true,if_pos (show s.size+1≤9223372036854775807 by omega)]
    exact hr
   | false=>
    obtain ⟨r,hr,ho⟩:=j4 s b x7 (by omega)
    refine ⟨r,Ev_shift ?_,ho⟩
    simp only [exergueref10_written.j3,Bool.false_eq_true,if_false]
    exact hr
  have j2:∀ (x7 x8:Bool),∃ r,Ev (fun k=>exergueref10_written.j2 k l s b i x7 x8) r∧r.size≤6 * l.length+1:=by
   intro x7 x8
   cases x7 with
   | true=>
    obtain ⟨r,hr,ho⟩:=j3 true x8 false
    exact ⟨r,Ev_shift (by simp only [exergueref10_written.j2,if_true];exact hr),ho⟩
   | false=>
    obtain ⟨r,hr,ho⟩:=j3 false x8 (x8 != b)
    exact ⟨r,Ev_shift (by simp only [exergueref10_written.j2,Bool.false_eq_true,if_false];exact hr),ho⟩
  have j1:∀ (x6 x7:Bool),∃ r,Ev (fun k=>exergueref10_written.j1 k l s b i x6 x7) r∧r.size≤6 * l.length+1:=by
   intro x6 x7
   by_cases c0:(rd_T114 l i).f0=0
   ·obtain ⟨r,hr,ho⟩:=j2 x7 x6
    exact ⟨r,Ev_shift (by simp only [exergueref10_written.j1,if_pos p0,if_pos p1,if_pos c0];exact hr),ho⟩
   obtain ⟨r,hr,ho⟩:=j2 x7 false
   exact ⟨r,Ev_shift (by simp only [exergueref10_written.j1,if_pos p0,if_pos p1,if_neg c0];exact hr),ho⟩
  by_cases c0:(rd_T114 l i).f0=0
  ·obtain ⟨r,hr,ho⟩:=j1 sp ((rd_T114 l i).f1 == 39)
   refine ⟨r,Ev_shift ?_,ho⟩
   simp only [exergueref10_written.l0,if_pos p0,if_pos p1]
   refine Ev.bind hsp ?_
   simp only [if_pos c0]
   exact hr
  obtain ⟨r,hr,ho⟩:=j1 sp false
  refine ⟨r,Ev_shift ?_,ho⟩
  simp only [exergueref10_written.l0,if_pos p0,if_pos p1]
  refine Ev.bind hsp ?_
  simp only [if_neg c0]
  exact hr
noncomputable def writtenV (l:List S114):ByteArray:=evOf fun k=>exergueref10_written.f k l
theorem written_ev (l:List S114)(hl:l.length≤100000):Ev (fun k=>exergueref10_written.f k l) (writtenV l)∧(writtenV l).size≤6 * l.length+1:=by
 obtain ⟨r,hr,ho⟩:=written_all l hl l.length 0 ⟨#[]⟩ false (by omega) (by simp [ByteArray.size])
 have e:writtenV l=r:=evOf_eq hr
 rw [e]
 exact ⟨hr,ho⟩
noncomputable def textV (r:Int):ByteArray:=(exergueref10_text.f r).getD ⟨#[]⟩
theorem ptext_f (r:Int):exergueref10_text.f r=some (textV r)∧(textV r).size≤4:=by
 obtain ⟨s,h,h4⟩:=text_ex r
 unfold textV
 rw [h]
 exact ⟨rfl,h4⟩
end
end Go.Proofs.YtklebhlanidloaaGreatDoor.PZ
end
section
noncomputable section
namespace Go.Proofs.YtklebhlanidloaaGreatDoor.PZ
open Go.RowKit Go.Proofs.YtklebhlanidloaaGreatDoorW.PrintWords Go.Proofs.YtklebhlanidloaaGreatDoorW.PrintLast Go.Proofs.YtklebhlanidloaaGreatDoorW.PrintMore
attribute [local go_sem] max2_int min2_int max_two min_two max_three min_three max_four min_four   -- for this text's walks alone
def exergueref07_Figures.l0:Nat→List Int→Int→Option (Bool)
 | 0,_,_=>none
 | k+1,x0,x3=>if x3<(x0.length:Int) then (if 0≤x3 then (if (rd x0 x3)>9 then (some false) else (exergueref07_Figures.l0 k x0 (wrap64 (x3+1)))) else (none)) else (some true)
def exergueref07_Figures.f (k:Nat)(l0:List Int):Option (Bool):=exergueref07_Figures.l0 k l0 0
theorem exergueref07_Figures.mono_l:∀ k,(∀ y0 y1,LeO (exergueref07_Figures.l0 k y0 y1) (exergueref07_Figures.l0 (k+1) y0 y1))
 | 0=>fun _ _ r h=>by simp [exergueref07_Figures.l0] at h
 | k+1=>by
  have ih0:=exergueref07_Figures.mono_l k
  ·intro y0 y1
   unfold exergueref07_Figures.l0
   repeat' first|(with_reducible first|apply ih0|apply LeO.refl|apply LeO.none|refine LeO.ite ?_ ?_|refine LeO.bind ?_ (fun _=>?_))|apply ih0|apply LeO.none
theorem exergueref07_Figures.mono:∀ a0 k,LeO (exergueref07_Figures.f k a0) (exergueref07_Figures.f (k+1) a0):=by
 intro a0 k
 have ih0:=exergueref07_Figures.mono_l k
 unfold exergueref07_Figures.f
 repeat' first|(with_reducible first|apply ih0|apply LeO.refl|apply LeO.none|refine LeO.ite ?_ ?_|refine LeO.bind ?_ (fun _=>?_))|apply ih0|apply LeO.none
set_option maxHeartbeats 8000000 in
set_option maxRecDepth 100000 in
theorem exergueref07_Figures.calls (k:Nat)(A0:Option Addr)(c0:Nat)(l0:List Int)(r:Bool)(w:World)(hr0:Kd.C (Kd.int .u8) w A0 l0.length l0)(hc0:l0.length≤c0)(h:exergueref07_Figures.f k l0=some r) :
  Calls Tryz.prog 30 #[.slice A0 l0.length c0] w fun e w'=>e = .returned (.bool r)∧Drawn0 w w':=by
 have HR0:=zS hr0
 have HC0:=zS hc0
 clear hr0 hc0
 have H:(exergueref07_Figures.l0 k l0 0)=some r:=h
 clear h
 have H':=zS H
 clear H
 go_enter Tryz.func30,Tryz.ntmps30
 go_wp2
 go_loopg [3] k (fun kq v3 w'=>∃ (aa:Int),v3 = .int .i64 aa∧Sd (exergueref07_Figures.l0 kq l0 aa=some r)∧Sd (kq≤k)∧Drawn0 w w')
 case atStart=>exact ⟨(0),(by first|rfl|(simp;done)|(simp [*];done)),H',⟨Nat.le_refl _⟩,by repeat (first|exact Drawn0.refl _|apply Drawn0.step)⟩
 case round=>
  clear H'
  obtain ⟨aa,rfl,HA,HK1,⟨m1,rfl⟩⟩:=hrel
  cases gk with
  | zero=>exact absurd HA.out (by simp [exergueref07_Figures.l0])
  | succ k1=>
   have H:=HA.out
   clear HA
   simp only [exergueref07_Figures.l0] at H
   by_cases c2:aa<(l0.length:Int)
   rotate_left
   ·rw [if_neg c2] at H
    have ag:=zD c2
    clear c2
    obtain rfl:=zE H
    go_wp2
    go_ret
    exact ⟨by first|rfl|(simp;done)|(simp [*];done),by repeat (first|exact Drawn0.refl _|apply Drawn0.step)⟩
   rw [if_pos c2] at H
   have ag:=zC c2
   clear c2
   by_cases c3:0≤aa
   rotate_left
   ·rw [if_neg c3] at H
    exact absurd H (by simp)
   rw [if_pos c3] at H
   have ai:=zC c3
   clear c3
   by_cases c4:(rd l0 aa)>9
   ·rw [if_pos c4] at H
    have ah:decide (9<(rd l0 aa))=true:=zC c4
    clear c4
    obtain rfl:=zE H
    have ab:0≤(aa:Int):=zB (by first|(with_reducible assumption)|assumption)
    have ac:aa<(l0.length:Int):=zB (by first|(with_reducible assumption)|assumption)
    obtain ⟨af,ad,ae⟩:=Kd.at_int HR0.out aa ab ac
    cases ad
    replace ab:=eq_true ab
    replace ac:=eq_true ac
    go_wp2
    go_ret
    exact ⟨by first|rfl|(simp;done)|(simp [*];done),by repeat (first|exact Drawn0.refl _|apply Drawn0.step)⟩
   rw [if_neg c4] at H
   have ah:decide (9<(rd l0 aa))=false:=zD c4
   clear c4
   have H':=zS H
   clear H
   have ab:0≤(aa:Int):=zB (by first|(with_reducible assumption)|assumption)
   have ac:aa<(l0.length:Int):=zB (by first|(with_reducible assumption)|assumption)
   obtain ⟨af,ad,ae⟩:=Kd.at_int HR0.out aa ab ac
   cases ad
   replace ab:=eq_true ab
   replace ac:=eq_true ac
   go_wp2
   go_roundg k1
   case measure=>have:=HK1.out;omega
   case rel=>exact ⟨(wrap64 (aa+1)),(by first|rfl|(simp;done)|(simp [*];done)),H',⟨by have:=HK1.out;omega⟩,by repeat (first|exact Drawn0.refl _|apply Drawn0.step)⟩
end Go.Proofs.YtklebhlanidloaaGreatDoor.PZ
end
end
section
set_option maxRecDepth 100000
namespace Go.Proofs.YtklebhlanidloaaGreatDoor.PZ
open Go.RowKit Go.Proofs.YtklebhlanidloaaGreatDoorW.PrintWords Go.Proofs.YtklebhlanidloaaGreatDoorW.PrintLast
def RightTail (l:List Int)(e:Int):Prop:=(l.length=0∧e=0)∨(0<l.length∧l.length≤1000∧0<rd l 0∧0<rd l ((l.length:Int) - 1) ∧ -1000≤e∧e≤1000)
def Right (l:List Int)(e:Int):Prop:=(∀ i:Nat,i<l.length→rd l (i:Int)≤9)∧RightTail l e
theorem right_l0 (g:Bool)(l:List Int)(e:Int)(hm:l.length≤9223372036854775807)(n:Nat):∀ i:Nat,i+n=l.length →
    ∃ b,exergueref05_Right.l0 (n+1) (l.length:Int) (i:Int) g l e=some b∧(b=true ↔ (∀ j:Nat,i≤j→j<l.length→rd l (j:Int)≤9)∧RightTail l e):=by
 induction n with
 | zero=>
  intro i hi
  have h1:¬ ((i:Int)<(l.length:Int)):=by omega
  have h2:wrap64 ((l.length:Int) - 1)=(l.length:Int) - 1:=w64 _ (by omega) (by omega)
  simp only [exergueref05_Right.l0,h1,if_false,h2]
  have hall:∀ j:Nat,i≤j→j<l.length→rd l (j:Int)≤9:=fun j hj hk=>absurd hk (by omega)
  unfold RightTail
  by_cases h0:l.length=0
  ·refine ⟨e == 0,by simp [h0],?_⟩
   simp [h0]
  by_cases h3:l.length≤1000
  rotate_left
  ·have e4:((l.length:Int)=0)=False:=eq_false (by omega)
   have e5:((l.length:Int)≤1000)=False:=eq_false (by omega)
   refine ⟨false,by simp only [e4,e5,if_false],?_⟩
   constructor
   · intro z;cases z
   rintro ⟨_,⟨z,_⟩|⟨_,z,_⟩⟩ <;> omega
  have e1:(0:Int)<(l.length:Int):=by omega
  have e2:(0:Int)≤(l.length:Int) - 1:=by omega
  have e3:(l.length:Int) - 1<(l.length:Int):=by omega
  have e4:((l.length:Int)=0)=False:=eq_false (by omega)
  have e5:((l.length:Int)≤1000)=True:=eq_true (by omega)
  refine ⟨decide (rd l 0>0) && (decide (rd l ((l.length:Int) - 1)>0) && (decide (e ≥ -1000) && decide (e≤1000))),?_,?_⟩
  ·simp only [e4,e5,e1,e2,e3,if_true,if_false]
   by_cases a1:rd l 0>0
   ·by_cases a2:rd l ((l.length:Int) - 1)>0
    ·by_cases a3:e ≥ -1000
     · simp [a1,a2,a3]
     simp [a1,a2,a3]
    simp [a1,a2]
   simp [a1]
  simp only [Bool.and_eq_true,decide_eq_true_eq]
  constructor
  ·rintro ⟨a,b,c,d⟩
   exact ⟨hall,.inr ⟨by omega,h3,a,b,by omega,d⟩⟩
  rintro ⟨_,⟨z,_⟩|⟨_,_,a,b,c,d⟩⟩
  · omega
  exact ⟨a,b,by omega,d⟩
 | succ n ih=>
  intro i hi
  obtain ⟨b,hb,hbi⟩:=ih (i+1) (by omega)
  have h1:((i:Int)<(l.length:Int))=True:=eq_true (by omega)
  have h2:wrap64 ((i:Int)+1)=((i+1:Nat):Int):=by rw [w64 _ (by omega) (by omega)];omega
  have h3:((0:Int)≤(i:Int))=True:=eq_true (by omega)
  by_cases h9:rd l (i:Int)>9
  ·refine ⟨false,?_,?_⟩
   ·rw [exergueref05_Right.l0]
    simp only [h1,h3,h9,if_true]
   constructor
   · intro z;cases z
   rintro ⟨z,_⟩
   have:=z i (Nat.le_refl _) (by omega)
   omega
  refine ⟨b,?_,?_⟩
  ·rw [exergueref05_Right.l0]
   simp only [h1,h3,h9,if_true,if_false,h2]
   exact hb
  rw [hbi]
  constructor
  ·rintro ⟨z,t⟩
   refine ⟨fun j hj hk=>?_,t⟩
   by_cases hij:j=i
   · subst hij;omega
   exact z j (by omega) hk
  rintro ⟨z,t⟩
  exact ⟨fun j hj hk=>z j (by omega) hk,t⟩
theorem right_f (g:Bool)(l:List Int)(e:Int)(hm:l.length≤9223372036854775807):∃ b,exergueref05_Right.f (l.length+1) g l e=some b∧(b=true ↔ Right l e):=by
 obtain ⟨b,hb,hi⟩:=right_l0 g l e hm l.length 0 (by omega)
 refine ⟨b,hb,hi.trans ?_⟩
 unfold Right
 constructor
 · rintro ⟨z,t⟩;exact ⟨fun i h=>z i (Nat.zero_le _) h,t⟩
 rintro ⟨z,t⟩;exact ⟨fun i _ h=>z i h,t⟩
theorem right_many (g:Bool)(l:List Int)(e:Int)(hm:l.length≤9223372036854775807):∃ b k,(∀ j,k≤j→exergueref05_Right.f j g l e=some b)∧(b=true ↔ Right l e):=by
 obtain ⟨b,hb,hi⟩:=right_f g l e hm
 exact ⟨b,l.length+1,fun j hj=>at_rounds (g:=fun k=>exergueref05_Right.f k g l e) (fun k=>exergueref05_Right.mono _ _ _ k) hj hb,hi⟩
end Go.Proofs.YtklebhlanidloaaGreatDoor.PZ
end
