/- Texts of this seat, joined. Conditions: none beyond each statement's own. -/
import Derived.Test.YtgfajgkjbckkgaaGreatDoorPc22
set_option linter.all false
section
noncomputable section
namespace Go.Proofs.YtgfajgkjbckkgaaGreatDoor.PZ
open Go.RowKit Go.Proofs.YtgfajgkjbckkgaaGreatDoorW.PrintWords Go.Proofs.YtgfajgkjbckkgaaGreatDoorW.PrintLast Go.Proofs.YtgfajgkjbckkgaaGreatDoorW.PrintMore
attribute [local go_sem] max2_int min2_int max_two min_two max_three min_three max_four min_four   -- for this text's walks alone
mutual
def exerguelaw11_RuleBlanks.j0:Nat→List (List (S60))→Bool→Bool→Option (Bool)
 | 0,_,_,_=>none
 | k+1,x0,x3,x18=>if x18=true then (some x3) else ((rule_Text.f k x0).bind fun ab=>(exerguelaw11_RuleBlanks.l0 k x0 x3 ab (⟨#[32,32]⟩:ByteArray) 0))
def exerguelaw11_RuleBlanks.l0:Nat→List (List (S60))→Bool→ByteArray→ByteArray→Int→Option (Bool)
 | 0,_,_,_,_,_=>none
 | k+1,x0,x3,x4,x5,x6=>if x6<(x4.size:Int) then (if 0≤x6 then (if x6≤(wrap64 (x6+1)) then (if (wrap64 (x6+1))≤(x4.size:Int) then (if x5.size+(x4.extract (x6:Int).toNat ((wrap64 (x6+1)):Int).toNat).size≤9223372036854775807 then (if (bt x4 x6)=32 then (if (x5 ++ (x4.extract (x6:Int).toNat ((wrap64 (x6+1)):Int).toNat)).size+1≤9223372036854775807 then (exerguelaw11_RuleBlanks.l0 k x0 x3 x4 ((x5 ++ (x4.extract (x6:Int).toNat ((wrap64 (x6+1)):Int).toNat)) ++ (⟨#[32]⟩:ByteArray)) (wrap64 (x6+1))) else (none)) else (exerguelaw11_RuleBlanks.l0 k x0 x3 x4 (x5 ++ (x4.extract (x6:Int).toNat ((wrap64 (x6+1)):Int).toNat)) (wrap64 (x6+1)))) else (none)) else (none)) else (none)) else (none)) else (if x5.size+1≤9223372036854775807 then ((rule_Parse.f (x5 ++ (⟨#[32]⟩:ByteArray))).bind fun ag=>(if x3=true then (if ag.2.2=0 then ((exergueref11_Same.f k x0 ag.1).bind fun al=>(if al=true then (some true) else (if ag.2.2=11 then (some (decide ((wrap64 ((x5.size:Int)+1))>400))) else (none)))) else (if ag.2.2=11 then (some (decide ((wrap64 ((x5.size:Int)+1))>400))) else (none))) else (none))) else (none))
end
def exerguelaw11_RuleBlanks.f (k:Nat)(l0:List (List (S60))):Option (Bool):=(exerguelaw11_shown.f k).bind fun af=>((exergueref11_Short.f k l0).bind fun aj=>(if aj=true then ((exergueref11_Right.f k l0).bind fun ai=>(exerguelaw11_RuleBlanks.j0 k l0 af (!ai))) else (exerguelaw11_RuleBlanks.j0 k l0 af true)))
theorem exerguelaw11_RuleBlanks.mono_l:∀ k,(∀ y0 y1 y2,LeO (exerguelaw11_RuleBlanks.j0 k y0 y1 y2) (exerguelaw11_RuleBlanks.j0 (k+1) y0 y1 y2))∧(∀ y0 y1 y2 y3 y4,LeO (exerguelaw11_RuleBlanks.l0 k y0 y1 y2 y3 y4) (exerguelaw11_RuleBlanks.l0 (k+1) y0 y1 y2 y3 y4))
 | 0=>⟨fun _ _ _ r h=>by simp [exerguelaw11_RuleBlanks.j0] at h,fun _ _ _ _ _ r h=>by simp [exerguelaw11_RuleBlanks.l0] at h⟩
 | k+1=>by
  obtain ⟨ih0,ih1⟩:=exerguelaw11_RuleBlanks.mono_l k
  refine ⟨?_,?_⟩
  ·intro y0 y1 y2
   unfold exerguelaw11_RuleBlanks.j0
   repeat' first|(with_reducible first|apply ih0|apply ih1|apply exerguelaw11_shown.mono|apply exergueref11_Right.mono|apply exergueref11_Same.mono|apply exergueref11_Short.mono|apply rule_Text.mono|apply LeO.refl|apply LeO.none|refine LeO.ite ?_ ?_|refine LeO.bind ?_ (fun _=>?_))|apply ih0|apply ih1|apply exerguelaw11_shown.mono|apply exergueref11_Right.mono|apply exergueref11_Same.mono|apply exergueref11_Short.mono|apply rule_Text.mono|apply LeO.none
  ·intro y0 y1 y2 y3 y4
   unfold exerguelaw11_RuleBlanks.l0
   repeat' first|(with_reducible first|apply ih0|apply ih1|apply exerguelaw11_shown.mono|apply exergueref11_Right.mono|apply exergueref11_Same.mono|apply exergueref11_Short.mono|apply rule_Text.mono|apply LeO.refl|apply LeO.none|refine LeO.ite ?_ ?_|refine LeO.bind ?_ (fun _=>?_))|apply ih0|apply ih1|apply exerguelaw11_shown.mono|apply exergueref11_Right.mono|apply exergueref11_Same.mono|apply exergueref11_Short.mono|apply rule_Text.mono|apply LeO.none
theorem exerguelaw11_RuleBlanks.mono:∀ a0 k,LeO (exerguelaw11_RuleBlanks.f k a0) (exerguelaw11_RuleBlanks.f (k+1) a0):=by
 intro a0 k
 obtain ⟨ih0,ih1⟩:=exerguelaw11_RuleBlanks.mono_l k
 unfold exerguelaw11_RuleBlanks.f
 repeat' first|(with_reducible first|apply ih0|apply ih1|apply exerguelaw11_shown.mono|apply exergueref11_Right.mono|apply exergueref11_Same.mono|apply exergueref11_Short.mono|apply rule_Text.mono|apply LeO.refl|apply LeO.none|refine LeO.ite ?_ ?_|refine LeO.bind ?_ (fun _=>?_))|apply ih0|apply ih1|apply exerguelaw11_shown.mono|apply exergueref11_Right.mono|apply exergueref11_Same.mono|apply exergueref11_Short.mono|apply rule_Text.mono|apply LeO.none
set_option maxHeartbeats 8000000 in
set_option maxRecDepth 100000 in
theorem exerguelaw11_RuleBlanks.calls (k:Nat)(A0:Option Addr)(c0:Nat)(l0:List (List (S60)))(r:Bool)(w:World)(hG:GL w)(hr0:Kd.C (Kd.slice 60 k60) w A0 l0.length l0)(hc0:l0.length≤c0)(h:exerguelaw11_RuleBlanks.f k l0=some r) :
  Calls Tryz.prog 7 #[.slice A0 l0.length c0] w fun e w'=>e = .returned (.bool r)∧Below w.heap.size w w':=by
 have HR0:=zS hr0
 have HC0:=zS hc0
 clear hr0 hc0
 have HB:=zS (Below.refl w.heap.size w)
 have HG:=zS hG
 clear hG
 have H:((exerguelaw11_shown.f k).bind fun af=>((exergueref11_Short.f k l0).bind fun aj=>(if aj=true then ((exergueref11_Right.f k l0).bind fun ai=>(exerguelaw11_RuleBlanks.j0 k l0 af (!ai))) else (exerguelaw11_RuleBlanks.j0 k l0 af true))))=some r:=h
 clear h
 replace H:=Option.bind_eq_some_iff.mp H
 obtain ⟨af,A20,H⟩:=H
 try dsimp only at H
 have A2:=zS A20
 clear A20
 have HC3:=zS H
 clear H
 go_enter Tryz.func7,Tryz.ntmps7
 go_upto_region 2 with (first|((with_reducible refine gate_callee (f:=29) rfl ?_);refine gL (some 10) Tryz.func29 #[] ?_;(with_reducible refine (exerguelaw11_shown.calls k  af _ ?side1 A2.out).mono ?_);(case side1=>refine GL.below HG.out ?_;exact bQ HB);rintro e w4 ⟨rfl,hb⟩;refine ⟨_,rfl,?_⟩;replace HB:=bs HB hb;(try clear hb)))
 (try simp only [Act.put,sA,sB,sC])
 go_cut [18] (fun v18 wc=>∃ (kq:Nat) (ah:Bool),v18 = .bool ah∧Sd (exerguelaw11_RuleBlanks.j0 kq l0 af ah=some r)∧Sd (kq≤k)∧Sd (Below w.heap.size w wc))
 case first=>
  have H:=HC3.out
  clear HC3
  replace H:=Option.bind_eq_some_iff.mp H
  obtain ⟨aj,A50,H⟩:=H
  try dsimp only at H
  have A5:=zS A50
  clear A50
  by_cases c6:aj=true
  ·subst c6
   rw [if_pos rfl] at H
   replace H:=Option.bind_eq_some_iff.mp H
   obtain ⟨ai,A70,H⟩:=H
   try dsimp only at H
   have A7:=zS A70
   clear A70
   have H':=zS H
   clear H
   go_wp2_with (first|((with_reducible refine gate_callee (f:=30) rfl ?_);refine gL (some 12) Tryz.func30 #[.slice A0 l0.length c0] ?_;(with_reducible refine (exergueref11_Short.calls k _ _ l0 true _ (cb HR0 HB) HC0.out A5.out).mono ?_);rintro e w' ⟨rfl,⟨nd,rfl⟩⟩;refine ⟨_,rfl,?_⟩)|(go_at_call 31;(with_reducible refine (exergueref11_Right.calls k _ _ l0 ai _ ?side1 HC0.out A7.out).mono ?_);(case side1=>repeat (first|exact (Kd.C_below HR0.out (bQ HB))|(with_reducible refine Kd.C_alloc ?_ _)|(with_reducible refine Kd.C_drewN ?_ _)|(with_reducible refine Kd.C_drew ?_)));rintro e w8 ⟨rfl,hb⟩;replace HB:=bs HB hb;(try clear hb)))
   go_meet
   case rel=>exact ⟨_,(!ai),(by first|rfl|(simp;done)|(simp [*];done)),H',⟨by first|omega|exact Nat.le_refl _⟩,⟨bQ HB⟩⟩
  replace c6:=Bool.eq_false_iff.mpr c6
  subst c6
  rw [if_neg (show ¬ (false=true) by decide)] at H
  have H':=zS H
  clear H
  go_wp2_with (first|((with_reducible refine gate_callee (f:=30) rfl ?_);refine gL (some 12) Tryz.func30 #[.slice A0 l0.length c0] ?_;(with_reducible refine (exergueref11_Short.calls k _ _ l0 false _ (cb HR0 HB) HC0.out A5.out).mono ?_);rintro e w' ⟨rfl,⟨nd,rfl⟩⟩;refine ⟨_,rfl,?_⟩))
  go_meet
  case rel=>exact ⟨_,(true),(by first|rfl|(simp;done)|(simp [*];done)),H',⟨by first|omega|exact Nat.le_refl _⟩,⟨bQ HB⟩⟩
 case rest=>
  clear HC3
  try clear c2
  try clear p2
  try clear c3
  try clear c6
  try clear c7
  obtain ⟨kq,ah,rfl,HA,HJ2,HB⟩:=hcut
  cases kq with
  | zero=>exact absurd HA.out (by simp [exerguelaw11_RuleBlanks.j0])
  | succ kj2=>
   have H:=HA.out
   clear HA
   simp only [exerguelaw11_RuleBlanks.j0] at H
   by_cases c9:ah=true
   ·subst c9
    rw [if_pos rfl] at H
    obtain rfl:=zE H
    go_wp2
    go_ret
    exact ⟨by first|rfl|(simp <;> rfl)|(simp [*] <;> rfl),bQ HB⟩
   replace c9:=Bool.eq_false_iff.mpr c9
   subst c9
   rw [if_neg (show ¬ (false=true) by decide)] at H
   replace H:=Option.bind_eq_some_iff.mp H
   obtain ⟨ab,an,H⟩:=H
   try dsimp only at H
   have A10:=zS an
   clear an
   have H':=zS H
   clear H
   go_wp2_with (first|((with_reducible refine gate_callee (f:=35) rfl ?_);refine gL (some 21) Tryz.func35 #[.slice A0 l0.length c0] ?_;(with_reducible refine (rule_Text.calls kj2 _ _ l0 ab _ ?side3 (cb HR0 HB) HC0.out A10.out).mono ?_);(case side3=>refine GL.below HG.out ?_;exact bQ HB);rintro e w11 ⟨rfl,hb⟩;refine ⟨_,rfl,?_⟩;replace HB:=bs HB hb;(try clear hb)))
   go_loopg [5,6] kj2 (fun kq v5 v6 w'=>∃ (ac:ByteArray) (aa:Int),v5 = .string ac∧v6 = .int .i64 aa∧Sd (exerguelaw11_RuleBlanks.l0 kq l0 af ab ac aa=some r)∧Sd (kq≤kj2)∧Sd (Below w.heap.size w w'))
   case atStart=>exact ⟨((⟨#[32,32]⟩:ByteArray)),(0),(by first|rfl|(simp;done)|(simp [*];done)),(by first|rfl|(simp;done)|(simp [*];done)),H',⟨Nat.le_refl _⟩,⟨bQ HB⟩⟩
   case round=>
    clear H'
    try clear c2
    try clear p2
    try clear c3
    try clear c6
    try clear c7
    try clear c9
    try clear p2
    obtain ⟨ac,aa,rfl,rfl,HA,HK2,HB⟩:=hrel
    cases gk with
    | zero=>exact absurd HA.out (by simp [exerguelaw11_RuleBlanks.l0])
    | succ k2=>
     have H:=HA.out
     clear HA
     simp only [exerguelaw11_RuleBlanks.l0] at H
     by_cases c12:aa<(ab.size:Int)
     ·rw [if_pos c12] at H
      have ao:=zC c12
      clear c12
      by_cases c13:0≤aa
      rotate_left
      ·rw [if_neg c13] at H
       exact absurd H (by simp)
      rw [if_pos c13] at H
      have aB:=eq_true c13
      have aC:=zC c13
      clear c13
      by_cases c14:aa≤(wrap64 (aa+1))
      rotate_left
      ·rw [if_neg c14] at H
       exact absurd H (by simp)
      rw [if_pos c14] at H
      have aD:=eq_true c14
      have aE:=zC c14
      by_cases c15:(wrap64 (aa+1))≤(ab.size:Int)
      rotate_left
      ·rw [if_neg c15] at H
       exact absurd H (by simp)
      rw [if_pos c15] at H
      have aF:=eq_true c15
      have aG:=zC c15
      by_cases c16:ac.size+(ab.extract (aa:Int).toNat ((wrap64 (aa+1)):Int).toNat).size≤9223372036854775807
      rotate_left
      ·rw [if_neg c16] at H
       exact absurd H (by simp)
      rw [if_pos c16] at H
      have aH:=eq_true c16
      have aI:=zC c16
      try have aJ:(9223372036854775807<ac.size+(ab.extract (aa:Int).toNat ((wrap64 (aa+1)):Int).toNat).size)=False:=eq_false (Nat.not_lt.2 c16)
      by_cases c18:(bt ab aa)=32
      ·rw [if_pos c18] at H
       have ap:((bt ab aa) == 32)=true:=zH c18
       have aq:((bt ab aa) != 32)=false:=zG c18
       clear c18
       by_cases c19:(ac ++ (ab.extract (aa:Int).toNat ((wrap64 (aa+1)):Int).toNat)).size+1≤9223372036854775807
       rotate_left
       ·rw [if_neg c19] at H
        exact absurd H (by simp)
       rw [if_pos c19] at H
       have aK:=eq_true c19
       have aL:=zC c19
       try have aM:(9223372036854775807<(ac ++ (ab.extract (aa:Int).toNat ((wrap64 (aa+1)):Int).toNat)).size+1)=False:=eq_false (Nat.not_lt.2 c19)
       try have aN:(9223372036854775807<ac.size+((ab.extract (aa:Int).toNat ((wrap64 (aa+1)):Int).toNat).size)+1)=False:=eq_false (by have h_:=c19;simp only [ByteArray.size_append] at h_;omega)
       have hmend:(9223372036854775807<ac.size+((wrap64 (aa+1)).toNat - aa.toNat)+1)=False:=eq_false (by have h_:=c19;simp only [ByteArray.size_append,ByteArray.size_extract] at h_;omega)
       have H':=zS H
       clear H
       have p17:0≤(aa:Int):=zB (by first|(with_reducible assumption)|assumption)
       have q17:aa<(ab.size:Int):=zB (by first|(with_reducible assumption)|assumption)
       have ay:=bt_at ab aa
       replace p17:=eq_true p17
       replace q17:=eq_true q17
       go_wp2
       go_roundg k2
       case measure=>have:=HJ2.out;have:=HK2.out;omega
       case rel=>exact ⟨((ac ++ (ab.extract (aa:Int).toNat ((wrap64 (aa+1)):Int).toNat)) ++ (⟨#[32]⟩:ByteArray)),(wrap64 (aa+1)),(by first|rfl|(simp;done)|(simp [*];done)),(by first|rfl|(simp;done)|(simp [*];done)),H',⟨by have:=HJ2.out;have:=HK2.out;omega⟩,⟨bQ HB⟩⟩
      rw [if_neg c18] at H
      have ap:((bt ab aa) == 32)=false:=zF c18
      have aq:((bt ab aa) != 32)=true:=zI c18
      have H':=zS H
      clear H
      have p17:0≤(aa:Int):=zB (by first|(with_reducible assumption)|assumption)
      have q17:aa<(ab.size:Int):=zB (by first|(with_reducible assumption)|assumption)
      have ay:=bt_at ab aa
      replace p17:=eq_true p17
      replace q17:=eq_true q17
      go_wp2
      go_roundg k2
      case measure=>have:=HJ2.out;have:=HK2.out;omega
      case rel=>exact ⟨(ac ++ (ab.extract (aa:Int).toNat ((wrap64 (aa+1)):Int).toNat)),(wrap64 (aa+1)),(by first|rfl|(simp;done)|(simp [*];done)),(by first|rfl|(simp;done)|(simp [*];done)),H',⟨by have:=HJ2.out;have:=HK2.out;omega⟩,⟨bQ HB⟩⟩
     rw [if_neg c12] at H
     have ao:=zD c12
     clear c12
     by_cases c20:ac.size+1≤9223372036854775807
     rotate_left
     ·rw [if_neg c20] at H
      exact absurd H (by simp)
     rw [if_pos c20] at H
     have aO:=eq_true c20
     have aP:=zC c20
     have wmend:wrap64 ((ac.size:Int)+1)=(ac.size:Int)+1:=by have h_:=c20;unfold wrap64;omega
     try have aQ:(9223372036854775807<ac.size+1)=False:=eq_false (Nat.not_lt.2 c20)
     replace H:=Option.bind_eq_some_iff.mp H
     obtain ⟨⟨ak,am,ae⟩,ar,H⟩:=H
     try dsimp only at H
     have A21:=zS ar
     clear ar
     by_cases c22:af=true
     rotate_left
     ·replace c22:=Bool.eq_false_iff.mpr c22
      subst c22
      rw [if_neg (show ¬ (false=true) by decide)] at H
      exact absurd H (by simp)
     subst c22
     rw [if_pos rfl] at H
     by_cases c23:ae=0
     rotate_left
     ·rw [if_neg c23] at H
      have au:(ae == 0)=false:=zF c23
      have av:(ae != 0)=true:=zI c23
      by_cases c33:ae=11
      ·rw [if_pos c33] at H
       have aR:(ae == 11)=true:=zH c33
       have aS:(ae != 11)=false:=zG c33
       clear c33
       obtain rfl:=zE H
       go_wp2_with (first|((with_reducible refine gate_callee (f:=39) rfl ?_);refine gL (some 44) Tryz.func39 #[.string (ac ++ (⟨#[32]⟩:ByteArray))] ?_;(with_reducible refine (rule_Parse.calls (ac ++ (⟨#[32]⟩:ByteArray)) ak am ae _ ?side1 A21.out).mono ?_);(case side1=>refine GL.below HG.out ?_;exact bQ HB);rintro e w34 ⟨aw,rfl,ho0,hb⟩;refine ⟨_,rfl,?_⟩;have ad:=zS (Kd.R_lower ho0 (bz HB));replace HB:=bs HB hb;(try clear hb);(try clear ho0)))
       go_ret
       exact ⟨by first|rfl|(rw [wmend];rfl)|(simp [errW_none,errW_some] <;> rfl)|(simp [*,errW_none,errW_some] <;> rfl),bQ HB⟩
      rw [if_neg c33] at H
      exact absurd H (by simp)
     rw [if_pos c23] at H
     have au:(ae == 0)=true:=zH c23
     have av:(ae != 0)=false:=zG c23
     clear c23
     replace H:=Option.bind_eq_some_iff.mp H
     obtain ⟨al,ax,H⟩:=H
     try dsimp only at H
     have A24:=zS ax
     clear ax
     by_cases c25:al=true
     ·subst c25
      rw [if_pos rfl] at H
      obtain rfl:=zE H
      go_wp2_with (first|((with_reducible refine gate_callee (f:=39) rfl ?_);refine gL (some 44) Tryz.func39 #[.string (ac ++ (⟨#[32]⟩:ByteArray))] ?_;(with_reducible refine (rule_Parse.calls (ac ++ (⟨#[32]⟩:ByteArray)) ak am ae _ ?side1 A21.out).mono ?_);(case side1=>refine GL.below HG.out ?_;exact bQ HB);rintro e w26 ⟨aw,rfl,ho0,hb⟩;refine ⟨_,rfl,?_⟩;have ad:=zS (Kd.R_lower ho0 (bz HB));replace HB:=bs HB hb;(try clear hb);(try clear ho0);obtain ⟨aV,aW,az⟩:=Kd.R_slice ad.out;subst az)|(go_at_call 34;(with_reducible refine (exergueref11_Same.calls k2 _ _ l0 _ _ ak true _ (cb HR0 HB) HC0.out (rc ad) (rl ad) A24.out).mono ?_);rintro e w28 ⟨rfl,hb⟩;replace ad:=rb ad hb;replace HB:=bs HB hb;(try clear hb);(try clear hb2);(try clear hk);(try clear hi)))
      go_ret
      exact ⟨by first|rfl|(rw [wmend];rfl)|(simp [errW_none,errW_some] <;> rfl)|(simp [*,errW_none,errW_some] <;> rfl),bQ HB⟩
     replace c25:=Bool.eq_false_iff.mpr c25
     subst c25
     rw [if_neg (show ¬ (false=true) by decide)] at H
     by_cases c29:ae=11
     ·rw [if_pos c29] at H
      have aT:(ae == 11)=true:=zH c29
      have aU:(ae != 11)=false:=zG c29
      clear c29
      obtain rfl:=zE H
      go_wp2_with (first|((with_reducible refine gate_callee (f:=39) rfl ?_);refine gL (some 44) Tryz.func39 #[.string (ac ++ (⟨#[32]⟩:ByteArray))] ?_;(with_reducible refine (rule_Parse.calls (ac ++ (⟨#[32]⟩:ByteArray)) ak am ae _ ?side1 A21.out).mono ?_);(case side1=>refine GL.below HG.out ?_;exact bQ HB);rintro e w30 ⟨aw,rfl,ho0,hb⟩;refine ⟨_,rfl,?_⟩;have ad:=zS (Kd.R_lower ho0 (bz HB));replace HB:=bs HB hb;(try clear hb);(try clear ho0);obtain ⟨aX,aY,aA⟩:=Kd.R_slice ad.out;subst aA)|(go_at_call 34;(with_reducible refine (exergueref11_Same.calls k2 _ _ l0 _ _ ak false _ (cb HR0 HB) HC0.out (rc ad) (rl ad) A24.out).mono ?_);rintro e w32 ⟨rfl,hb⟩;replace ad:=rb ad hb;replace HB:=bs HB hb;(try clear hb);(try clear hb2);(try clear hk);(try clear hi)))
      go_ret
      exact ⟨by first|rfl|(rw [wmend];rfl)|(simp [errW_none,errW_some] <;> rfl)|(simp [*,errW_none,errW_some] <;> rfl),bQ HB⟩
     rw [if_neg c29] at H
     exact absurd H (by simp)
end Go.Proofs.YtgfajgkjbckkgaaGreatDoor.PZ
end
end
section
set_option maxRecDepth 100000
namespace Go.Proofs.YtgfajgkjbckkgaaGreatDoor.PZ
open Go.RowKit Go.Proofs.YtgfajgkjbckkgaaGreatDoorW.PrintWords Go.Proofs.YtgfajgkjbckkgaaGreatDoorW.PrintLast
theorem blanks_off (c:List (List Rl)):Ev (fun k=>exerguelaw11_RuleBlanks.j0 k c true true) true:=by
 refine Ev_shift ?_
 simp only [exerguelaw11_RuleBlanks.j0,if_true]
 exact Ev.now _
theorem dbl_byts {l:List Int}(h:Byts l):Byts (dbl l):=by
 intro c hc
 unfold dbl at hc
 obtain ⟨x,hx,hc⟩:=List.mem_flatMap.1 hc
 have:=h x hx
 split at hc
 · simp at hc;omega
 simp at hc;omega
theorem dbl_len (l:List Int):(dbl l).length≤2 * l.length:=by
 unfold dbl
 induction l with
 | nil=>simp
 | cons c l ih=>
  rw [List.flatMap_cons,List.length_append]
  have:(if c=32 then ([32,32]:List Int) else [c]).length≤2:=by split <;> simp
  simp only [List.length_cons]
  omega
theorem blanks_l0 {c:List (List Rl)}(hc:rightP c=true)(n:Nat):∀ i:Nat,i+n=(condT [32] c).length→Ev (fun k=>exerguelaw11_RuleBlanks.l0 k c true (strOfNums (condT [32] c)) (strOfNums ([32,32] ++ dbl ((condT [32] c).take i))) (i:Int)) true:=by
 obtain ⟨r,_,_,_,t,_,l⟩:=right_runs hc
 have hl:(condT [32] c).length≤400:=by rw [t];exact l
 have hby:Byts (condT [32] c):=condT_byts (right_good hc).txt.n
 have hsz:(strOfNums (condT [32] c)).size=(condT [32] c).length:=strOfNums_size _
 have h32:Byts [32]:=by intro x hx;simp at hx;omega
 have h3232:Byts [32,32]:=by intro x hx;simp at hx;omega
 have e32:(⟨#[32]⟩:ByteArray)=strOfNums [32]:=by decide
 induction n with
 | zero=>
  intro i hi
  have q1:¬ ((i:Nat):Int)<((strOfNums (condT [32] c)).size:Int):=by omega
  have hd:=dbl_len (condT [32] c)
  have g1:(strOfNums ([32,32] ++ dbl (condT [32] c))).size+1≤9223372036854775807:=by rw [strOfNums_size];simp;omega
  refine Ev_shift ?_
  rw [List.take_of_length_le (by omega)]
  have hp:rule_Parse.f (strOfNums ([32,32] ++ dbl (condT [32] c)) ++ strOfNums [32])=some (parseP ([32,32] ++ (dbl (condT [32] c) ++ [32]))):=by
   rw [sN_app,List.append_assoc,parse_f (by rw [strOfNums_size];simp;omega),bytesOf_nums (h3232.app ((dbl_byts hby).app h32))]
  rw [parse_blanks hc] at hp
  have ws:wrap64 (((strOfNums ([32,32] ++ dbl (condT [32] c))).size:Int)+1)=((([32,32] ++ (dbl (condT [32] c) ++ [32])).length:Nat):Int):=by
   rw [strOfNums_size,w64 _ (by omega) (by simp;omega)]
   simp
  simp only [exerguelaw11_RuleBlanks.l0,if_neg q1,if_pos g1,e32,hp,Option.bind_some,if_true,ws]
  by_cases h4:400<([32,32] ++ (dbl (condT [32] c) ++ [32])).length
  ·have q2:¬ (11:Int)=0:=by decide
   have q3:((([32,32] ++ (dbl (condT [32] c) ++ [32])).length:Nat):Int)>400:=by omega
   simp only [if_pos h4,if_neg q2,if_true,zC q3]
   exact Ev.now _
  simp only [if_neg h4,if_true]
  refine Ev.bind (same_ev11 (b:=c) (right_good hc).len) ?_
  simp only [decide_true,if_true]
  exact Ev.now _
 | succ n ih=>
  intro i hi
  have hlt:i<(condT [32] c).length:=by omega
  have q1:((i:Nat):Int)<((strOfNums (condT [32] c)).size:Int):=by omega
  have q2:(0:Int)≤(i:Int):=by omega
  have wi:wrap64 ((i:Int)+1)=((i+1:Nat):Int):=by rw [w64 _ (by omega) (by omega)];omega
  have q3:(i:Int)≤((i+1:Nat):Int):=by omega
  have q4:((i+1:Nat):Int)≤((strOfNums (condT [32] c)).size:Int):=by omega
  have hb:bt (strOfNums (condT [32] c)) (i:Int)=(condT [32] c)[i]:=by
   have h1:=drop_bt (strOfNums (condT [32] c)) i (by omega)
   rw [bytesOf_nums hby,List.drop_eq_getElem_cons hlt] at h1
   exact (List.cons.inj h1).1.symm
  have e1:(strOfNums (condT [32] c)).extract ((i:Int)).toNat (((i+1:Nat):Int)).toNat=strOfNums [(condT [32] c)[i]]:=by
   refine strOfNums_bytes ?_ (fun x hx=>by rw [List.mem_singleton.1 hx];exact hby _ (List.getElem_mem hlt))
   rw [Int.toNat_natCast,Int.toNat_natCast,bytes_cut,bytesOf_nums hby,show i+1 - i=1 by omega,List.drop_eq_getElem_cons hlt]
   rfl
  have hd:=dbl_len ((condT [32] c).take i)
  have ht:((condT [32] c).take i).length≤400:=by rw [List.length_take];omega
  have g1:(strOfNums ([32,32] ++ dbl ((condT [32] c).take i))).size+(strOfNums [(condT [32] c)[i]]).size≤9223372036854775807:=by rw [strOfNums_size,strOfNums_size];simp;omega
  have g2:(strOfNums ([32,32] ++ dbl ((condT [32] c).take i) ++ [(condT [32] c)[i]])).size+1≤9223372036854775807:=by rw [strOfNums_size];simp;omega
  have hn:=ih (i+1) (by omega)
  rw [List.take_succ_eq_append_getElem hlt,dbl_append] at hn
  refine Ev_shift ?_
  simp only [exerguelaw11_RuleBlanks.l0,if_pos q1,if_pos q2,wi,if_pos q3,if_pos q4,e1,if_pos g1,hb]
  by_cases h:(condT [32] c)[i]=32
  ·rw [show dbl [(condT [32] c)[i]]=[(condT [32] c)[i]] ++ [32] from by simp [dbl,h],← List.append_assoc,← List.append_assoc] at hn
   simp only [if_pos h,e32,sN_app,if_pos g2]
   exact hn
  simp only [if_neg h,sN_app]
  rw [show dbl [(condT [32] c)[i]]=[(condT [32] c)[i]] from by simp [dbl,h]] at hn
  rw [List.append_assoc]
  exact hn
theorem Pure.RuleBlanks:∀ (x0:List (List S60)),OkC x0→∃ k,exerguelaw11_RuleBlanks.f k x0=some true:=by
 intro c hc
 refine Ev.rounds ?_
 unfold exerguelaw11_RuleBlanks.f
 refine Ev.bind shown_ev ?_
 have off:=blanks_off c
 obtain ⟨s1,S1,P1⟩:=short_ev hc.len
 refine Ev.bind S1 ?_
 cases s1 with
 | false=>simp only [Bool.false_eq_true,if_false];exact off
 | true=>
  simp only [if_true]
  refine Ev.bind (refRight11 ((P1 rfl).txt hc) hc.len) ?_
  cases hr:rightP c with
  | false=>simp only [Bool.not_false];exact off
  | true=>
   simp only [Bool.not_true]
   refine Ev_shift ?_
   simp only [exerguelaw11_RuleBlanks.j0,Bool.false_eq_true,if_false]
   refine Ev.bind (text_ev (right_good hr).txt) ?_
   have e:(⟨#[32,32]⟩:ByteArray)=strOfNums [32,32]:=by decide
   rw [e]
   have:=blanks_l0 hr (condT [32] c).length 0 (by omega)
   simpa [dbl] using this
end Go.Proofs.YtgfajgkjbckkgaaGreatDoor.PZ
end
