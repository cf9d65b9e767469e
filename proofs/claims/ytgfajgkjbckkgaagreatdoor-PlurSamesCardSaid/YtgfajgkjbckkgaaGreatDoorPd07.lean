/- Texts of this seat, joined. Conditions: none beyond each statement's own. -/
import Derived.Test.YtgfajgkjbckkgaaGreatDoorPd05
import Derived.Lib.BufferOwn
import Derived.Shelf.Abstract
set_option linter.all false
section
noncomputable section
namespace Go.Proofs.YtgfajgkjbckkgaaGreatDoor.PZ
open Go.RowKit Go.Proofs.YtgfajgkjbckkgaaGreatDoorW.PrintWords Go.Proofs.YtgfajgkjbckkgaaGreatDoorW.PrintLast Go.Proofs.YtgfajgkjbckkgaaGreatDoorW.PrintMore
attribute [local go_sem] max2_int min2_int max_two min_two max_three min_three max_four min_four   -- for this text's walks alone
mutual
def rule_written.j0:Nat→ByteArray→Int→Int→Bool→List (S57)→Option (ByteArray)
 | 0,_,_,_,_,_=>none
 | k+1,x3,aw,ax,ar,an=>if ar=true then (if x3.size+2≤9223372036854775807 then (rule_written.j1 k (x3 ++ (⟨#[32,33]⟩:ByteArray)) aw ax ar an) else (none)) else (if x3.size+1≤9223372036854775807 then (rule_written.j1 k (x3 ++ (⟨#[32]⟩:ByteArray)) aw ax ar an) else (none))
def rule_written.j1:Nat→ByteArray→Int→Int→Bool→List (S57)→Option (ByteArray)
 | 0,_,_,_,_,_=>none
 | k+1,x3,aw,ax,ar,an=>rule_written.l0 k x3 ([]:List ByteArray) an (an.length:Int) 0
def rule_written.l0:Nat→ByteArray→List ByteArray→List (S57)→Int→Int→Option (ByteArray)
 | 0,_,_,_,_,_=>none
 | k+1,x3,x4,x28,x29,x30=>if x30<x29 then (if 0≤x30 then (if x30<(x28.length:Int) then ((strconv_Itoa.f ((rd_T57 x28 x30).f0)).bind fun am=>(if ((rd_T57 x28 x30).f1)=((rd_T57 x28 x30).f0) then (if x4.length<8796093022208 then (rule_written.l0 k x3 (x4 ++ [am]) x28 x29 (wrap64 (x30+1))) else (none)) else ((strconv_Itoa.f ((rd_T57 x28 x30).f1)).bind fun ao=>(if 2+ao.size≤9223372036854775807 then (if am.size+((⟨#[46,46]⟩:ByteArray) ++ ao).size≤9223372036854775807 then (if x4.length<8796093022208 then (rule_written.l0 k x3 (x4 ++ [am ++ ((⟨#[46,46]⟩:ByteArray) ++ ao)]) x28 x29 (wrap64 (x30+1))) else (none)) else (none)) else (none))))) else (none)) else (none)) else (if x3.size+2≤9223372036854775807 then ((strings_Join.f x4 (⟨#[44]⟩:ByteArray)).bind fun aE=>(if (x3 ++ (⟨#[61,32]⟩:ByteArray)).size+aE.size≤9223372036854775807 then (some ((x3 ++ (⟨#[61,32]⟩:ByteArray)) ++ aE)) else (none))) else (none))
end
def rule_written.f (k:Nat)(af:Int)(ae:Int)(ak:Bool)(ac:List (S57)):Option (ByteArray):=(some (([af]:List Int):List Int)).bind fun al=>(if ae=0 then (rule_written.j0 k (strOfNums al) af ae ak ac) else ((strconv_Itoa.f ae).bind fun ag=>(if 3+ag.size≤9223372036854775807 then (if (strOfNums al).size+((⟨#[32,37,32]⟩:ByteArray) ++ ag).size≤9223372036854775807 then (rule_written.j0 k ((strOfNums al) ++ ((⟨#[32,37,32]⟩:ByteArray) ++ ag)) af ae ak ac) else (none)) else (none))))
theorem rule_written.mono_l:∀ k,(∀ y0 y1 y2 y3 y4,LeO (rule_written.j0 k y0 y1 y2 y3 y4) (rule_written.j0 (k+1) y0 y1 y2 y3 y4))∧(∀ y0 y1 y2 y3 y4,LeO (rule_written.j1 k y0 y1 y2 y3 y4) (rule_written.j1 (k+1) y0 y1 y2 y3 y4))∧(∀ y0 y1 y2 y3 y4,LeO (rule_written.l0 k y0 y1 y2 y3 y4) (rule_written.l0 (k+1) y0 y1 y2 y3 y4))
 | 0=>⟨fun _ _ _ _ _ r h=>by simp [rule_written.j0] at h,fun _ _ _ _ _ r h=>by simp [rule_written.j1] at h,fun _ _ _ _ _ r h=>by simp [rule_written.l0] at h⟩
 | k+1=>by
  obtain ⟨ih0,ih1,ih2⟩:=rule_written.mono_l k
  refine ⟨?_,?_,?_⟩
  ·intro y0 y1 y2 y3 y4
   unfold rule_written.j0
   repeat' first|(with_reducible first|apply ih0|apply ih1|apply ih2|apply LeO.refl|apply LeO.none|refine LeO.ite ?_ ?_|refine LeO.bind ?_ (fun _=>?_))|apply ih0|apply ih1|apply ih2|apply LeO.none
  ·intro y0 y1 y2 y3 y4
   unfold rule_written.j1
   repeat' first|(with_reducible first|apply ih0|apply ih1|apply ih2|apply LeO.refl|apply LeO.none|refine LeO.ite ?_ ?_|refine LeO.bind ?_ (fun _=>?_))|apply ih0|apply ih1|apply ih2|apply LeO.none
  ·intro y0 y1 y2 y3 y4
   unfold rule_written.l0
   repeat' first|(with_reducible first|apply ih0|apply ih1|apply ih2|apply LeO.refl|apply LeO.none|refine LeO.ite ?_ ?_|refine LeO.bind ?_ (fun _=>?_))|apply ih0|apply ih1|apply ih2|apply LeO.none
theorem rule_written.mono:∀ a0 a1 a2 a3 k,LeO (rule_written.f k a0 a1 a2 a3) (rule_written.f (k+1) a0 a1 a2 a3):=by
 intro a0 a1 a2 a3 k
 obtain ⟨ih0,ih1,ih2⟩:=rule_written.mono_l k
 unfold rule_written.f
 repeat' first|(with_reducible first|apply ih0|apply ih1|apply ih2|apply LeO.refl|apply LeO.none|refine LeO.ite ?_ ?_|refine LeO.bind ?_ (fun _=>?_))|apply ih0|apply ih1|apply ih2|apply LeO.none
set_option maxHeartbeats 8000000 in
set_option maxRecDepth 100000 in
theorem rule_written.calls (k:Nat)(af:Int)(ae:Int)(ak:Bool)(aI:Option Addr)(aJ:Nat)(ac:List (S57))(r:ByteArray)(w:World)(hG:GL w)(aZ:Kd.C k57 w aI ac.length ac)(a4:ac.length≤aJ)(h:rule_written.f k af ae ak ac=some r) :
  Calls Tryz.prog 56 #[.agg #[.int .u8 af,.int .i64 ae,.bool ak,.slice aI ac.length aJ]] w fun e w'=>e = .returned (.string r)∧Below w.heap.size w w':=by
 have hu60:=Tryz.underlying60
 have hu57:=Tryz.underlying57
 have a5:=zS aZ
 have bL:=zS a4
 clear aZ a4
 have HB:=zS (Below.refl w.heap.size w)
 have HG:=zS hG
 clear hG
 have H:((some (([af]:List Int):List Int)).bind fun al=>(if ae=0 then (rule_written.j0 k (strOfNums al) af ae ak ac) else ((strconv_Itoa.f ae).bind fun ag=>(if 3+ag.size≤9223372036854775807 then (if (strOfNums al).size+((⟨#[32,37,32]⟩:ByteArray) ++ ag).size≤9223372036854775807 then (rule_written.j0 k ((strOfNums al) ++ ((⟨#[32,37,32]⟩:ByteArray) ++ ag)) af ae ak ac) else (none)) else (none)))))=some r:=h
 clear h
 obtain ⟨al,az⟩:∃ y_:List Int,y_=(([af]:List Int)):=⟨_,rfl⟩
 replace H:(if ae=0 then (rule_written.j0 k (strOfNums al) af ae ak ac) else ((strconv_Itoa.f ae).bind fun ag=>(if 3+ag.size≤9223372036854775807 then (if (strOfNums al).size+((⟨#[32,37,32]⟩:ByteArray) ++ ag).size≤9223372036854775807 then (rule_written.j0 k ((strOfNums al) ++ ((⟨#[32,37,32]⟩:ByteArray) ++ ag)) af ae ak ac) else (none)) else (none))))=some r:=by first|(rw [az];with_reducible exact H)|(have H2_:=(Option.bind_some _ _).symm.trans H;rw [az];with_reducible exact H2_)|(have H2_:=(Option.bind_some _ _).symm.trans H;with_reducible exact H2_)|with_reducible exact H|(rw [az];exact H)|exact H
 have a6:=zS az
 clear az
 have HC2:=zS H
 clear H
 go_enter Tryz.func56,Tryz.ntmps56
 go_upto_if 14 with (first|((with_reducible refine gate_dst (N:=1) rfl ?_);refine box_event ?hg (N:=1) ?hd (cs:=#[.int .u8 af,.int .i64 ae,.bool ak,.slice aI ac.length aJ]) (t:=60) ?hr ?_;(case hd=>rfl);(case hg=>rfl);(case hr=>first|(go_simp;done)|(go_simp;rfl));intro aM hg w3 hbox hb;have aa:=zS (hbox);have bM:=bg HB hg;replace HB:=bs HB hb;clear hb hbox hg;have bf:=blkc4 aa.out;have bh:=blkf4 aa.out)|((with_reducible refine gate_dst (N:=10) rfl ?_);refine Kd.R_lit (Kd.int .u8) _ 5 ?hg (N:=10) ?hd (xs:=([af]:List Int)) (inner:=[.int .u8 af]) (ok:=fun _=>True) (okp:=fun _=>True) ?hr ?hp (fun _ hk=>hk) trivial (Below.refl _ _) (Nat.le_refl _) (by simp) ?_;(case hd=>rfl);(case hg=>rfl);(case hr=>first|(go_simp;done)|(go_simp;rfl));(case hp=>exact (Reps.one (show Kd.M (Kd.int .u8) _ _ _ af [.int .u8 af] from rfl) (Reps.none _ _)));intro ci w5 ho6 hb hg_ hnew_;clear hg_ hnew_;(first|rw [← a6.out] at ho6|(simp only [Int.reduceToNat] at ho6;rw [← a6.out] at ho6));have aN:=zS (Kd.R_lower ho6 (bz HB));replace aa:=kb aa hb;replace HB:=bs HB hb;clear hb ho6;have hcv7:=own_string (P:=Tryz.prog) Tryz.underlying34 Tryz.underlying5 Tryz.underlying9 (Kd.own_of_R aN.out);have bi:=blkc4 aa.out;have bj:=blkf4 aa.out))
 (try simp only [Act.put,sA,sB,sC])
 go_cut [3] (fun v3 wc=>∃ (kq:Nat) (ay:ByteArray),v3 = .string ay∧Sd (rule_written.j0 kq ay af ae ak ac=some r)∧Sd (kq≤k)∧Sd (wc.heap[aM]?=some (.cells #[.int .u8 af,.int .i64 ae,.bool ak,(.slice aI ac.length aJ)] 60 (0,0)))∧Sd (Below w.heap.size w wc))
 case first=>
  have H:=HC2.out
  clear HC2
  by_cases c9:ae=0
  ·rw [if_pos c9] at H
   have aA:(ae == 0)=true:=zH c9
   have aK:(ae != 0)=false:=zG c9
   clear c9
   (first|rw [aA]|(simp only [i64_w,i32_w];rw [aA])|rw [aK]|skip)
   have H':=zS H
   clear H
   go_wp2
   go_meet
   case rel=>exact ⟨_,(strOfNums al),(by first|rfl|(simp;done)|(simp [*];done)),H',⟨by first|omega|exact Nat.le_refl _⟩,⟨ko aa⟩,⟨bQ HB⟩⟩
  rw [if_neg c9] at H
  have aA:(ae == 0)=false:=zF c9
  have aK:(ae != 0)=true:=zI c9
  (first|rw [aA]|(simp only [i64_w,i32_w];rw [aA])|rw [aK]|skip)
  replace H:=Option.bind_eq_some_iff.mp H
  obtain ⟨ag,bn,H⟩:=H
  try dsimp only at H
  have A10:=zS bn
  clear bn
  by_cases c11:3+ag.size≤9223372036854775807
  rotate_left
  ·rw [if_neg c11] at H
   exact absurd H (by simp)
  rw [if_pos c11] at H
  have aQ:=eq_true c11
  have aR:=zC c11
  try have aT:(9223372036854775807<3+ag.size)=False:=eq_false (Nat.not_lt.2 c11)
  by_cases c12:(strOfNums al).size+((⟨#[32,37,32]⟩:ByteArray) ++ ag).size≤9223372036854775807
  ·rw [if_pos c12] at H
   have aU:=eq_true c12
   have aV:=zC c12
   try have aW:(9223372036854775807<(strOfNums al).size+((⟨#[32,37,32]⟩:ByteArray) ++ ag).size)=False:=eq_false (Nat.not_lt.2 c12)
   try have bN:(9223372036854775807<(strOfNums al).size+(3+ag.size))=False:=eq_false (by have h_:=c12;simp only [ByteArray.size_append,show (⟨#[32,37,32]⟩:ByteArray).size=3 from rfl] at h_;omega)
   have H':=zS H
   clear H
   have aX:=blkc4 aa.out
   have aY:=blkf4 aa.out
   go_wp2_with (first|((with_reducible refine gate_callee (f:=75) rfl ?_);refine gL (some 18) Tryz.func75 #[.int .i64 ae] ?_;(with_reducible refine (strconv_Itoa.calls ae ag _ ?side1 A10.out).mono ?_);(case side1=>refine GL.below HG.out ?_;exact bQ HB);rintro e w14 ⟨rfl,hb⟩;refine ⟨_,rfl,?_⟩;replace aN:=rb aN hb;replace aa:=kb aa hb;replace HB:=bs HB hb;(try clear hb)))
   go_meet
   case rel=>exact ⟨_,((strOfNums al) ++ ((⟨#[32,37,32]⟩:ByteArray) ++ ag)),(by first|rfl|(simp;done)|(simp [*];done)),H',⟨by first|omega|exact Nat.le_refl _⟩,⟨ko aa⟩,⟨bQ HB⟩⟩
  rw [if_neg c12] at H
  exact absurd H (by simp)
 case rest=>
  clear HC2
  try clear c1
  try clear p2
  try clear c5
  try clear c7
  try clear hcv7
  try clear c9
  try clear aA
  try clear aK
  try clear c11
  try clear aQ
  try clear aR
  try clear aT
  try clear c12
  try clear aU
  try clear aV
  try clear aW
  try clear aX
  try clear bf
  try clear bi
  try clear aY
  try clear bh
  try clear bj
  obtain ⟨kq,ay,rfl,HA,HJ1,aa,HB⟩:=hcut
  cases kq with
  | zero=>exact absurd HA.out (by simp [rule_written.j0])
  | succ kj1=>
   have H:=HA.out
   clear HA
   simp only [rule_written.j0] at H
   have bk:=zS H
   clear H
   have a7:=blkc4 aa.out
   have a8:=blkf4 aa.out
   go_upto_if 22 with (fail)
   go_cut [3] (fun v3 wc=>∃ (kq:Nat) (aj:ByteArray),v3 = .string aj∧Sd (rule_written.j1 kq aj af ae ak ac=some r)∧Sd (kq≤kj1)∧Sd (wc.heap[aM]?=some (.cells #[.int .u8 af,.int .i64 ae,.bool ak,(.slice aI ac.length aJ)] 60 (0,0)))∧Sd (Below w.heap.size w wc))
   case first=>
    have H:=bk.out
    clear bk
    by_cases c17:ak=true
    ·subst c17
     rw [if_pos rfl] at H
     by_cases c18:ay.size+2≤9223372036854775807
     ·rw [if_pos c18] at H
      have a9:=eq_true c18
      have ba:=zC c18
      try have bb:(9223372036854775807<ay.size+2)=False:=eq_false (Nat.not_lt.2 c18)
      have H':=zS H
      clear H
      go_wp2
      go_meet
      case rel=>exact ⟨_,(ay ++ (⟨#[32,33]⟩:ByteArray)),(by first|rfl|(simp;done)|(simp [*];done)),H',⟨by have:=HJ1.out;first|omega|exact Nat.le_refl _⟩,⟨ko aa⟩,⟨bQ HB⟩⟩
     rw [if_neg c18] at H
     exact absurd H (by simp)
    replace c17:=Bool.eq_false_iff.mpr c17
    subst c17
    rw [if_neg (show ¬ (false=true) by decide)] at H
    by_cases c19:ay.size+1≤9223372036854775807
    ·rw [if_pos c19] at H
     have bc:=eq_true c19
     have bd:=zC c19
     try have be:(9223372036854775807<ay.size+1)=False:=eq_false (Nat.not_lt.2 c19)
     have H':=zS H
     clear H
     go_wp2
     go_meet
     case rel=>exact ⟨_,(ay ++ (⟨#[32]⟩:ByteArray)),(by first|rfl|(simp;done)|(simp [*];done)),H',⟨by have:=HJ1.out;first|omega|exact Nat.le_refl _⟩,⟨ko aa⟩,⟨bQ HB⟩⟩
    rw [if_neg c19] at H
    exact absurd H (by simp)
   case rest=>
    clear bk
    try clear c1
    try clear p2
    try clear c5
    try clear c7
    try clear hcv7
    try clear c9
    try clear aA
    try clear aK
    try clear c11
    try clear aQ
    try clear aR
    try clear aT
    try clear c12
    try clear aU
    try clear aV
    try clear aW
    try clear c17
    try clear c18
    try clear a9
    try clear ba
    try clear bb
    try clear c19
    try clear bc
    try clear bd
    try clear be
    try clear aX
    try clear a7
    try clear bf
    try clear bi
    try clear aY
    try clear a8
    try clear bh
    try clear bj
    try clear p2
    obtain ⟨kq,aj,rfl,HA,HJ14,aa,HB⟩:=hcut
    cases kq with
    | zero=>exact absurd HA.out (by simp [rule_written.j1])
    | succ kj14=>
     have H:=HA.out
     clear HA
     simp only [rule_written.j1] at H
     have H':=zS H
     clear H
     have bo:=blkc4 aa.out
     have bp:=blkf4 aa.out
     go_wp2
     go_loopg [4,30] kj14 (fun kq v4 v30 w'=>∃ (au:List ByteArray) (ab:Int),v30 = .int .i64 ab∧Sd (rule_written.l0 kq aj au ac (ac.length:Int) ab=some r)∧Sd (kq≤kj14)∧Sd (Kd.R Kd.string 9 w' w.heap.size (fun _=>True) v4 au)∧Sd (w'.heap[aM]?=some (.cells #[.int .u8 af,.int .i64 ae,.bool ak,(.slice aI ac.length aJ)] 60 (0,0)))∧Sd (Below w.heap.size w w'))
     case atStart=>exact ⟨(([]:List ByteArray)),(0),(by first|rfl|(simp;done)|(simp [*];done)),H',⟨Nat.le_refl _⟩,⟨by first|exact Kd.R_nil _ _ _ _ _|exact Kd.N_nil _ _ _ _ _|exact Kd.V_nil _ _ _ _ _|exact Kd.Q_nil _ _ _ _ _|exact Kd.S_nil _ _ _ _ _⟩,⟨ko aa⟩,⟨bQ HB⟩⟩
     case round=>
      clear H'
      try clear c1
      try clear p2
      try clear c5
      try clear c7
      try clear hcv7
      try clear c9
      try clear aA
      try clear aK
      try clear c11
      try clear aQ
      try clear aR
      try clear aT
      try clear c12
      try clear aU
      try clear aV
      try clear aW
      try clear c17
      try clear c18
      try clear a9
      try clear ba
      try clear bb
      try clear c19
      try clear bc
      try clear bd
      try clear be
      try clear aX
      try clear a7
      try clear bo
      try clear bf
      try clear bi
      try clear aY
      try clear a8
      try clear bp
      try clear bh
      try clear bj
      try clear p2
      obtain ⟨au,ab,rfl,HA,HK3,HO_4,aa,HB⟩:=hrel
      cases gk with
      | zero=>exact absurd HA.out (by simp [rule_written.l0])
      | succ k3=>
       have H:=HA.out
       clear HA
       simp only [rule_written.l0] at H
       by_cases c21:ab<(ac.length:Int)
       rotate_left
       ·rw [if_neg c21] at H
        have bq:=zD c21
        clear c21
        by_cases c44:aj.size+2≤9223372036854775807
        rotate_left
        ·rw [if_neg c44] at H
         exact absurd H (by simp)
        rw [if_pos c44] at H
        have bO:=eq_true c44
        have bP:=zC c44
        try have bR:(9223372036854775807<aj.size+2)=False:=eq_false (Nat.not_lt.2 c44)
        replace H:=Option.bind_eq_some_iff.mp H
        obtain ⟨aE,br,H⟩:=H
        try dsimp only at H
        have A45:=zS br
        clear br
        by_cases c46:(aj ++ (⟨#[61,32]⟩:ByteArray)).size+aE.size≤9223372036854775807
        ·rw [if_pos c46] at H
         have bS:=eq_true c46
         have bT:=zC c46
         try have bU:(9223372036854775807<(aj ++ (⟨#[61,32]⟩:ByteArray)).size+aE.size)=False:=eq_false (Nat.not_lt.2 c46)
         try have bV:(9223372036854775807<aj.size+2+aE.size)=False:=eq_false (by have h_:=c46;simp only [ByteArray.size_append,show (⟨#[61,32]⟩:ByteArray).size=2 from rfl] at h_;omega)
         obtain rfl:=zE H
         obtain ⟨bI,bJ,bK⟩:=Kd.R_slice HO_4.out
         subst bK
         go_wp2_with (first|((with_reducible refine gate_callee (f:=57) rfl ?_);refine gL (some 56) Tryz.func57 #[.slice bI au.length bJ,.string (⟨#[44]⟩:ByteArray)] ?_;(with_reducible refine (strings_Join.calls _ _ au (⟨#[44]⟩:ByteArray) aE _ (rc HO_4) (rl HO_4) A45.out).mono ?_);rintro e w48 ⟨rfl,hb⟩;refine ⟨_,rfl,?_⟩;replace HO_4:=rb HO_4 hb;replace aa:=kb aa hb;replace HB:=bs HB hb;(try clear hb)))
         go_ret
         exact ⟨by first|rfl|(simp <;> rfl)|(simp [*] <;> rfl),bQ HB⟩
        rw [if_neg c46] at H
        exact absurd H (by simp)
       rw [if_pos c21] at H
       have bq:=zC c21
       clear c21
       by_cases c22:0≤ab
       rotate_left
       ·rw [if_neg c22] at H
        exact absurd H (by simp)
       rw [if_pos c22] at H
       have bW:=zC c22
       clear c22
       by_cases c23:ab<(ac.length:Int)
       rotate_left
       ·rw [if_neg c23] at H
        exact absurd H (by simp)
       rw [if_pos c23] at H
       have bX:=zC c23
       clear c23
       replace H:=Option.bind_eq_some_iff.mp H
       obtain ⟨am,bu,H⟩:=H
       try dsimp only at H
       have A24:=zS bu
       clear bu
       by_cases c25:((rd_T57 ac ab).f1)=((rd_T57 ac ab).f0)
       ·rw [if_pos c25] at H
        have bv:(((rd_T57 ac ab).f1) == ((rd_T57 ac ab).f0))=true:=zH c25
        have bw:(((rd_T57 ac ab).f1) != ((rd_T57 ac ab).f0))=false:=zG c25
        clear c25
        by_cases c26:au.length<8796093022208
        rotate_left
        ·rw [if_neg c26] at H
         exact absurd H (by simp)
        rw [if_pos c26] at H
        have LMc26:=zS c26
        clear c26
        obtain ⟨bx,aC⟩:∃ y_:List ByteArray,y_=(au ++ [am]):=⟨_,rfl⟩
        replace H:(rule_written.l0 k3 aj bx ac (ac.length:Int) (wrap64 (ab+1)))=some r:=by first|(rw [aC];with_reducible exact H)|(have H2_:=(Option.bind_some _ _).symm.trans H;rw [aC];with_reducible exact H2_)|(have H2_:=(Option.bind_some _ _).symm.trans H;with_reducible exact H2_)|with_reducible exact H|(rw [aC];exact H)|exact H
        have bA:=zS aC
        clear aC
        have H':=zS H
        clear H
        have aG:0≤(ab:Int):=zB (by first|(with_reducible assumption)|assumption)
        have aH:ab<(ac.length:Int):=zB (by first|(with_reducible assumption)|assumption)
        obtain ⟨bB,bm,ah,ai⟩:=at_T57 a5.out ab aG aH
        cases bm
        replace ah:=(HB.out.cell (World.block_lt_of_cell? w _ ah)).trans ah
        replace ai:=(HB.out.cell (World.block_lt_of_cell? w _ ai)).trans ai
        replace aG:=eq_true aG
        replace aH:=eq_true aH
        go_wp2_with (first|((with_reducible refine gate_dst (N:=6) rfl ?_);refine box_event ?hg (N:=6) ?hd (cs:=#[.int .i64 0,.int .i64 0]) (t:=57) ?hr ?_;(case hd=>rfl);(case hg=>rfl);(case hr=>first|(go_simp;done)|(go_simp;rfl));intro av hg w27 hbox hb;replace HO_4:=rb HO_4 hb;have ad:=zS (hbox);have bC:=bg HB hg;replace HB:=bs HB hb;have ap:=kn aa hg;have aq:=km aa hg;replace aa:=kb aa hb;clear hb hbox hg;have bY:=aq.out;have bZ:=ap.out;have b0:=blkc2 ad.out;have b1:=blkf2 ad.out)|((with_reducible refine gate_callee (f:=75) rfl ?_);refine gL (some 36) Tryz.func75 #[.int .i64 ((rd_T57 ac ab).f0)] ?_;(with_reducible refine (strconv_Itoa.calls ((rd_T57 ac ab).f0) am _ ?side1 A24.out).mono ?_);(case side1=>refine GL.below HG.out ?_;exact bQ HB);rintro e w30 ⟨rfl,hb⟩;refine ⟨_,rfl,?_⟩;replace HO_4:=zS (Kd.R_below (by (with_reducible repeat (first|apply Kd.R_alloc|apply Kd.R_drewN|apply Kd.R_drew));exact (Kd.R_mono (Kd.R_far (p:=⟨av,1,none⟩) (Kd.R_far (p:=⟨av,0,none⟩) (Kd.R_types HO_4.out ad.out (by decide)) (fun _ hk=>hk.2) (.int .i64 ((rd_T57 ac ab).f0))) (fun _ hk=>hk.2) (.int .i64 ((rd_T57 ac ab).f1))) (fun _ h_=>h_.1))) hb);replace aa:=kb aa hb;replace ad:=zS (blk_below (g:=av) (o:=.cells #[.int .i64 ((rd_T57 ac ab).f0),.int .i64 ((rd_T57 ac ab).f1)] 57 (0,0)) (kp ad rfl) hb);replace HB:=bs HB hb;(try clear hb);(try clear hk);have b2:=blkc2 ad.out;have b3:=blkf2 ad.out)|((with_reducible refine gate_builtin (b:=.append) (xs:=#[.tmp 48,.tmp 50]) rfl ?_);at_builtin;refine Kd.R_append Kd.string (w0:=w) w.heap.size rfl (.tmp 48) (.tmp 50) 76 9 (.string ⟨#[]⟩) 16 rfl Tryz.underlying76 info9 rfl (by decide) (by omega) u4 au am [.string am] (fun _=>True) (fun _=>False) rfl rfl ?aP (fun _ hk=>hk.elim) ?aF ?aO ?aB ?aS ?aL ?_;(case aP=>exact rfl);(case aB=>exact (bQ HB));(case aF=>exact (fun _ _=>trivial));(case aO=>exact (ro HO_4));(case aS=>exact (bz HB));(case aL=>have:=LMc26.out;omega);intro cj w32 ho hb hg hat;rw [← bA.out] at ho;replace aa:=zS (blk_grown (ko aa) hg (Kd.R_ne HO_4.out aa.out (by decide)));replace ad:=zS (blk_grown (ko ad) hg (Kd.R_ne HO_4.out ad.out (by decide)));replace HB:=zS (hb);have bD:=zS (ho);clear HO_4;clear ho hb hg hat))
        go_roundg k3
        case measure=>have:=HJ1.out;have:=HJ14.out;have:=HK3.out;omega
        case rel=>exact ⟨(bx),(wrap64 (ab+1)),(by first|rfl|(simp;done)|(simp [*];done)),H',⟨by have:=HJ1.out;have:=HJ14.out;have:=HK3.out;omega⟩,⟨ro bD⟩,⟨ko aa⟩,⟨bQ HB⟩⟩
       rw [if_neg c25] at H
       have bv:(((rd_T57 ac ab).f1) == ((rd_T57 ac ab).f0))=false:=zF c25
       have bw:(((rd_T57 ac ab).f1) != ((rd_T57 ac ab).f0))=true:=zI c25
       replace H:=Option.bind_eq_some_iff.mp H
       obtain ⟨ao,bE,H⟩:=H
       try dsimp only at H
       have A33:=zS bE
       clear bE
       by_cases c34:2+ao.size≤9223372036854775807
       rotate_left
       ·rw [if_neg c34] at H
        exact absurd H (by simp)
       rw [if_pos c34] at H
       have b4:=eq_true c34
       have b5:=zC c34
       try have b6:(9223372036854775807<2+ao.size)=False:=eq_false (Nat.not_lt.2 c34)
       by_cases c35:am.size+((⟨#[46,46]⟩:ByteArray) ++ ao).size≤9223372036854775807
       rotate_left
       ·rw [if_neg c35] at H
        exact absurd H (by simp)
       rw [if_pos c35] at H
       have b7:=eq_true c35
       have b8:=zC c35
       try have b9:(9223372036854775807<am.size+((⟨#[46,46]⟩:ByteArray) ++ ao).size)=False:=eq_false (Nat.not_lt.2 c35)
       try have ca:(9223372036854775807<am.size+(2+ao.size))=False:=eq_false (by have h_:=c35;simp only [ByteArray.size_append,show (⟨#[46,46]⟩:ByteArray).size=2 from rfl] at h_;omega)
       by_cases c36:au.length<8796093022208
       rotate_left
       ·rw [if_neg c36] at H
        exact absurd H (by simp)
       rw [if_pos c36] at H
       have LMc36:=zS c36
       clear c36
       obtain ⟨bF,aD⟩:∃ y_:List ByteArray,y_=(au ++ [am ++ ((⟨#[46,46]⟩:ByteArray) ++ ao)]):=⟨_,rfl⟩
       replace H:(rule_written.l0 k3 aj bF ac (ac.length:Int) (wrap64 (ab+1)))=some r:=by first|(rw [aD];with_reducible exact H)|(have H2_:=(Option.bind_some _ _).symm.trans H;rw [aD];with_reducible exact H2_)|(have H2_:=(Option.bind_some _ _).symm.trans H;with_reducible exact H2_)|with_reducible exact H|(rw [aD];exact H)|exact H
       have bG:=zS aD
       clear aD
       have H':=zS H
       clear H
       have aG:0≤(ab:Int):=zB (by first|(with_reducible assumption)|assumption)
       have aH:ab<(ac.length:Int):=zB (by first|(with_reducible assumption)|assumption)
       obtain ⟨bB,bm,ah,ai⟩:=at_T57 a5.out ab aG aH
       cases bm
       replace ah:=(HB.out.cell (World.block_lt_of_cell? w _ ah)).trans ah
       replace ai:=(HB.out.cell (World.block_lt_of_cell? w _ ai)).trans ai
       replace aG:=eq_true aG
       replace aH:=eq_true aH
       go_wp2_with (first|((with_reducible refine gate_dst (N:=6) rfl ?_);refine box_event ?hg (N:=6) ?hd (cs:=#[.int .i64 0,.int .i64 0]) (t:=57) ?hr ?_;(case hd=>rfl);(case hg=>rfl);(case hr=>first|(go_simp;done)|(go_simp;rfl));intro av hg w37 hbox hb;replace HO_4:=rb HO_4 hb;have ad:=zS (hbox);have bC:=bg HB hg;replace HB:=bs HB hb;have ap:=kn aa hg;have aq:=km aa hg;replace aa:=kb aa hb;clear hb hbox hg;have cc:=aq.out;have cd:=ap.out;have ce:=blkc2 ad.out;have cf:=blkf2 ad.out)|((with_reducible refine gate_callee (f:=75) rfl ?_);refine gL (some 36) Tryz.func75 #[.int .i64 ((rd_T57 ac ab).f0)] ?_;(with_reducible refine (strconv_Itoa.calls ((rd_T57 ac ab).f0) am _ ?side1 A24.out).mono ?_);(case side1=>refine GL.below HG.out ?_;exact bQ HB);rintro e w40 ⟨rfl,hb⟩;refine ⟨_,rfl,?_⟩;replace HO_4:=zS (Kd.R_below (by (with_reducible repeat (first|apply Kd.R_alloc|apply Kd.R_drewN|apply Kd.R_drew));exact (Kd.R_mono (Kd.R_far (p:=⟨av,1,none⟩) (Kd.R_far (p:=⟨av,0,none⟩) (Kd.R_types HO_4.out ad.out (by decide)) (fun _ hk=>hk.2) (.int .i64 ((rd_T57 ac ab).f0))) (fun _ hk=>hk.2) (.int .i64 ((rd_T57 ac ab).f1))) (fun _ h_=>h_.1))) hb);replace aa:=kb aa hb;replace ad:=zS (blk_below (g:=av) (o:=.cells #[.int .i64 ((rd_T57 ac ab).f0),.int .i64 ((rd_T57 ac ab).f1)] 57 (0,0)) (kp ad rfl) hb);replace HB:=bs HB hb;(try clear hb);(try clear hk);have cg:=blkc2 ad.out;have ch:=blkf2 ad.out)|((with_reducible refine gate_callee (f:=75) rfl ?_);refine gL (some 45) Tryz.func75 #[.int .i64 ((rd_T57 ac ab).f1)] ?_;(with_reducible refine (strconv_Itoa.calls ((rd_T57 ac ab).f1) ao _ ?side1 A33.out).mono ?_);(case side1=>refine GL.below HG.out ?_;exact bQ HB);rintro e w42 ⟨rfl,hb⟩;refine ⟨_,rfl,?_⟩;replace HO_4:=rb HO_4 hb;replace aa:=kb aa hb;replace ad:=kb ad hb;replace HB:=bs HB hb;(try clear hb);(try clear hb2);(try clear hk);(try clear hi))|((with_reducible refine gate_builtin (b:=.append) (xs:=#[.tmp 48,.tmp 50]) rfl ?_);at_builtin;refine Kd.R_append Kd.string (w0:=w) w.heap.size rfl (.tmp 48) (.tmp 50) 76 9 (.string ⟨#[]⟩) 16 rfl Tryz.underlying76 info9 rfl (by decide) (by omega) u4 au (am ++ ((⟨#[46,46]⟩:ByteArray) ++ ao)) [.string (am ++ ((⟨#[46,46]⟩:ByteArray) ++ ao))] (fun _=>True) (fun _=>False) rfl rfl ?aP (fun _ hk=>hk.elim) ?aF ?aO ?aB ?aS ?aL ?_;(case aP=>exact rfl);(case aB=>exact (bQ HB));(case aF=>exact (fun _ _=>trivial));(case aO=>exact (ro HO_4));(case aS=>exact (bz HB));(case aL=>have:=LMc36.out;omega);intro ck w43 ho hb hg hat;rw [← bG.out] at ho;replace aa:=zS (blk_grown (ko aa) hg (Kd.R_ne HO_4.out aa.out (by decide)));replace ad:=zS (blk_grown (ko ad) hg (Kd.R_ne HO_4.out ad.out (by decide)));replace HB:=zS (hb);have bH:=zS (ho);clear HO_4;clear ho hb hg hat))
       go_roundg k3
       case measure=>have:=HJ1.out;have:=HJ14.out;have:=HK3.out;omega
       case rel=>exact ⟨(bF),(wrap64 (ab+1)),(by first|rfl|(simp;done)|(simp [*];done)),H',⟨by have:=HJ1.out;have:=HJ14.out;have:=HK3.out;omega⟩,⟨ro bH⟩,⟨ko aa⟩,⟨bQ HB⟩⟩
end Go.Proofs.YtgfajgkjbckkgaaGreatDoor.PZ
end
end
section
set_option maxRecDepth 100000
namespace Go.Proofs.YtgfajgkjbckkgaaGreatDoor.PZ
open Go.RowKit Go.Proofs.YtgfajgkjbckkgaaGreatDoorW.PrintWords Go.Proofs.YtgfajgkjbckkgaaGreatDoorW.PrintLast
section
theorem bt_nat (s:ByteArray)(a:Nat):∀ h:a<s.size,((s[a]'h).toNat:Int)=bt s (a:Int):=fun h=>by simpa using bt_at s (a:Int) (by simpa using h)
theorem quiet_addR {P:Program}{f:FuncId}{args:Array Value}{w:World}{a n:Nat}{v:Value}
    (h:Calls P f args (w.drewN (a+n)) fun e w'=>e = .returned v∧∃ m,w'=(w.drewN (a+n)).drewN m) :
    Calls P f args (w.drewN (a+n)) fun e w''=>e = .returned v∧∃ m,w''=w.drewN (a+m):=
  h.mono fun _ _ ⟨he,m,hm⟩=>⟨he,n+m,by rw [hm,World.drewN_drewN,Nat.add_assoc]⟩
def Rdr (W:World)(g:Nat)(s:ByteArray)(a:Nat)(b:Bool):Prop:=W.heap[g]?=some (.cells #[.string s,.int .i64 (a:Int),.bool b] 103 (0,0))
structure Rdc (W:World)(g:Nat)(s:ByteArray)(a:Nat)(b:Bool):Prop where
  c0:W.cell? ⟨g,0,none⟩=some (.string s)
  c1:W.cell? ⟨g,1,none⟩=some (.int .i64 (a:Int))
  c2:W.cell? ⟨g,2,none⟩=some (.bool b)
  f1:W.frozen? ⟨g,1,none⟩=false
  f2:W.frozen? ⟨g,2,none⟩=false
theorem Rdr.c {W:World}{g:Nat}{s:ByteArray}{a:Nat}{b:Bool}(h:Rdr W g s a b):Rdc W g s a b:=⟨(blk_cell h 0).trans rfl,(blk_cell h 1).trans rfl,(blk_cell h 2).trans rfl,blk_frozen h 1,blk_frozen h 2⟩
def RdTo (W:World)(g:Nat)(s:ByteArray)(a:Nat)(b:Bool)(W':World):Prop:=Rdr W' g s a b∧W.grownBy W' (some g)
theorem grown_drewN {W W':World}{r:Option Nat}(h:W.grownBy W' r)(n:Nat):W.grownBy (W'.drewN n) r:=⟨h.os,h.tape,h.output,h.size,h.block⟩
section
variable {W W':World}{g:Nat}{s:ByteArray}{a a':Nat}{b b':Bool}
theorem RdTo.start (h:Rdr W g s a b):RdTo W g s a b W:=⟨h,World.grownBy.refl _ _⟩
theorem RdTo.drew (h:RdTo W g s a b W')(n:Nat):RdTo W g s a b (W'.drewN n):=⟨h.1,grown_drewN h.2 n⟩
theorem RdTo.put (h:RdTo W g s a b W'){y:Int}{x:Nat}(hy:y=(x:Int)):RdTo W g s x b (W'.setCell ⟨g,1,none⟩ (.int .i64 y)):=by
 subst hy
 exact ⟨blk_put (cs:=#[.string s,.int .i64 (a:Int),.bool b]) h.1 1 _ rfl,Lib.grownBy_setB h.2 1 _⟩
theorem RdTo.bad (h:RdTo W g s a b W')(c:Bool):RdTo W g s a c (W'.setCell ⟨g,2,none⟩ (.bool c)):=
  ⟨blk_put (cs:=#[.string s,.int .i64 (a:Int),.bool b]) h.1 2 _ rfl,Lib.grownBy_setB h.2 2 _⟩
theorem RdTo.then {W2:World}(h:RdTo W g s a b W')(k:RdTo W' g s a' b' W2):RdTo W g s a' b' W2:=⟨k.1,h.2.trans k.2⟩
end
theorem drop_bt (s:ByteArray)(k:Nat)(h:k<s.size):(bytesOf s).drop k=bt s (k:Int) :: (bytesOf s).drop (k+1):=by
 rw [drop_cons _ k (by rw [bytesOf_length];exact h),rd_bytesOf]
theorem run_cons (p:Int→Bool)(c:Int)(t:List Int):runL p (c :: t)=if p c then runL p t+1 else 0:=by
 unfold runL
 rw [List.takeWhile_cons]
 split <;> simp
theorem run_more {p:Int→Bool}{s:ByteArray}{k:Nat}(h:k<s.size)(hp:p (bt s (k:Int))=true):k+1+runL p ((bytesOf s).drop (k+1))=k+runL p ((bytesOf s).drop k):=by
 rw [drop_bt s k h,run_cons,if_pos hp];omega
theorem run_stop {p:Int→Bool}{s:ByteArray}{k:Nat}(h:k<s.size)(hp:p (bt s (k:Int))=false):k+runL p ((bytesOf s).drop k)=k:=by
 rw [drop_bt s k h,run_cons,hp];rfl
theorem run_end {p:Int→Bool}{s:ByteArray}{k:Nat}(h:¬ k<s.size):k+runL p ((bytesOf s).drop k)=k:=by
 rw [List.drop_of_length_le (by rw [bytesOf_length];omega)];rfl
theorem run_size (p:Int→Bool)(s:ByteArray)(k:Nat)(h:k≤s.size):k+runL p ((bytesOf s).drop k)≤s.size:=by
 have h1:runL p ((bytesOf s).drop k)≤((bytesOf s).drop k).length:=(List.takeWhile_sublist _).length_le
 rw [List.length_drop,bytesOf_length] at h1
 omega
set_option maxHeartbeats 1000000 in
theorem rd_skip (g:Nat)(s:ByteArray)(a:Nat)(b:Bool)(W:World)(h:Rdr W g s a b)(ha:a≤s.size)(hs:s.size≤140737488351232) :
    Calls Tryz.prog 111 #[.pointer (some ⟨g,0,none⟩)] W fun e W'=>e = .returned (.tuple #[])∧RdTo W g s (a+bl ((bytesOf s).drop a)) b W':=by
 have H0:=zA (RdTo.start h)
 obtain ⟨E,hE⟩:∃ E,a+bl ((bytesOf s).drop a)=E:=⟨_,rfl⟩
 rw [hE]
 have HE:=zA hE
 clear h hE
 go_enter Tryz.func111,Tryz.ntmps111
 go_wp2
 go_loopg [] s.size (fun gg wr=>∃ k:Nat,k≤s.size∧s.size - k≤gg∧Aside0 (k+bl ((bytesOf s).drop k)=E)∧Aside0 (RdTo W g s k b wr))
 case atStart=>exact ⟨a,ha,by omega,HE,H0⟩
 case round=>
  obtain ⟨k,hk,hg,HK,HR⟩:=hrel
  obtain ⟨c0,c1,c2,f1,f2⟩:=HR.out.1.c
  have hx:=bt_nat s k
  have p0:(0≤(k:Int))=True:=eq_true (by omega)
  by_cases hlt:k<s.size
  rotate_left
  ·have HN:=zA ((run_end (p:=isBl) hlt).symm.trans HK.out)
   have g1:decide ((k:Int)<(s.size:Int))=false:=zD (by omega)
   have g2:decide (k<s.size)=false:=zD hlt
   go_wp2
   repeat (go_quiet (fail);try go_wp2)
   first|go_end0|((try simp only [Exit.inBlock,Exit.then]);refine bodyPost_ret (results_none rfl _ _ _) rfl ?_)
   exact ⟨rfl,by rw [← HN.out];exact HR.out.drew _⟩
  have g1:decide ((k:Int)<(s.size:Int))=true:=zC (by omega)
  have g2:decide (k<s.size)=true:=zC hlt
  have g3:((k:Int)<(s.size:Int))=True:=eq_true (by omega)
  have g4:(k<s.size)=True:=eq_true hlt
  by_cases h2:bt s (k:Int)=32
  ·have HN:=zA ((run_more (p:=isBl) hlt (by rw [h2];rfl)).trans HK.out)
   have q1:(bt s (k:Int) == 32)=true:=zH h2
   clear h2
   go_wp2
   repeat (go_quiet (fail);try go_wp2)
   go_roundg (s.size - (k+1))
   case measure=>omega
   case rel=>exact ⟨k+1,by omega,by omega,HN,⟨(HR.out.drew _).put (by omega)⟩⟩
  have HN:=zA ((run_stop (p:=isBl) hlt (by unfold isBl;simpa using h2)).symm.trans HK.out)
  have q1:(bt s (k:Int) == 32)=false:=zF h2
  clear h2
  go_wp2
  repeat (go_quiet (fail);try go_wp2)
  first|go_end0|((try simp only [Exit.inBlock,Exit.then]);refine bodyPost_ret (results_none rfl _ _ _) rfl ?_)
  exact ⟨rfl,by rw [← HN.out];exact HR.out.drew _⟩
def FvIs (fv:Nat)(p:Int→Bool):Prop:=∀ (x:Int) (w:World),Calls Tryz.prog fv #[.int .u8 x] w fun e w'=>e = .returned (.bool (p x))∧∃ n,w'=w.drewN n
set_option maxRecDepth 100000 in
theorem fv_low:FvIs 93 isLo:=by
 intro x w
 unfold isLo
 cases hx:decide (97≤x) with
 | false=>
  have hx2:decide (x≥97)=false:=hx
  go_enter Tryz.func93,Tryz.ntmps93
  go_wp2
  go_ret
  exact ⟨rfl,0,rfl⟩
 | true=>
  have hx2:decide (x≥97)=true:=hx
  go_enter Tryz.func93,Tryz.ntmps93
  go_wp2
  go_ret
  exact ⟨rfl,0,rfl⟩
set_option maxRecDepth 100000 in
theorem fv_dig:FvIs 113 isDi:=by
 intro x w
 unfold isDi
 cases hx:decide (48≤x) with
 | false=>
  have hx2:decide (x≥48)=false:=hx
  go_enter Tryz.func113,Tryz.ntmps113
  go_wp2
  go_ret
  exact ⟨rfl,0,rfl⟩
 | true=>
  have hx2:decide (x≥48)=true:=hx
  go_enter Tryz.func113,Tryz.ntmps113
  go_wp2
  go_ret
  exact ⟨rfl,0,rfl⟩
def farTo (p:Int→Bool)(s:ByteArray)(a:Nat):Nat:=a+bl ((bytesOf s).drop a)+runL p ((bytesOf s).drop (a+bl ((bytesOf s).drop a)))
set_option maxHeartbeats 2000000 in
set_option maxRecDepth 100000 in
theorem rd_far (fv:Nat)(p:Int→Bool)(hp:FvIs fv p)(ef:∀ args w,(callFunc fv args).run Tryz.prog w = .ok (.enter fv args) w)(g:Nat)(s:ByteArray)(a:Nat)(b:Bool)(W:World)(h:Rdr W g s a b)(ha:a≤s.size)(hs:s.size≤140737488351232) :
    Calls Tryz.prog 92 #[.pointer (some ⟨g,0,none⟩),.func (.func fv) #[] #[]] W fun e W'=>
      e = .returned (.string (s.extract (a+bl ((bytesOf s).drop a)) (farTo p s a)))∧RdTo W g s (a+bl ((bytesOf s).drop a)) b W':=by
 have hS:=rd_skip g s a b W h ha hs
 have hA:=run_size isBl s a ha
 change a+bl ((bytesOf s).drop a)≤s.size at hA
 unfold farTo
 obtain ⟨A,hA2⟩:∃ A,a+bl ((bytesOf s).drop a)=A:=⟨_,rfl⟩
 rw [hA2] at hS hA ⊢
 have hE2:=run_size p s A hA
 obtain ⟨E,hE⟩:∃ E,A+runL p ((bytesOf s).drop A)=E:=⟨_,rfl⟩
 rw [hE] at hE2 ⊢
 have HE:=zA hE
 have HP:=zA hp
 clear h hA2 hE hp
 go_enter Tryz.func92,Tryz.ntmps92
 go_wp2_with (go_at_call 111;refine hS.mono ?_;rintro e W1 ⟨rfl,hr1⟩;have HR0:=zA hr1;clear hr1)
 clear hS
 go_loopg [5] s.size (fun gg s5 wr=>∃ k:Nat,A+k≤s.size∧s.size - k≤gg∧s5 = .int .i64 (k:Int)∧Aside0 (A+k+runL p ((bytesOf s).drop (A+k))=E)∧Aside0 (RdTo W g s A b wr))
 case atStart=>exact ⟨0,by omega,by omega,rfl,HE,HR0⟩
 case round=>
  clear HR0
  obtain ⟨k,hk,hg,rfl,HK,HR⟩:=hrel
  obtain ⟨c0,c1,c2,f1,f2⟩:=HR.out.1.c
  have hx:=bt_nat s (A+k)
  have hw:IntKind.i64.wrap ((A:Int)+(k:Int))=(A:Int)+(k:Int):=by rw [IntKind.wrap_i64];omega
  have hw2:wrap64 ((A:Int)+(k:Int))=(A:Int)+(k:Int):=w64 _ (by omega) (by omega)
  have hn:((A:Int)+(k:Int)).toNat=A+k:=by omega
  have hc:((A+k:Nat):Int)=(A:Int)+(k:Int):=by omega
  have p0:(0≤(A:Int)+(k:Int))=True:=eq_true (by omega)
  by_cases hlt:A+k<s.size
  rotate_left
  ·have HN:=zA ((run_end (p:=p) hlt).symm.trans HK.out)
   have g1:decide ((A:Int)+(k:Int)<(s.size:Int))=false:=zD (by omega)
   have g2:decide (A+k<s.size)=false:=zD hlt
   go_wp2
   repeat (go_quiet (fail);try go_wp2)
   have e1:((A:Int)≤(A:Int)+(k:Int))=True:=eq_true (by omega)
   have e2:((A:Int)+(k:Int)≤(s.size:Int))=True:=eq_true (by omega)
   have e4:(A≤A+k)=True:=eq_true (by omega)
   have e5:(A+k≤s.size)=True:=eq_true hk
   have e6:(0≤(A:Int))=True:=eq_true (by omega)
   have e7:(A:Int).toNat=A:=by omega
   try go_wp2
   repeat (go_quiet (fail);try go_wp2)
   go_outline
   go_ret
   exact ⟨by rw [← HN.out];rfl,(HR.out.drew _).drew _⟩
  have g1:decide ((A:Int)+(k:Int)<(s.size:Int))=true:=zC (by omega)
  have g2:decide (A+k<s.size)=true:=zC hlt
  have g3:((A:Int)+(k:Int)<(s.size:Int))=True:=eq_true (by omega)
  have g4:(A+k<s.size)=True:=eq_true hlt
  cases h2:p (bt s ((A+k:Nat):Int)) with
  | true=>
   have HN:=zA ((run_more (p:=p) hlt h2).trans HK.out)
   have HC:=zA (fun w=>by have:=HP.out (bt s ((A+k:Nat):Int)) w;rwa [h2] at this)
   rw [hc] at HC hx
   clear h2 hc
   go_wp2
   repeat (go_quiet ((first|(go_at_fn fv;first|exact quiet_addR (HC.out _)|exact Calls.quiet_of (HC.out _)|exact HC.out _)));try go_wp2)
   go_roundg (s.size - (k+1))
   case measure=>omega
   case rel=>exact ⟨k+1,by omega,by omega,by go_num,HN,⟨HR.out.drew _⟩⟩
  | false=>
   have HN:=zA ((run_stop (p:=p) hlt h2).symm.trans HK.out)
   have HC:=zA (fun w=>by have:=HP.out (bt s ((A+k:Nat):Int)) w;rwa [h2] at this)
   rw [hc] at HC hx
   clear h2 hc
   have hn2:(A:Int).toNat=A:=by omega
   go_wp2
   repeat (go_quiet ((first|(go_at_fn fv;first|exact quiet_addR (HC.out _)|exact Calls.quiet_of (HC.out _)|exact HC.out _)));try go_wp2)
   have e1:((A:Int)≤(A:Int)+(k:Int))=True:=eq_true (by omega)
   have e2:((A:Int)+(k:Int)≤(s.size:Int))=True:=eq_true (by omega)
   have e4:(A≤A+k)=True:=eq_true (by omega)
   have e5:(A+k≤s.size)=True:=eq_true hk
   have e6:(0≤(A:Int))=True:=eq_true (by omega)
   have e7:(A:Int).toNat=A:=by omega
   try go_wp2
   repeat (go_quiet (fail);try go_wp2)
   go_outline
   go_ret
   exact ⟨by rw [← HN.out];rfl,(HR.out.drew _).drew _⟩
end
end Go.Proofs.YtgfajgkjbckkgaaGreatDoor.PZ
end
section
noncomputable section
namespace Go.Proofs.YtgfajgkjbckkgaaGreatDoor.PZ
open Go.RowKit Go.Proofs.YtgfajgkjbckkgaaGreatDoorW.PrintWords Go.Proofs.YtgfajgkjbckkgaaGreatDoorW.PrintLast Go.Proofs.YtgfajgkjbckkgaaGreatDoorW.PrintMore
attribute [local go_sem] max2_int min2_int max_two min_two max_three min_three max_four min_four   -- for this text's walks alone
def exergueref12_Short.l0:Nat→List (S65)→Int→Option (Bool)
 | 0,_,_=>none
 | k+1,x0,x3=>if x3<(x0.length:Int) then (if 0≤x3 then ((exergueref11_Short.f k ((rd_T65 x0 x3).f1)).bind fun ak=>(if x3≥8 then (some false) else (if ak=true then (exergueref12_Short.l0 k x0 (wrap64 (x3+1))) else (some false)))) else (none)) else (some true)
def exergueref12_Short.f (k:Nat)(l0:List (S65)):Option (Bool):=exergueref12_Short.l0 k l0 0
theorem exergueref12_Short.mono_l:∀ k,(∀ y0 y1,LeO (exergueref12_Short.l0 k y0 y1) (exergueref12_Short.l0 (k+1) y0 y1))
 | 0=>fun _ _ r h=>by simp [exergueref12_Short.l0] at h
 | k+1=>by
  have ih0:=exergueref12_Short.mono_l k
  ·intro y0 y1
   unfold exergueref12_Short.l0
   repeat' first|(with_reducible first|apply ih0|apply exergueref11_Short.mono|apply LeO.refl|apply LeO.none|refine LeO.ite ?_ ?_|refine LeO.bind ?_ (fun _=>?_))|apply ih0|apply exergueref11_Short.mono|apply LeO.none
theorem exergueref12_Short.mono:∀ a0 k,LeO (exergueref12_Short.f k a0) (exergueref12_Short.f (k+1) a0):=by
 intro a0 k
 have ih0:=exergueref12_Short.mono_l k
 unfold exergueref12_Short.f
 repeat' first|(with_reducible first|apply ih0|apply exergueref11_Short.mono|apply LeO.refl|apply LeO.none|refine LeO.ite ?_ ?_|refine LeO.bind ?_ (fun _=>?_))|apply ih0|apply exergueref11_Short.mono|apply LeO.none
set_option maxHeartbeats 8000000 in
set_option maxRecDepth 100000 in
theorem exergueref12_Short.calls (k:Nat)(A0:Option Addr)(c0:Nat)(l0:List (S65))(r:Bool)(w:World)(hr0:Kd.C k65 w A0 l0.length l0)(hc0:l0.length≤c0)(h:exergueref12_Short.f k l0=some r) :
  Calls Tryz.prog 20 #[.slice A0 l0.length c0] w fun e w'=>e = .returned (.bool r)∧Drawn0 w w':=by
 have HR0:=zS hr0
 have HC0:=zS hc0
 clear hr0 hc0
 have H:(exergueref12_Short.l0 k l0 0)=some r:=h
 clear h
 have H':=zS H
 clear H
 go_enter Tryz.func20,Tryz.ntmps20
 go_wp2
 go_loopg [3] k (fun kq v3 w'=>∃ (aa:Int),v3 = .int .i64 aa∧Sd (exergueref12_Short.l0 kq l0 aa=some r)∧Sd (kq≤k)∧Drawn0 w w')
 case atStart=>exact ⟨(0),(by first|rfl|(simp;done)|(simp [*];done)),H',⟨Nat.le_refl _⟩,by repeat (first|exact Drawn0.refl _|apply Drawn0.step)⟩
 case round=>
  clear H'
  obtain ⟨aa,rfl,HA,HK1,⟨m1,rfl⟩⟩:=hrel
  cases gk with
  | zero=>exact absurd HA.out (by simp [exergueref12_Short.l0])
  | succ k1=>
   have H:=HA.out
   clear HA
   simp only [exergueref12_Short.l0] at H
   by_cases c2:aa<(l0.length:Int)
   rotate_left
   ·rw [if_neg c2] at H
    have am:=zD c2
    clear c2
    obtain rfl:=zE H
    go_wp2
    go_ret
    exact ⟨by first|rfl|(simp;done)|(simp [*];done),by repeat (first|exact Drawn0.refl _|apply Drawn0.step)⟩
   rw [if_pos c2] at H
   have am:=zC c2
   clear c2
   by_cases c3:0≤aa
   rotate_left
   ·rw [if_neg c3] at H
    exact absurd H (by simp)
   rw [if_pos c3] at H
   have ao:=zC c3
   clear c3
   replace H:=Option.bind_eq_some_iff.mp H
   obtain ⟨ak,A40,H⟩:=H
   try dsimp only at H
   have A4:=zS A40
   clear A40
   by_cases c5:aa≥8
   ·rw [if_pos c5] at H
    have an:decide (8≤aa)=true:=zC c5
    clear c5
    obtain rfl:=zE H
    have ad:0≤(aa:Int):=zB (by first|(with_reducible assumption)|assumption)
    have ae:aa<(l0.length:Int):=zB (by first|(with_reducible assumption)|assumption)
    obtain ⟨al,af,ag,aj,ah,ai,hl495_1,hi495_1⟩:=at_T65 HR0.out aa ad ae
    cases aj
    have ab:=zS hi495_1
    have ac:=zS hl495_1
    clear hi495_1 hl495_1
    replace ad:=eq_true ad
    replace ae:=eq_true ae
    go_wp2_with (first|((with_reducible refine gate_callee (f:=30) rfl ?_);refine gL (some 16) Tryz.func30 #[.slice af ((rd_T65 l0 aa).f1).length ag] ?_;(with_reducible refine (exergueref11_Short.calls k1 _ _ ((rd_T65 l0 aa).f1) ak _ ?side1 ac.out A4.out).mono ?_);(case side1=>repeat (first|exact ab.out|(with_reducible refine Kd.C_alloc ?_ _)|(with_reducible refine Kd.C_drewN ?_ _)|(with_reducible refine Kd.C_drew ?_)));rintro e w' ⟨rfl,⟨nd,rfl⟩⟩;refine ⟨_,rfl,?_⟩))
    go_ret
    exact ⟨by first|rfl|(simp;done)|(simp [*];done),by repeat (first|exact Drawn0.refl _|apply Drawn0.step)⟩
   rw [if_neg c5] at H
   have an:decide (8≤aa)=false:=zD c5
   clear c5
   by_cases c6:ak=true
   ·subst c6
    rw [if_pos rfl] at H
    have H':=zS H
    clear H
    have ad:0≤(aa:Int):=zB (by first|(with_reducible assumption)|assumption)
    have ae:aa<(l0.length:Int):=zB (by first|(with_reducible assumption)|assumption)
    obtain ⟨al,af,ag,aj,ah,ai,hl495_1,hi495_1⟩:=at_T65 HR0.out aa ad ae
    cases aj
    have ab:=zS hi495_1
    have ac:=zS hl495_1
    clear hi495_1 hl495_1
    replace ad:=eq_true ad
    replace ae:=eq_true ae
    go_wp2_with (first|((with_reducible refine gate_callee (f:=30) rfl ?_);refine gL (some 16) Tryz.func30 #[.slice af ((rd_T65 l0 aa).f1).length ag] ?_;(with_reducible refine (exergueref11_Short.calls k1 _ _ ((rd_T65 l0 aa).f1) true _ ?side1 ac.out A4.out).mono ?_);(case side1=>repeat (first|exact ab.out|(with_reducible refine Kd.C_alloc ?_ _)|(with_reducible refine Kd.C_drewN ?_ _)|(with_reducible refine Kd.C_drew ?_)));rintro e w' ⟨rfl,⟨nd,rfl⟩⟩;refine ⟨_,rfl,?_⟩))
    go_roundg k1
    case measure=>have:=HK1.out;omega
    case rel=>exact ⟨(wrap64 (aa+1)),(by first|rfl|(simp;done)|(simp [*];done)),H',⟨by have:=HK1.out;omega⟩,by repeat (first|exact Drawn0.refl _|apply Drawn0.step)⟩
   replace c6:=Bool.eq_false_iff.mpr c6
   subst c6
   rw [if_neg (show ¬ (false=true) by decide)] at H
   obtain rfl:=zE H
   have ad:0≤(aa:Int):=zB (by first|(with_reducible assumption)|assumption)
   have ae:aa<(l0.length:Int):=zB (by first|(with_reducible assumption)|assumption)
   obtain ⟨al,af,ag,aj,ah,ai,hl495_1,hi495_1⟩:=at_T65 HR0.out aa ad ae
   cases aj
   have ab:=zS hi495_1
   have ac:=zS hl495_1
   clear hi495_1 hl495_1
   replace ad:=eq_true ad
   replace ae:=eq_true ae
   go_wp2_with (first|((with_reducible refine gate_callee (f:=30) rfl ?_);refine gL (some 16) Tryz.func30 #[.slice af ((rd_T65 l0 aa).f1).length ag] ?_;(with_reducible refine (exergueref11_Short.calls k1 _ _ ((rd_T65 l0 aa).f1) false _ ?side1 ac.out A4.out).mono ?_);(case side1=>repeat (first|exact ab.out|(with_reducible refine Kd.C_alloc ?_ _)|(with_reducible refine Kd.C_drewN ?_ _)|(with_reducible refine Kd.C_drew ?_)));rintro e w' ⟨rfl,⟨nd,rfl⟩⟩;refine ⟨_,rfl,?_⟩))
   go_ret
   exact ⟨by first|rfl|(simp;done)|(simp [*];done),by repeat (first|exact Drawn0.refl _|apply Drawn0.step)⟩
end Go.Proofs.YtgfajgkjbckkgaaGreatDoor.PZ
end
end
section
noncomputable section
namespace Go.Proofs.YtgfajgkjbckkgaaGreatDoor.PZ
open Go.RowKit Go.Proofs.YtgfajgkjbckkgaaGreatDoorW.PrintWords Go.Proofs.YtgfajgkjbckkgaaGreatDoorW.PrintLast Go.Proofs.YtgfajgkjbckkgaaGreatDoorW.PrintMore
attribute [local go_sem] max2_int min2_int max_two min_two max_three min_three max_four min_four   -- for this text's walks alone
def oper_told_t.f (ai:List Int)(aa:List Int)(ab:Int)(an:Int):Option (List Int):=if 0≤ab then (if ab≤(aa.length:Int) then ((oper_bare.f (aa.take (ab:Int).toNat)).bind fun aj=>(some aj)) else (none)) else (none)
set_option maxHeartbeats 8000000 in
set_option maxRecDepth 100000 in
theorem oper_told_t.calls (ar:Option Addr)(au:Nat)(ai:List Int)(ae:Nat→Prop)(af:Option Addr)(ad:Nat)(aa:List Int)(ab:Int)(an:Int)(r:List Int)(w:World)(ao:Kd.C (Kd.int .u8) w ar ai.length ai)(ap:ai.length≤au)(av:Kd.V (Kd.int .u8) 5 w w.heap.size (fun k_=>ae k_) (.slice af aa.length ad) aa)(h:oper_told_t.f ai aa ab an=some r) :
  Calls Tryz.prog 105 #[.agg #[.slice ar ai.length au,.slice af aa.length ad,.int .i64 ab,.int .i64 an]] w fun e w'=>∃ v0_:Value,e = .returned (v0_)∧Kd.V (Kd.int .u8) 5 w' w.heap.size (fun k_=>(ae k_∨w.heap.size≤k_)) v0_ r∧Below w.heap.size w w':=by
 have hu136:=Tryz.underlying136
 have ax:=zS ao
 have ay:=zS ap
 clear ao ap
 have ac:=zS (show Kd.V (Kd.int .u8) 5 w w.heap.size (fun k_=>(ae k_∨w.heap.size≤k_)) (.slice af aa.length ad) aa from Kd.V_mono av (fun k_ hk=>.inl hk))
 have HB:=zS (Below.refl w.heap.size w)
 have H:(if 0≤ab then (if ab≤(aa.length:Int) then ((oper_bare.f (aa.take (ab:Int).toNat)).bind fun aj=>(some aj)) else (none)) else (none))=some r:=h
 clear h
 by_cases c2:0≤ab
 rotate_left
 ·rw [if_neg c2] at H
  exact absurd H (by simp)
 rw [if_pos c2] at H
 have aB:=eq_true c2
 have aC:=zC c2
 clear c2
 by_cases c3:ab≤(aa.length:Int)
 rotate_left
 ·rw [if_neg c3] at H
  exact absurd H (by simp)
 rw [if_pos c3] at H
 have aD:=eq_true c3
 have aE:=zC c3
 clear c3
 obtain ⟨ak,ag⟩:∃ y_:List Int,y_=(aa.take (ab:Int).toNat):=⟨_,rfl⟩
 replace H:((oper_bare.f ak).bind fun aj=>(some aj))=some r:=by first|(rw [ag];with_reducible exact H)|(have H2_:=(Option.bind_some _ _).symm.trans H;rw [ag];with_reducible exact H2_)|(have H2_:=(Option.bind_some _ _).symm.trans H;with_reducible exact H2_)|with_reducible exact H|(rw [ag];exact H)|exact H
 have aq:=zS ag
 clear ag
 replace H:=Option.bind_eq_some_iff.mp H
 obtain ⟨aj,A40,H⟩:=H
 try dsimp only at H
 have A4:=zS A40
 clear A40
 obtain rfl:=zE H
 go_enter Tryz.func105,Tryz.ntmps105
 go_wp2_with (first|((with_reducible refine gate_dst (N:=1) rfl ?_);refine box_event ?hg (N:=1) ?hd (cs:=#[.slice ar ai.length au,.slice af aa.length ad,.int .i64 ab,.int .i64 an]) (t:=136) ?hr ?_;(case hd=>rfl);(case hg=>rfl);(case hr=>first|(go_simp;done)|(go_simp;rfl));intro al hg w5 hbox hb;replace ac:=zS (Kd.V_below (Kd.V_elderB (vo ac) al (Nat.le_of_eq hg.symm)) hb);have ah:=zS (hbox);have az:=bg HB hg;replace HB:=bs HB hb;clear hb hbox hg;have aF:=blkc4 ah.out;have aG:=blkf4 ah.out;have q7:(ab:Int)≤((aa.length:Int):Int):=zB (by first|(with_reducible assumption)|assumption);obtain ⟨i07,hi07,_,hsz7,_⟩:=info_parts info5;have hroom7:aa.length≤ad:=(Kd.V_reads' ac.out).2.1;have hC7:Kd.F (Kd.int .u8) _ _ af aa.length aa:=(Kd.V_at (base:=w.heap.size) ac.out).2.2;have hcut7:=cut_to (P:=Tryz.prog) 34 5 .i64 Tryz.underlying34 hi07 af aa.length ad ab (zB (by first|(with_reducible assumption)|assumption)) q7 hroom7;have hr7:=Kd.F_take (m:=(ab:Int).toNat) hC7 (by omega);have hy7:ak.length=(ab:Int).toNat:=(by rw [aq.out,List.length_take];omega);rw [← aq.out] at hr7;rw [← hy7] at hcut7;have am:=zS (show Kd.V (Kd.int .u8) 5 _ w.heap.size _ (.slice af ak.length ad) ak from Kd.V_mk (by omega) hr7);have aA:=zS (show ak.length≤ad from by omega);clear hr7 hC7 hroom7 hi07 hsz7;have KY7:=zS hy7;clear hy7;replace q7:=eq_true q7)|((with_reducible refine gate_callee (f:=107) rfl ?_);refine gL (some 8) Tryz.func107 #[.slice af ak.length ad] ?_;(with_reducible refine (oper_bare.calls (fun k_=>((ae k_∨w.heap.size≤k_)∧k_≠al)) _ _ ak aj _ ?side1 A4.out).mono ?_);(case side1=>exact am.out);rintro e w8 ⟨aH,rfl,ho0,hb⟩;refine ⟨_,rfl,?_⟩;replace ac:=vb ac hb;replace am:=vb am hb;have aw:=zS (Kd.V_lower (Kd.V_mono (ok':=fun k_=>(ae k_∨w.heap.size≤k_)∧k_≠al) ho0 (fun k_ hk_=>⟨Or.elim hk_ (fun hs_=>hs_.1) (fun hn_=>(.inr (Nat.le_trans (bz HB) hn_))),Or.elim hk_ (fun hs_=>hs_.2) (fun hn_=>(Kd.freshB (ko ah) k_ hn_))⟩)) (bz HB));replace ah:=kb ah hb;replace HB:=bs HB hb;(try clear hb);(try clear ho0)))
 go_ret
 exact ⟨_,by first|rfl|(simp <;> rfl)|(simp [*] <;> rfl),by (with_reducible repeat (first|apply Kd.V_alloc|apply Kd.V_drewN|apply Kd.V_drew));exact Kd.V_mono aw.out (fun _ hk=>hk.1),bQ HB⟩
end Go.Proofs.YtgfajgkjbckkgaaGreatDoor.PZ
end
end
section
noncomputable section
namespace Go.Proofs.YtgfajgkjbckkgaaGreatDoor.PZ
open Go.RowKit Go.Proofs.YtgfajgkjbckkgaaGreatDoorW.PrintWords Go.Proofs.YtgfajgkjbckkgaaGreatDoorW.PrintLast Go.Proofs.YtgfajgkjbckkgaaGreatDoorW.PrintMore
attribute [local go_sem] max2_int min2_int max_two min_two max_three min_three max_four min_four   -- for this text's walks alone
def oper_told_f.f (ae:List Int)(aa:List Int)(aj:Int)(ak:Int):Option (List Int):=(oper_bare.f aa).bind fun af=>(some af)
set_option maxHeartbeats 8000000 in
set_option maxRecDepth 100000 in
theorem oper_told_f.calls (an:Option Addr)(ao:Nat)(ae:List Int)(ab:Nat→Prop)(ag:Option Addr)(ah:Nat)(aa:List Int)(aj:Int)(ak:Int)(r:List Int)(w:World)(al:Kd.C (Kd.int .u8) w an ae.length ae)(am:ae.length≤ao)(ap:Kd.V (Kd.int .u8) 5 w w.heap.size (fun k_=>ab k_) (.slice ag aa.length ah) aa)(h:oper_told_f.f ae aa aj ak=some r) :
  Calls Tryz.prog 104 #[.agg #[.slice an ae.length ao,.slice ag aa.length ah,.int .i64 aj,.int .i64 ak]] w fun e w'=>∃ v0_:Value,e = .returned (v0_)∧Kd.V (Kd.int .u8) 5 w' w.heap.size (fun k_=>(ab k_∨w.heap.size≤k_)) v0_ r∧Below w.heap.size w w':=by
 have hu136:=Tryz.underlying136
 have ar:=zS al
 have au:=zS am
 clear al am
 have ac:=zS (show Kd.V (Kd.int .u8) 5 w w.heap.size (fun k_=>(ab k_∨w.heap.size≤k_)) (.slice ag aa.length ah) aa from Kd.V_mono ap (fun k_ hk=>.inl hk))
 have HB:=zS (Below.refl w.heap.size w)
 have H:((oper_bare.f aa).bind fun af=>(some af))=some r:=h
 clear h
 replace H:=Option.bind_eq_some_iff.mp H
 obtain ⟨af,A20,H⟩:=H
 try dsimp only at H
 have A2:=zS A20
 clear A20
 obtain rfl:=zE H
 go_enter Tryz.func104,Tryz.ntmps104
 go_wp2_with (first|((with_reducible refine gate_dst (N:=1) rfl ?_);refine box_event ?hg (N:=1) ?hd (cs:=#[.slice an ae.length ao,.slice ag aa.length ah,.int .i64 aj,.int .i64 ak]) (t:=136) ?hr ?_;(case hd=>rfl);(case hg=>rfl);(case hr=>first|(go_simp;done)|(go_simp;rfl));intro ai hg w3 hbox hb;replace ac:=zS (Kd.V_below (Kd.V_elderB (vo ac) ai (Nat.le_of_eq hg.symm)) hb);have ad:=zS (hbox);have av:=bg HB hg;replace HB:=bs HB hb;clear hb hbox hg;have aw:=blkc4 ad.out;have ax:=blkf4 ad.out)|((with_reducible refine gate_callee (f:=107) rfl ?_);refine gL (some 5) Tryz.func107 #[.slice ag aa.length ah] ?_;(with_reducible refine (oper_bare.calls (fun k_=>((ab k_∨w.heap.size≤k_)∧k_≠ai)) _ _ aa af _ ?side1 A2.out).mono ?_);(case side1=>exact ac.out);rintro e w5 ⟨ay,rfl,ho0,hb⟩;refine ⟨_,rfl,?_⟩;replace ac:=vb ac hb;have aq:=zS (Kd.V_lower (Kd.V_mono (ok':=fun k_=>(ab k_∨w.heap.size≤k_)∧k_≠ai) ho0 (fun k_ hk_=>⟨Or.elim hk_ (fun hs_=>hs_.1) (fun hn_=>(.inr (Nat.le_trans (bz HB) hn_))),Or.elim hk_ (fun hs_=>hs_.2) (fun hn_=>(Kd.freshB (ko ad) k_ hn_))⟩)) (bz HB));replace ad:=kb ad hb;replace HB:=bs HB hb;(try clear hb);(try clear ho0)))
 go_ret
 exact ⟨_,by first|rfl|(simp <;> rfl)|(simp [*] <;> rfl),by (with_reducible repeat (first|apply Kd.V_alloc|apply Kd.V_drewN|apply Kd.V_drew));exact Kd.V_mono aq.out (fun _ hk=>hk.1),bQ HB⟩
end Go.Proofs.YtgfajgkjbckkgaaGreatDoor.PZ
end
end
section
noncomputable section
namespace Go.Proofs.YtgfajgkjbckkgaaGreatDoor.PZ
open Go.RowKit Go.Proofs.YtgfajgkjbckkgaaGreatDoorW.PrintWords Go.Proofs.YtgfajgkjbckkgaaGreatDoorW.PrintLast Go.Proofs.YtgfajgkjbckkgaaGreatDoorW.PrintMore
attribute [local go_sem] max2_int min2_int max_two min_two max_three min_three max_four min_four   -- for this text's walks alone
def oper_compared.f (l0:List Int)(l1:List Int):Option (Int):=if (l0.length:Int)=(l1.length:Int) then ((bytes_Compare.f l0 l1).bind fun aa=>(some aa)) else (some (wrap64 ((l0.length:Int) - (l1.length:Int))))
set_option maxHeartbeats 8000000 in
set_option maxRecDepth 100000 in
theorem oper_compared.calls (A0:Option Addr)(c0:Nat)(l0:List Int)(A1:Option Addr)(c1:Nat)(l1:List Int)(r:Int)(w:World)(hr0:Kd.C (Kd.int .u8) w A0 l0.length l0)(hc0:l0.length≤c0)(hr1:Kd.C (Kd.int .u8) w A1 l1.length l1)(hc1:l1.length≤c1)(h:oper_compared.f l0 l1=some r) :
  Calls Tryz.prog 108 #[.slice A0 l0.length c0,.slice A1 l1.length c1] w fun e w'=>e = .returned (.int .i64 r)∧Drawn0 w w':=by
 have HR0:=zS hr0
 have HC0:=zS hc0
 clear hr0 hc0
 have HR1:=zS hr1
 have HC1:=zS hc1
 clear hr1 hc1
 have H:(if (l0.length:Int)=(l1.length:Int) then ((bytes_Compare.f l0 l1).bind fun aa=>(some aa)) else (some (wrap64 ((l0.length:Int) - (l1.length:Int)))))=some r:=h
 clear h
 by_cases c3:(l0.length:Int)=(l1.length:Int)
 ·rw [if_pos c3] at H
  have ab:((l0.length:Int) == (l1.length:Int))=true:=zH c3
  have ac:((l0.length:Int) != (l1.length:Int))=false:=zG c3
  have ad:(l0.length == l1.length)=true:=by first|simpa using c3|(simp at c3 ⊢;omega)
  clear c3
  replace H:=Option.bind_eq_some_iff.mp H
  obtain ⟨aa,A40,H⟩:=H
  try dsimp only at H
  have A4:=zS A40
  clear A40
  obtain rfl:=zE H
  go_enter Tryz.func108,Tryz.ntmps108
  go_wp2_with (first|((with_reducible refine gate_callee (f:=119) rfl ?_);refine gL (some 17) Tryz.func119 #[.slice A0 l0.length c0,.slice A1 l1.length c1] ?_;(with_reducible refine (bytes_Compare.calls _ _ l0 _ _ l1 aa _ ?side1 HC0.out ?side3 HC1.out A4.out).mono ?_);(case side1=>repeat (first|exact HR0.out|(with_reducible refine Kd.C_alloc ?_ _)|(with_reducible refine Kd.C_drewN ?_ _)|(with_reducible refine Kd.C_drew ?_)));(case side3=>repeat (first|exact HR1.out|(with_reducible refine Kd.C_alloc ?_ _)|(with_reducible refine Kd.C_drewN ?_ _)|(with_reducible refine Kd.C_drew ?_)));rintro e w' ⟨rfl,⟨nd,rfl⟩⟩;refine ⟨_,rfl,?_⟩))
  go_ret
  exact ⟨by first|rfl|(simp;done)|(simp [*];done),by repeat (first|exact Drawn0.refl _|apply Drawn0.step)⟩
 rw [if_neg c3] at H
 have ab:((l0.length:Int) == (l1.length:Int))=false:=zF c3
 have ac:((l0.length:Int) != (l1.length:Int))=true:=zI c3
 have ad:(l0.length == l1.length)=false:=by first|simpa using c3|(simp at c3 ⊢;omega)
 obtain rfl:=zE H
 go_enter Tryz.func108,Tryz.ntmps108
 go_wp2
 go_ret
 exact ⟨by first|rfl|(simp;done)|(simp [*];done),by repeat (first|exact Drawn0.refl _|apply Drawn0.step)⟩
end Go.Proofs.YtgfajgkjbckkgaaGreatDoor.PZ
end
end
section
set_option maxRecDepth 100000
namespace Go.Proofs.YtgfajgkjbckkgaaGreatDoor.PZ
open Go.RowKit Go.Proofs.YtgfajgkjbckkgaaGreatDoorW.PrintWords Go.Proofs.YtgfajgkjbckkgaaGreatDoorW.PrintLast
def oper_number.f (n:Int):Option (List Int):=if -9223372036854775808≤n∧n≤9223372036854775807 then some (if n=0 then [] else (bytesOf (numText n)).map lessB) else none
set_option maxHeartbeats 1000000 in
theorem oper_number.calls (a0:Int)(r:List Int)(w:World)(hG:GL w)(h:oper_number.f a0=some r) :
    Calls Tryz.prog 109 #[.int .i64 a0] w fun e w'=>∃ v0_:Value,e = .returned (v0_)∧Kd.V (Kd.int .u8) 5 w' w.heap.size (fun k_=>w.heap.size≤k_) v0_ r∧Below w.heap.size w w':=by
 unfold oper_number.f at h
 by_cases hb : -9223372036854775808≤a0∧a0≤9223372036854775807
 rotate_left
 ·rw [if_neg hb] at h
  cases h
 rw [if_pos hb] at h
 obtain rfl:=zE h
 clear h
 by_cases h0:a0=0
 ·subst h0
  simp only [if_true]
  go_enter Tryz.func109,Tryz.ntmps109
  go_wp2
  go_ret
  exact ⟨_,rfl,Kd.V_nil _ _ _ _ _,Below.refl _ _⟩
 rw [if_neg h0]
 have e0:(a0 == 0)=false:=by simpa using h0
 have hsz:=numText_size a0 hb.1 hb.2
 have hIt:=strconv_Itoa.calls a0 (numText a0) w hG (by unfold strconv_Itoa.f numText;rw [if_pos hb])
 have hlen:(bytesOf (numText a0)).length=(numText a0).size:=bytesOf_length _
 clear hb h0 hG
 generalize numText a0=s at *
 have kc:=fun (W:World)=>print_bytes (P:=Tryz.prog) 9 34 5 Tryz.underlying9 Tryz.underlying34 Tryz.underlying5 s W
 have HSZ:=zA hsz
 have HLEN:=zA hlen
 clear hsz hlen
 go_enter Tryz.func109,Tryz.ntmps109
 go_wp2_with (go_at_call 75;refine hIt.mono ?_;rintro e w1 ⟨rfl,hb1⟩;have HB1:=zA hb1;clear hb1)
 have H0:=zA (MixSt.start w1 s)
 have HB2:=zA (bytes_below HB1.out HB1.out.size 5 s)
 go_loopg [4,12] s.size (fun gg _ s12 wr=>∃ k:Nat,k≤s.size∧s.size - k≤gg∧s12 = .int .i64 k∧Aside0 (MixSt w1.heap.size (bytesOf s) k wr)∧Aside0 (Below w.heap.size w wr))
 case atStart=>exact ⟨0,Nat.zero_le _,by omega,rfl,H0,HB2⟩
 case round=>
  obtain ⟨k,hk,hg,rfl,HM,HB⟩:=hrel
  have hs21:=HSZ.out
  by_cases hlt:k<s.size
  ·have hlt1:=zC hlt
   obtain ⟨hcell,hfz⟩:=HM.out.2 k (by rw [HLEN.out];exact hlt)
   rw [if_neg (Nat.lt_irrefl k)] at hcell
   have HP:=zA (HM.out.put (by rw [HLEN.out];exact hlt))
   generalize hy:rd (bytesOf s) (k:Int)=y at hcell HP
   clear hy
   go_wp2
   go_roundg (s.size - (k+1))
   case measure=>omega
   case rel=>exact ⟨k+1,by omega,by omega,by go_num,HP,⟨Below.setCell HB.out HB1.out.size _⟩⟩
  have:k=s.size:=by omega
  subst this
  have hlt1:=zD hlt
  go_wp2
  go_ret
  have hd:=HM.out
  rw [← HLEN.out] at hd
  have hV:=hd.done w.heap.size HB1.out.size (grownCap w1 s.size 0 5) (by rw [HLEN.out];exact grownCap_ge _ _ _ _) (by rw [HLEN.out];omega)
  rw [HLEN.out] at hV
  exact ⟨_,rfl,hV,HB.out⟩
end Go.Proofs.YtgfajgkjbckkgaaGreatDoor.PZ
end
section
set_option maxRecDepth 100000
namespace Go.Proofs.YtgfajgkjbckkgaaGreatDoor.PZ
open Go.RowKit Go.Proofs.YtgfajgkjbckkgaaGreatDoorW.PrintWords
def OkG (g:Rg):Prop:=(Lit.int .i64 g.f0).wf=true∧(Lit.int .i64 g.f1).wf=true
def OkL {α:Type}(bytes:Nat)(Q:α→Prop)(l:List α):Prop:=l.length * bytes≤140737488351232∧∀ x ∈ l,Q x
def OkX (x:Rl):Prop:=(Lit.int .u8 x.f0).wf=true∧(Lit.int .i64 x.f1).wf=true∧OkL 16 OkG x.f3
def OkC (c:List (List Rl)):Prop:=OkL 24 (OkL 48 OkX) c
def OkRu (x:S65):Prop:=(Lit.int .i64 x.f0).wf=true∧OkC x.f1
def OkRus (l:List S65):Prop:=OkL 32 OkRu l
end Go.Proofs.YtgfajgkjbckkgaaGreatDoor.PZ
end
