/- Texts of this seat, joined. Conditions: none beyond each statement's own. -/
import Derived.Test.YtgfajgkjbckkgaaGreatDoorPc23
set_option linter.all false
section
noncomputable section
namespace Go.Proofs.YtgfajgkjbckkgaaGreatDoor.PZ
open Go.RowKit Go.Proofs.YtgfajgkjbckkgaaGreatDoorW.PrintWords Go.Proofs.YtgfajgkjbckkgaaGreatDoorW.PrintLast Go.Proofs.YtgfajgkjbckkgaaGreatDoorW.PrintMore
attribute [local go_sem] max2_int min2_int max_two min_two max_three min_three max_four min_four   -- for this text's walks alone
mutual
def exerguelaw12_PlurNames.j0:Nat→Int→List (S68)→Bool→Int→Bool→Bool→Option (Bool)
 | 0,_,_,_,_,_,_=>none
 | k+1,x0,x1,x5,x6,x7,x8=>if (x7 != x8)=true then (exerguelaw12_PlurNames.j1 k x1 x5 true) else (if x8=true then (if x6=x0 then (exerguelaw12_PlurNames.j1 k x1 x5 false) else (exerguelaw12_PlurNames.j1 k x1 x5 true)) else ((plur_Name.f x0).bind fun ax=>(exerguelaw12_PlurNames.j1 k x1 x5 (ax.toList != ([]:List UInt8)))))
def exerguelaw12_PlurNames.j1:Nat→List (S68)→Bool→Bool→Option (Bool)
 | 0,_,_,_=>none
 | k+1,x1,x5,x51=>if x51=true then (none) else ((plur_Read.f k x1).bind fun ab=>(if ab.2.2=0 then (if x5=true then ((exergueref12_Right.f k ab.1).bind fun aG=>(if aG=true then (if (ab.1.length:Int)=(x1.length:Int) then (some (ab.2.1 == 0)) else (none)) else (none))) else (none)) else (if 0≤(mx (mn ab.2.1 (x1.length:Int)) 0) then (if (mx (mn ab.2.1 (x1.length:Int)) 0)≤(x1.length:Int) then ((plur_Read.f k (x1.take ((mx (mn ab.2.1 (x1.length:Int)) 0):Int).toNat)).bind fun ac=>(if x5=true then (if ab.2.1≥0 then (if ab.2.1<(x1.length:Int) then (if ac.2.2=0 then (if (ac.1.length:Int)=ab.2.1 then (some ((ab.1.length:Int) == 0)) else (none)) else (none)) else (none)) else (none)) else (none))) else (none)) else (none))))
end
def exerguelaw12_PlurNames.f (k:Nat)(a0:Int)(l1:List (S68)):Option (Bool):=(exerguelaw12_shown.f k).bind fun ad=>((exerguelaw12_short.f k l1).bind fun ay=>(if ay=true then ((plur_Name.f a0).bind fun aq=>((plur_Cat.f aq).bind fun af=>(if a0≥0 then (exerguelaw12_PlurNames.j0 k a0 l1 ad af.1 af.2 (decide (a0≤5))) else (exerguelaw12_PlurNames.j0 k a0 l1 ad af.1 af.2 false)))) else (some ad)))
theorem exerguelaw12_PlurNames.mono_l:∀ k,(∀ y0 y1 y2 y3 y4 y5,LeO (exerguelaw12_PlurNames.j0 k y0 y1 y2 y3 y4 y5) (exerguelaw12_PlurNames.j0 (k+1) y0 y1 y2 y3 y4 y5))∧(∀ y0 y1 y2,LeO (exerguelaw12_PlurNames.j1 k y0 y1 y2) (exerguelaw12_PlurNames.j1 (k+1) y0 y1 y2))
 | 0=>⟨fun _ _ _ _ _ _ r h=>by simp [exerguelaw12_PlurNames.j0] at h,fun _ _ _ r h=>by simp [exerguelaw12_PlurNames.j1] at h⟩
 | k+1=>by
  obtain ⟨ih0,ih1⟩:=exerguelaw12_PlurNames.mono_l k
  refine ⟨?_,?_⟩
  ·intro y0 y1 y2 y3 y4 y5
   unfold exerguelaw12_PlurNames.j0
   repeat' first|(with_reducible first|apply ih0|apply ih1|apply exerguelaw12_short.mono|apply exerguelaw12_shown.mono|apply exergueref12_Right.mono|apply plur_Read.mono|apply LeO.refl|apply LeO.none|refine LeO.ite ?_ ?_|refine LeO.bind ?_ (fun _=>?_))|apply ih0|apply ih1|apply exerguelaw12_short.mono|apply exerguelaw12_shown.mono|apply exergueref12_Right.mono|apply plur_Read.mono|apply LeO.none
  ·intro y0 y1 y2
   unfold exerguelaw12_PlurNames.j1
   repeat' first|(with_reducible first|apply ih0|apply ih1|apply exerguelaw12_short.mono|apply exerguelaw12_shown.mono|apply exergueref12_Right.mono|apply plur_Read.mono|apply LeO.refl|apply LeO.none|refine LeO.ite ?_ ?_|refine LeO.bind ?_ (fun _=>?_))|apply ih0|apply ih1|apply exerguelaw12_short.mono|apply exerguelaw12_shown.mono|apply exergueref12_Right.mono|apply plur_Read.mono|apply LeO.none
theorem exerguelaw12_PlurNames.mono:∀ a0 a1 k,LeO (exerguelaw12_PlurNames.f k a0 a1) (exerguelaw12_PlurNames.f (k+1) a0 a1):=by
 intro a0 a1 k
 obtain ⟨ih0,ih1⟩:=exerguelaw12_PlurNames.mono_l k
 unfold exerguelaw12_PlurNames.f
 repeat' first|(with_reducible first|apply ih0|apply ih1|apply exerguelaw12_short.mono|apply exerguelaw12_shown.mono|apply exergueref12_Right.mono|apply plur_Read.mono|apply LeO.refl|apply LeO.none|refine LeO.ite ?_ ?_|refine LeO.bind ?_ (fun _=>?_))|apply ih0|apply ih1|apply exerguelaw12_short.mono|apply exerguelaw12_shown.mono|apply exergueref12_Right.mono|apply plur_Read.mono|apply LeO.none
set_option maxHeartbeats 8000000 in
set_option maxRecDepth 100000 in
theorem exerguelaw12_PlurNames.calls (k:Nat)(a0:Int)(A1:Option Addr)(c1:Nat)(l1:List (S68))(r:Bool)(w:World)(hG:GL w)(hr1:Kd.C k68 w A1 l1.length l1)(hc1:l1.length≤c1)(h:exerguelaw12_PlurNames.f k a0 l1=some r) :
  Calls Tryz.prog 3 #[.int .i64 a0,.slice A1 l1.length c1] w fun e w'=>e = .returned (.bool r)∧Below w.heap.size w w':=by
 have HR1:=zS hr1
 have HC1:=zS hc1
 clear hr1 hc1
 have HB:=zS (Below.refl w.heap.size w)
 have HG:=zS hG
 clear hG
 have H:((exerguelaw12_shown.f k).bind fun ad=>((exerguelaw12_short.f k l1).bind fun ay=>(if ay=true then ((plur_Name.f a0).bind fun aq=>((plur_Cat.f aq).bind fun af=>(if a0≥0 then (exerguelaw12_PlurNames.j0 k a0 l1 ad af.1 af.2 (decide (a0≤5))) else (exerguelaw12_PlurNames.j0 k a0 l1 ad af.1 af.2 false)))) else (some ad))))=some r:=h
 clear h
 replace H:=Option.bind_eq_some_iff.mp H
 obtain ⟨ad,A30,H⟩:=H
 try dsimp only at H
 have A3:=zS A30
 clear A30
 replace H:=Option.bind_eq_some_iff.mp H
 obtain ⟨ay,A40,H⟩:=H
 try dsimp only at H
 have A4:=zS A40
 clear A40
 by_cases c5:ay=true
 rotate_left
 ·replace c5:=Bool.eq_false_iff.mpr c5
  subst c5
  rw [if_neg (show ¬ (false=true) by decide)] at H
  obtain rfl:=zE H
  go_enter Tryz.func3,Tryz.ntmps3
  go_wp2_with (first|((with_reducible refine gate_callee (f:=14) rfl ?_);refine gL (some 15) Tryz.func14 #[] ?_;(with_reducible refine (exerguelaw12_shown.calls k  ad _ ?side1 A3.out).mono ?_);(case side1=>refine GL.below HG.out ?_;exact bQ HB);rintro e w44 ⟨rfl,hb⟩;refine ⟨_,rfl,?_⟩;replace HB:=bs HB hb;(try clear hb))|((with_reducible refine gate_callee (f:=15) rfl ?_);refine gL (some 17) Tryz.func15 #[.slice A1 l1.length c1] ?_;(with_reducible refine (exerguelaw12_short.calls k _ _ l1 false _ (cb HR1 HB) HC1.out A4.out).mono ?_);rintro e w' ⟨rfl,⟨nd,rfl⟩⟩;refine ⟨_,rfl,?_⟩))
  go_ret
  exact ⟨by first|rfl|(simp <;> rfl)|(simp [*] <;> rfl),bQ HB⟩
 subst c5
 rw [if_pos rfl] at H
 replace H:=Option.bind_eq_some_iff.mp H
 obtain ⟨aq,A60,H⟩:=H
 try dsimp only at H
 have A6:=zS A60
 clear A60
 replace H:=Option.bind_eq_some_iff.mp H
 obtain ⟨⟨ar,aj⟩,A70,H⟩:=H
 try dsimp only at H
 have A7:=zS A70
 clear A70
 have HC8:=zS H
 clear H
 go_enter Tryz.func3,Tryz.ntmps3
 go_upto_region 5 with (first|((with_reducible refine gate_callee (f:=14) rfl ?_);refine gL (some 15) Tryz.func14 #[] ?_;(with_reducible refine (exerguelaw12_shown.calls k  ad _ ?side1 A3.out).mono ?_);(case side1=>refine GL.below HG.out ?_;exact bQ HB);rintro e w9 ⟨rfl,hb⟩;refine ⟨_,rfl,?_⟩;replace HB:=bs HB hb;(try clear hb))|((with_reducible refine gate_callee (f:=15) rfl ?_);refine gL (some 17) Tryz.func15 #[.slice A1 l1.length c1] ?_;(with_reducible refine (exerguelaw12_short.calls k _ _ l1 true _ (cb HR1 HB) HC1.out A4.out).mono ?_);rintro e w' ⟨rfl,⟨nd,rfl⟩⟩;refine ⟨_,rfl,?_⟩)|((with_reducible refine gate_callee (f:=17) rfl ?_);refine gL (some 22) Tryz.func17 #[.int .i64 a0] ?_;(with_reducible refine (plur_Name.calls a0 aq _ A6.out).mono ?_);rintro e w10 ⟨rfl,hb⟩;refine ⟨_,rfl,?_⟩;replace HB:=bs HB hb;(try clear hb);(try clear hb2);(try clear hk);(try clear hi))|((with_reducible refine gate_callee (f:=16) rfl ?_);refine gL (some 23) Tryz.func16 #[.string aq] ?_;(with_reducible refine (plur_Cat.calls aq ar aj _ A7.out).mono ?_);rintro e w11 ⟨rfl,hb⟩;refine ⟨_,rfl,?_⟩;replace HB:=bs HB hb;(try clear hb);(try clear hb2);(try clear hk);(try clear hi)))
 (try simp only [Act.put,sA,sB,sC])
 go_cut [8] (fun v8 wc=>∃ (kq:Nat) (ag:Bool),v8 = .bool ag∧Sd (exerguelaw12_PlurNames.j0 kq a0 l1 ad ar aj ag=some r)∧Sd (kq≤k)∧Sd (Below w.heap.size w wc))
 case first=>
  have H:=HC8.out
  clear HC8
  by_cases c12:a0≥0
  ·rw [if_pos c12] at H
   have ah:decide (0≤a0)=true:=zC c12
   clear c12
   (first|rw [ah]|(simp only [i64_w,i32_w];rw [ah])|rw [aK]|skip)
   have H':=zS H
   clear H
   go_wp2
   go_meet
   case rel=>exact ⟨_,(decide (a0≤5)),(by first|rfl|(simp;done)|(simp [*];done)),H',⟨by first|omega|exact Nat.le_refl _⟩,⟨bQ HB⟩⟩
  rw [if_neg c12] at H
  have ah:decide (0≤a0)=false:=zD c12
  clear c12
  (first|rw [ah]|(simp only [i64_w,i32_w];rw [ah])|rw [aK]|skip)
  have H':=zS H
  clear H
  go_wp2
  go_meet
  case rel=>exact ⟨_,(false),(by first|rfl|(simp;done)|(simp [*];done)),H',⟨by first|omega|exact Nat.le_refl _⟩,⟨bQ HB⟩⟩
 case rest=>
  clear HC8
  try clear c1
  try clear p2
  try clear c3
  try clear c5
  try clear c12
  try clear ah
  obtain ⟨kq,ag,rfl,HA,HJ7,HB⟩:=hcut
  cases kq with
  | zero=>exact absurd HA.out (by simp [exerguelaw12_PlurNames.j0])
  | succ kj7=>
   have H:=HA.out
   clear HA
   simp only [exerguelaw12_PlurNames.j0] at H
   have aH:=zS H
   clear H
   go_upto_region 6 with (fail)
   go_cut [51] (fun v51 wc=>∃ (kq:Nat) (am:Bool),v51 = .bool am∧Sd (exerguelaw12_PlurNames.j1 kq l1 ad am=some r)∧Sd (kq≤kj7)∧Sd (Below w.heap.size w wc))
   case first=>
    have H:=aH.out
    clear aH
    by_cases c14:(aj != ag)=true
    ·rw [if_pos c14] at H
     have al:(aj != ag)=true:=c14
     (try (have aw:decide (aj=ag)=false:=by simpa using c14))
     (try (have aC:(aj == ag)=false:=by simpa using c14))
     (try (have a3:¬ (aj=ag):=by simpa using c14))
     clear c14
     (first|rw [al]|(simp only [i64_w,i32_w];rw [al])|rw [aw]|skip)
     have H':=zS H
     clear H
     go_wp2
     go_meet
     case rel=>exact ⟨_,(true),(by first|rfl|(simp;done)|(simp [*];done)),H',⟨by have:=HJ7.out;first|omega|exact Nat.le_refl _⟩,⟨bQ HB⟩⟩
    rw [if_neg c14] at H
    have al:(aj != ag)=false:=by simpa using c14
    (try (have aw:decide (aj=ag)=true:=by simpa using c14))
    (try (have aC:(aj == ag)=true:=by simpa using c14))
    clear c14
    (first|rw [al]|(simp only [i64_w,i32_w];rw [al])|rw [aw]|skip)
    by_cases c15:ag=true
    ·subst c15
     rw [if_pos rfl] at H
     by_cases c16:ar=a0
     ·rw [if_pos c16] at H
      have aD:(ar == a0)=true:=zH c16
      have aE:(ar != a0)=false:=zG c16
      clear c16
      have H':=zS H
      clear H
      go_wp2
      go_meet
      case rel=>exact ⟨_,(false),(by first|rfl|(simp;done)|(simp [*];done)),H',⟨by have:=HJ7.out;first|omega|exact Nat.le_refl _⟩,⟨bQ HB⟩⟩
     rw [if_neg c16] at H
     have aD:(ar == a0)=false:=zF c16
     have aE:(ar != a0)=true:=zI c16
     have H':=zS H
     clear H
     go_wp2
     go_meet
     case rel=>exact ⟨_,(true),(by first|rfl|(simp;done)|(simp [*];done)),H',⟨by have:=HJ7.out;first|omega|exact Nat.le_refl _⟩,⟨bQ HB⟩⟩
    replace c15:=Bool.eq_false_iff.mpr c15
    subst c15
    rw [if_neg (show ¬ (false=true) by decide)] at H
    replace H:=Option.bind_eq_some_iff.mp H
    obtain ⟨ax,aL,H⟩:=H
    try dsimp only at H
    have A17:=zS aL
    clear aL
    have H':=zS H
    clear H
    go_wp2_with (first|(go_at_call 17;(with_reducible refine (plur_Name.calls a0 ax _ A17.out).mono ?_);rintro e w18 ⟨rfl,hb⟩;replace HB:=bs HB hb;(try clear hb)))
    go_meet
    case rel=>exact ⟨_,((ax.toList != ([]:List UInt8))),(by first|rfl|(simp;done)|(simp [*];done)|(simp;generalize ax.toList=q_;cases q_ <;> rfl)),H',⟨by have:=HJ7.out;first|omega|exact Nat.le_refl _⟩,⟨bQ HB⟩⟩
   case rest=>
    clear aH
    try clear c1
    try clear p2
    try clear c3
    try clear c5
    try clear c12
    try clear ah
    try clear c14
    try clear al
    try clear aw
    try clear aC
    try clear c15
    try clear c16
    try clear aD
    try clear aE
    try clear c17
    try clear p2
    obtain ⟨kq,am,rfl,HA,HJ12,HB⟩:=hcut
    cases kq with
    | zero=>exact absurd HA.out (by simp [exerguelaw12_PlurNames.j1])
    | succ kj12=>
     have H:=HA.out
     clear HA
     simp only [exerguelaw12_PlurNames.j1] at H
     by_cases c19:am=true
     ·subst c19
      rw [if_pos rfl] at H
      exact absurd H (by simp)
     replace c19:=Bool.eq_false_iff.mpr c19
     subst c19
     rw [if_neg (show ¬ (false=true) by decide)] at H
     replace H:=Option.bind_eq_some_iff.mp H
     obtain ⟨⟨ak,aa,au⟩,aM,H⟩:=H
     try dsimp only at H
     have A20:=zS aM
     clear aM
     by_cases c21:au=0
     ·rw [if_pos c21] at H
      have aN:(au == 0)=true:=zH c21
      have aO:(au != 0)=false:=zG c21
      clear c21
      by_cases c22:ad=true
      rotate_left
      ·replace c22:=Bool.eq_false_iff.mpr c22
       subst c22
       rw [if_neg (show ¬ (false=true) by decide)] at H
       exact absurd H (by simp)
      subst c22
      rw [if_pos rfl] at H
      replace H:=Option.bind_eq_some_iff.mp H
      obtain ⟨aG,aP,H⟩:=H
      try dsimp only at H
      have A23:=zS aP
      clear aP
      by_cases c24:aG=true
      ·subst c24
       rw [if_pos rfl] at H
       by_cases c25:(ak.length:Int)=(l1.length:Int)
       ·rw [if_pos c25] at H
        have a4:((ak.length:Int) == (l1.length:Int))=true:=zH c25
        have a5:((ak.length:Int) != (l1.length:Int))=false:=zG c25
        have a6:(ak.length == l1.length)=true:=by first|simpa using c25|(simp at c25 ⊢;omega)
        clear c25
        obtain rfl:=zE H
        go_wp2_with (first|((with_reducible refine gate_callee (f:=18) rfl ?_);refine gL (some 54) Tryz.func18 #[.slice A1 l1.length c1] ?_;(with_reducible refine (plur_Read.calls kj12 _ _ l1 ak aa au _ ?side3 (cb HR1 HB) HC1.out A20.out).mono ?_);(case side3=>refine GL.below HG.out ?_;exact bQ HB);rintro e w26 ⟨aU,rfl,ho0,hb⟩;refine ⟨_,rfl,?_⟩;have ae:=zS (Kd.R_lower ho0 (bz HB));replace HB:=bs HB hb;(try clear hb);(try clear ho0);obtain ⟨bi,bj,aV⟩:=Kd.R_slice ae.out;subst aV)|(go_at_call 19;(with_reducible refine (exergueref12_Right.calls kj12 _ _ ak true _ (rc ae) (rl ae) A23.out).mono ?_);rintro e w28 ⟨rfl,hb⟩;replace ae:=rb ae hb;replace HB:=bs HB hb;(try clear hb);(try clear hb2);(try clear hk);(try clear hi)))
        go_ret
        exact ⟨by first|rfl|(simp <;> rfl)|(simp [*] <;> rfl),bQ HB⟩
       rw [if_neg c25] at H
       exact absurd H (by simp)
      replace c24:=Bool.eq_false_iff.mpr c24
      subst c24
      rw [if_neg (show ¬ (false=true) by decide)] at H
      exact absurd H (by simp)
     rw [if_neg c21] at H
     have aN:(au == 0)=false:=zF c21
     have aO:(au != 0)=true:=zI c21
     obtain ⟨av,an⟩:∃ j_:Int,(mn aa (l1.length:Int))=j_:=⟨_,rfl⟩
     replace H:(if 0≤(mx (av) 0) then (if (mx (av) 0)≤(l1.length:Int) then ((plur_Read.f kj12 (l1.take ((mx (av) 0):Int).toNat)).bind fun ac=>(if ad=true then (if aa≥0 then (if aa<(l1.length:Int) then (if ac.2.2=0 then (if (ac.1.length:Int)=aa then (some ((ak.length:Int) == 0)) else (none)) else (none)) else (none)) else (none)) else (none))) else (none)) else (none))=some r:=by first|(rw [an] at H;exact H)|(simp only [an] at H ⊢;exact H)
     (try rw [an] at A20)
     have aW:(if (l1.length:Int)<aa then (l1.length:Int) else aa)=av:=an
     obtain ⟨ai,ao⟩:∃ j_:Int,(mx (av) 0)=j_:=⟨_,rfl⟩
     replace H:(if 0≤(ai) then (if (ai)≤(l1.length:Int) then ((plur_Read.f kj12 (l1.take ((ai):Int).toNat)).bind fun ac=>(if ad=true then (if aa≥0 then (if aa<(l1.length:Int) then (if ac.2.2=0 then (if (ac.1.length:Int)=aa then (some ((ak.length:Int) == 0)) else (none)) else (none)) else (none)) else (none)) else (none))) else (none)) else (none))=some r:=by first|(rw [ao] at H;exact H)|(simp only [ao] at H ⊢;exact H)
     (try rw [ao] at A20)
     have aX:(if (av)<0 then 0 else (av))=ai:=ao
     by_cases c31:0≤(ai)
     rotate_left
     ·rw [if_neg c31] at H
      exact absurd H (by simp)
     rw [if_pos c31] at H
     have a7:=eq_true c31
     have a8:=zC c31
     clear c31
     by_cases c32:(ai)≤(l1.length:Int)
     rotate_left
     ·rw [if_neg c32] at H
      exact absurd H (by simp)
     rw [if_pos c32] at H
     have a9:=eq_true c32
     have ba:=zC c32
     clear c32
     obtain ⟨az,ap⟩:∃ y_:List (S68),y_=(l1.take ((ai):Int).toNat):=⟨_,rfl⟩
     replace H:((plur_Read.f kj12 az).bind fun ac=>(if ad=true then (if aa≥0 then (if aa<(l1.length:Int) then (if ac.2.2=0 then (if (ac.1.length:Int)=aa then (some ((ak.length:Int) == 0)) else (none)) else (none)) else (none)) else (none)) else (none)))=some r:=by first|(rw [ap];with_reducible exact H)|(have H2_:=(Option.bind_some _ _).symm.trans H;rw [ap];with_reducible exact H2_)|(have H2_:=(Option.bind_some _ _).symm.trans H;with_reducible exact H2_)|with_reducible exact H|(rw [ap];exact H)|exact H
     have aF:=zS ap
     clear ap
     replace H:=Option.bind_eq_some_iff.mp H
     obtain ⟨⟨aA,aY,aB⟩,aQ,H⟩:=H
     try dsimp only at H
     have A33:=zS aQ
     clear aQ
     by_cases c34:ad=true
     rotate_left
     ·replace c34:=Bool.eq_false_iff.mpr c34
      subst c34
      rw [if_neg (show ¬ (false=true) by decide)] at H
      exact absurd H (by simp)
     subst c34
     rw [if_pos rfl] at H
     by_cases c35:aa≥0
     rotate_left
     ·rw [if_neg c35] at H
      exact absurd H (by simp)
     rw [if_pos c35] at H
     have bb:decide (0≤aa)=true:=zC c35
     clear c35
     by_cases c36:aa<(l1.length:Int)
     rotate_left
     ·rw [if_neg c36] at H
      exact absurd H (by simp)
     rw [if_pos c36] at H
     have bc:=zC c36
     clear c36
     by_cases c37:aB=0
     rotate_left
     ·rw [if_neg c37] at H
      exact absurd H (by simp)
     rw [if_pos c37] at H
     have bd:(aB == 0)=true:=zH c37
     have be:(aB != 0)=false:=zG c37
     clear c37
     by_cases c38:(aA.length:Int)=aa
     ·rw [if_pos c38] at H
      have bf:((aA.length:Int) == aa)=true:=zH c38
      have bh:((aA.length:Int) != aa)=false:=zG c38
      clear c38
      obtain rfl:=zE H
      go_wp2_with (first|((with_reducible refine gate_callee (f:=18) rfl ?_);refine gL (some 54) Tryz.func18 #[.slice A1 l1.length c1] ?_;(with_reducible refine (plur_Read.calls kj12 _ _ l1 ak aa au _ ?side3 (cb HR1 HB) HC1.out A20.out).mono ?_);(case side3=>refine GL.below HG.out ?_;exact bQ HB);rintro e w39 ⟨aU,rfl,ho0,hb⟩;refine ⟨_,rfl,?_⟩;have ae:=zS (Kd.R_lower ho0 (bz HB));replace HB:=bs HB hb;(try clear hb);(try clear ho0);have q40:((ai):Int)≤((l1.length:Int):Int):=zB (by first|(with_reducible assumption)|assumption);obtain ⟨i040,hi040,_,hsz40,_⟩:=info_parts info68;have hroom40:l1.length≤c1:=HC1.out;have hC40:Kd.C k68 _ A1 l1.length l1:=HR1.out;have hcut40:=cut_to (P:=Tryz.prog) 22 68 .i64 Tryz.underlying22 hi040 A1 l1.length c1 (ai) (zB (by first|(with_reducible assumption)|assumption)) q40 hroom40;have aI:=Kd.C_take (m:=((ai):Int).toNat) hC40 (by omega);have aJ:az.length=((ai):Int).toNat:=(by rw [aF.out,List.length_take];omega);rw [← aF.out] at aI;rw [← aJ] at hcut40;have aR:=zS aI;have aS:=zS (show az.length≤c1 from by omega);clear aI hC40 hroom40 hi040 hsz40;have KY40:=zS aJ;clear aJ;replace q40:=eq_true q40)|((with_reducible refine gate_callee (f:=18) rfl ?_);refine gL (some 68) Tryz.func18 #[.slice A1 az.length c1] ?_;(with_reducible refine (plur_Read.calls kj12 _ _ az aA aY aB _ ?side3 (cb aR HB) aS.out A33.out).mono ?_);(case side3=>refine GL.below HG.out ?_;exact bQ HB);rintro e w41 ⟨bk,rfl,ho0,hb⟩;refine ⟨_,rfl,?_⟩;have aT:=zS (Kd.R_lower (Kd.R_new' ho0 (Kd.R_lt (ro ae))) (bz HB));replace ae:=zS (Kd.R_elder' (ro ae) (Kd.R_base ho0) hb);replace HB:=bs HB hb;(try clear hb);(try clear ho0);obtain ⟨bm,bn,aZ⟩:=Kd.R_slice aT.out;subst aZ;obtain ⟨bo,bp,a2⟩:=Kd.R_slice ae.out;subst a2))
      go_ret
      exact ⟨by first|rfl|(simp <;> rfl)|(simp only [← an,← ao];first|rfl|(simp <;> rfl))|(simp [*] <;> rfl),bQ HB⟩
     rw [if_neg c38] at H
     exact absurd H (by simp)
end Go.Proofs.YtgfajgkjbckkgaaGreatDoor.PZ
end
end
section
set_option maxRecDepth 100000
namespace Go.Proofs.YtgfajgkjbckkgaaGreatDoor.PZ
open Go.RowKit Go.Proofs.YtgfajgkjbckkgaaGreatDoorW.PrintWords Go.Proofs.YtgfajgkjbckkgaaGreatDoorW.PrintLast
abbrev Tx:=S68
def nextB (last cat:Int):Bool:=decide (last<cat) && decide (cat≤5)
theorem next_f (a b:Int):plur_next.f a b=some (nextB a b):=by
 unfold plur_next.f nextB
 by_cases h:b>a
 · rw [if_pos h,zC (show a<b from h),Bool.true_and]
 rw [if_neg h,zD (show ¬ a<b from h),Bool.false_and]
theorem rd65 {l:List Ru}{i:Nat}(h:i<l.length):rd_T65 l (i:Int)=l[i]:=by
 unfold rd_T65
 simp [List.getD_eq_getElem?_getD,List.getElem?_eq_getElem h]
theorem rd68 {l:List Tx}{i:Nat}(h:i<l.length):rd_T68 l (i:Int)=l[i]:=by
 unfold rd_T68
 simp [List.getD_eq_getElem?_getD,List.getElem?_eq_getElem h]
def rightR:Int→List Ru→Bool
  | _,[]=>true
  | last,x :: l=>nextB last x.f0 && (rightP x.f1 && rightR x.f0 l)
theorem right_l0 {l:List Ru}(hl:∀ x ∈ l,TxtOk x.f1)(hn:l.length≤140737488355328)(n:Nat):∀ (i:Nat) (last:Int),i+n=l.length→Ev (fun k=>plur_Right.l0 k last l (l.length:Int) (i:Int)) (rightR last (l.drop i)):=by
 induction n with
 | zero=>
  intro i last hi
  have q1:¬ ((i:Nat):Int)<(l.length:Int):=by omega
  refine Ev_shift ?_
  simp only [plur_Right.l0,if_neg q1]
  rw [List.drop_of_length_le (by omega)]
  exact Ev.now _
 | succ n ih=>
  intro i last hi
  have hlt:i<l.length:=by omega
  have q1:((i:Nat):Int)<(l.length:Int):=by omega
  have q2:(0:Int)≤(i:Int):=by omega
  have wi:wrap64 ((i:Int)+1)=((i+1:Nat):Int):=by rw [w64 _ (by omega) (by omega)];omega
  refine Ev_shift ?_
  simp only [plur_Right.l0,if_pos q1,if_pos q2,rd65 hlt,next_f,Option.bind_some,wi]
  rw [drop_get hlt]
  simp only [rightR]
  cases hb:nextB last (l[i]).f0 with
  | false=>simp only [Bool.false_eq_true,if_false,Bool.false_and];exact Ev.now _
  | true=>
   simp only [if_true,Bool.true_and]
   refine Ev.bind (ruleRight11 (hl _ (List.getElem_mem hlt))) ?_
   cases hr:rightP (l[i]).f1 with
   | false=>simp only [Bool.false_eq_true,if_false,Bool.false_and];exact Ev.now _
   | true=>
    simp only [if_true,Bool.true_and]
    exact ih (i+1) _ (by omega)
theorem plurRight_ev {l:List Ru}(hl:∀ x ∈ l,TxtOk x.f1)(hn:l.length≤140737488355328):Ev (fun k=>plur_Right.f k l) (rightR 0 l):=by
 unfold plur_Right.f
 have:=right_l0 hl hn l.length 0 0 (by omega)
 rw [List.drop_zero] at this
 exact this
def readR:Int→Nat→List Ru→List Tx→List Ru×Int×Int
  | _,_,acc,[]=>(acc,0,0)
  | last,i,acc,x :: l=>if nextB last x.f0=true then (if (parseP (bytesOf x.f1)).2.2=0∧rightP (parseP (bytesOf x.f1)).1=true then readR x.f0 (i+1) (acc ++ [⟨x.f0,(parseP (bytesOf x.f1)).1⟩]) l else ([],(i:Int),2)) else ([],(i:Int),1)
theorem read_l0 {l:List Tx}(hl:∀ x ∈ l,x.f1.size≤140737488351232)(hn:l.length≤1000000)(n:Nat):∀ (i:Nat) (last:Int) (acc:List Ru),i+n=l.length→acc.length≤i→Ev (fun k=>plur_Read.l0 k acc last l (l.length:Int) (i:Int)) (readR last i acc (l.drop i)):=by
 induction n with
 | zero=>
  intro i last acc hi _
  have q1:¬ ((i:Nat):Int)<(l.length:Int):=by omega
  refine Ev_shift ?_
  simp only [plur_Read.l0,if_neg q1]
  rw [List.drop_of_length_le (by omega)]
  exact Ev.now _
 | succ n ih=>
  intro i last acc hi hacc
  have hlt:i<l.length:=by omega
  have q1:((i:Nat):Int)<(l.length:Int):=by omega
  have q2:(0:Int)≤(i:Int):=by omega
  have q3:acc.length<4398046511104:=by omega
  have wi:wrap64 ((i:Int)+1)=((i+1:Nat):Int):=by rw [w64 _ (by omega) (by omega)];omega
  refine Ev_shift ?_
  simp only [plur_Read.l0,if_pos q1,if_pos q2,rd68 hlt,next_f,Option.bind_some,wi]
  rw [drop_get hlt]
  simp only [readR]
  cases hb:nextB last (l[i]).f0 with
  | false=>simp only [Bool.false_eq_true,if_false];exact Ev.now _
  | true=>
   simp only [if_true,parse_f (hl _ (List.getElem_mem hlt)),Option.bind_some]
   have hg:=parse_good (bytesOf (l[i]).f1)
   by_cases he:(parseP (bytesOf (l[i]).f1)).2.2=0
   ·simp only [if_pos he]
    refine Ev.bind (ruleRight11 hg.txt) ?_
    by_cases hr:rightP (parseP (bytesOf (l[i]).f1)).1=true
    ·simp only [if_pos hr,if_pos q3,if_pos (show (parseP (bytesOf (l[i]).f1)).2.2=0∧rightP (parseP (bytesOf (l[i]).f1)).1=true from ⟨he,hr⟩)]
     exact ih (i+1) _ _ (by omega) (by rw [List.length_append];simp;omega)
    simp only [if_neg hr,if_neg (show ¬ ((parseP (bytesOf (l[i]).f1)).2.2=0∧rightP (parseP (bytesOf (l[i]).f1)).1=true) from fun h=>hr h.2)]
    exact Ev.now _
   simp only [if_neg he,if_neg (show ¬ ((parseP (bytesOf (l[i]).f1)).2.2=0∧rightP (parseP (bytesOf (l[i]).f1)).1=true) from fun h=>he h.1)]
   exact Ev.now _
theorem plurRead_ev {l:List Tx}(hl:∀ x ∈ l,x.f1.size≤140737488351232)(hn:l.length≤1000000):Ev (fun k=>plur_Read.f k l) (readR 0 0 [] l):=by
 unfold plur_Read.f
 have:=read_l0 hl hn l.length 0 0 [] (by omega) (by simp)
 rw [List.drop_zero] at this
 exact this
theorem readR_ok:∀ (l:List Tx) (last:Int) (i:Nat) (acc:List Ru),(readR last i acc l).2.2=0→(readR last i acc l).2.1=0∧∃ m,(readR last i acc l).1=acc ++ m∧m.map (·.f0)=l.map (·.f0)∧rightR last m=true∧∀ x ∈ m,GoodC x.f1
  | [],last,i,acc,_=>⟨rfl,[],by simp [readR],rfl,rfl,by simp⟩
  | x :: l,last,i,acc,h=>by
    simp only [readR] at h ⊢
    by_cases h1:nextB last x.f0=true
    · by_cases h2:(parseP (bytesOf x.f1)).2.2=0∧rightP (parseP (bytesOf x.f1)).1=true
      · simp only [if_pos h1,if_pos h2] at h ⊢
        obtain ⟨g1,m,g2,g3,g4,g5⟩:=readR_ok l _ _ _ h
        refine ⟨g1,⟨x.f0,(parseP (bytesOf x.f1)).1⟩ :: m,by rw [g2];simp,by simp [g3],by simp only [rightR,h1,h2.2,g4,Bool.and_self],?_⟩
        intro y hy
        rcases List.mem_cons.1 hy with rfl|hy
        · exact parse_good _
        · exact g5 y hy
      · simp only [if_pos h1,if_neg h2] at h;cases h
    · simp only [if_neg h1] at h;cases h
theorem readR_bad:∀ (l:List Tx) (last:Int) (i:Nat) (acc:List Ru),(readR last i acc l).2.2≠0→(readR last i acc l).1=[]∧∃ j:Nat,j<l.length∧(readR last i acc l).2.1=((i+j:Nat):Int)∧(readR last i acc (l.take j)).2.2=0∧(readR last i acc (l.take j)).1.length=acc.length+j
  | [],last,i,acc,h=>by simp [readR] at h
  | x :: l,last,i,acc,h=>by
    simp only [readR] at h ⊢
    by_cases h1:nextB last x.f0=true
    · by_cases h2:(parseP (bytesOf x.f1)).2.2=0∧rightP (parseP (bytesOf x.f1)).1=true
      · simp only [if_pos h1,if_pos h2] at h ⊢
        obtain ⟨g1,j,g2,g3,g4,g5⟩:=readR_bad l _ _ _ h
        refine ⟨g1,j+1,by simp;omega,by rw [g3];omega,?_,?_⟩
        · simp only [List.take_succ_cons,readR,if_pos h1,if_pos h2];exact g4
        · simp only [List.take_succ_cons,readR,if_pos h1,if_pos h2];rw [g5];simp;omega
      · simp only [if_pos h1,if_neg h2]
        exact ⟨by simp,0,by simp,by simp,by simp [readR],by simp [readR]⟩
    · simp only [if_neg h1]
      exact ⟨by simp,0,by simp,by simp,by simp [readR],by simp [readR]⟩
theorem short12_ev {l:List Tx}(hl:∀ x ∈ l,x.f1.size≤140737488351232)(hn:l.length≤140737488355328):∃ R,Ev (fun k=>exerguelaw12_short.f k l) R∧(R=true→l.length≤8∧∀ x ∈ l,x.f1.size≤500):=by
 unfold exerguelaw12_short.f
 have:∀ (n i:Nat),i+n=l.length→i≤8→(∀ x ∈ l.take i,x.f1.size≤500)→∃ R,Ev (fun k=>exerguelaw12_short.l0 k l (i:Int)) R∧(R=true→l.length≤8∧∀ x ∈ l,x.f1.size≤500):=by
  intro n
  induction n with
  | zero=>
   intro i hi h8 hs
   have q1:¬ ((i:Nat):Int)<(l.length:Int):=by omega
   rw [List.take_of_length_le (by omega)] at hs
   refine ⟨true,Ev_shift ?_,fun _=>⟨by omega,hs⟩⟩
   simp only [exerguelaw12_short.l0,if_neg q1]
   exact Ev.now _
  | succ n ih=>
   intro i hi h8 hs
   have hlt:i<l.length:=by omega
   have q1:((i:Nat):Int)<(l.length:Int):=by omega
   have q2:(0:Int)≤(i:Int):=by omega
   have wi:wrap64 ((i:Int)+1)=((i+1:Nat):Int):=by rw [w64 _ (by omega) (by omega)];omega
   by_cases h9:(i:Int)≥8
   ·refine ⟨false,Ev_shift ?_,fun h=>by cases h⟩
    simp only [exerguelaw12_short.l0,if_pos q1,if_pos h9]
    exact Ev.now _
   by_cases hb:((l[i]).f1.size:Int)>500
   ·refine ⟨false,Ev_shift ?_,fun h=>by cases h⟩
    simp only [exerguelaw12_short.l0,if_pos q1,if_neg h9,if_pos q2,rd68 hlt,if_pos hb]
    exact Ev.now _
   obtain ⟨R,hR1,hR2⟩:=ih (i+1) (by omega) (by omega) (fun x hx=>by
    rw [List.take_succ_eq_append_getElem hlt] at hx
    rcases List.mem_append.1 hx with hx|hx
    · exact hs x hx
    rw [List.mem_singleton.1 hx];omega)
   refine ⟨R,Ev_shift ?_,hR2⟩
   simp only [exerguelaw12_short.l0,if_pos q1,if_neg h9,if_pos q2,rd68 hlt,if_neg hb,wi]
   exact hR1
 exact this l.length 0 (by omega) (by omega) (by simp)
def catX (i f:List Int)(w c:Int)(l:List Ru):Int:=(hlist (fun x=>condX i f w c x.f1) l).headD 0
theorem plurOf_f {i f:List Int}{w c:Int}(h:OpOk i f w c){l:List Ru}(hx:∀ x ∈ l,GoodC x.f1):plur_Of.f l i f w c=some (catX i f w c l):=by
 have e:∀ x ∈ l,rule_Holds.f x.f1 i f w c=some (condX i f w c x.f1):=fun x hl=>holds_f h (hx x hl).num
 unfold plur_Of.f
 rw [if_pos (fun x hl=>by rw [e x hl];rfl)]
 congr 1
 unfold catX hlist
 congr 2
 refine List.filter_congr (fun x hl=>?_)
 rw [e x hl]
 simp
theorem rightR_good:∀ {l:List Ru} {last:Int},rightR last l=true→∀ x ∈ l,GoodC x.f1
  | [],_,_,_,h=>by cases h
  | y :: l,last,h,x,hx=>by
    simp only [rightR,Bool.and_eq_true] at h
    rcases List.mem_cons.1 hx with rfl|hx
    · exact right_good h.2.1
    · exact rightR_good h.2.2 x hx
def sh12:List Ru:=[⟨2,[[⟨110,0,false,[⟨1,1⟩]⟩]]⟩]
theorem sh12_text:condT [32] [[⟨110,0,false,[⟨1,1⟩]⟩]]=[110,32,61,32,49]:=by
 unfold condT rowT relT rgT joinT
 simp only [List.map_cons,List.map_nil,pw_dig (show (0:Int)≤1 by decide) (by decide)]
 decide
theorem sh12_parse:parseP [110,32,61,32,49]=([[⟨110,0,false,[⟨1,1⟩]⟩]],0,0):=by decide +kernel
theorem sh12_right:rightP [[⟨110,0,false,[⟨1,1⟩]⟩]]=true:=by
 unfold rightP
 rw [sh12_text,sh12_parse]
 decide
theorem sh12_read:readR 0 0 [] [(⟨2,(⟨#[110,32,61,32,49]⟩:ByteArray)⟩:Tx)]=(sh12,0,0):=by
 have e:bytesOf (⟨#[110,32,61,32,49]⟩:ByteArray)=[110,32,61,32,49]:=by decide
 have h1:nextB 0 2=true:=by decide
 simp only [readR,h1,if_true,e,sh12_parse,sh12_right,and_self,List.nil_append]
 rfl
theorem sh12_rightR:rightR 0 sh12=true:=by
 simp only [rightR,sh12,sh12_right]
 decide
theorem shown12_ev:Ev (fun k=>exerguelaw12_shown.f k) true:=by
 have hg:=rightR_good sh12_rightR
 have h1:=plurOf_f (op_ok [1] (by simp)) hg
 have h2:=plurOf_f (op_ok [2] (by simp)) hg
 rw [show catX [1] [] 0 0 sh12=2 from by decide] at h1
 rw [show catX [2] [] 0 0 sh12=0 from by decide] at h2
 have q1:(sh12.length:Int)=1:=by decide
 have hread:=plurRead_ev (l:=[(⟨2,(⟨#[110,32,61,32,49]⟩:ByteArray)⟩:Tx)]) (by intro x hx;rw [List.mem_singleton.1 hx];decide) (by simp)
 rw [sh12_read] at hread
 have hname:plur_Name.f 2=some (⟨#[111,110,101]⟩:ByteArray):=rfl
 have e2:((⟨#[111,110,101]⟩:ByteArray)).toList=([111,110,101]:List UInt8):=by rw [ByteArray.toList_eq]
 unfold exerguelaw12_shown.f
 refine Ev.bind hread ?_
 simp only [if_true,if_pos q1,h1,h2,Option.bind_some,hname,if_pos e2]
 have:=plurRight_ev (l:=sh12) (fun x hx=>(hg x hx).txt) (by simp [sh12])
 rw [sh12_rightR] at this
 exact Ev.bind this (Ev.now _)
end Go.Proofs.YtgfajgkjbckkgaaGreatDoor.PZ
end
section
noncomputable section
namespace Go.Proofs.YtgfajgkjbckkgaaGreatDoor.PZ
open Go.RowKit Go.Proofs.YtgfajgkjbckkgaaGreatDoorW.PrintWords Go.Proofs.YtgfajgkjbckkgaaGreatDoorW.PrintLast Go.Proofs.YtgfajgkjbckkgaaGreatDoorW.PrintMore
attribute [local go_sem] max2_int min2_int max_two min_two max_three min_three max_four min_four   -- for this text's walks alone
end Go.Proofs.YtgfajgkjbckkgaaGreatDoor.PZ
end
end
section
noncomputable section
namespace Go.Proofs.YtgfajgkjbckkgaaGreatDoor.PZ
open Go.RowKit Go.Proofs.YtgfajgkjbckkgaaGreatDoorW.PrintWords Go.Proofs.YtgfajgkjbckkgaaGreatDoorW.PrintLast Go.Proofs.YtgfajgkjbckkgaaGreatDoorW.PrintMore
attribute [local go_sem] max2_int min2_int max_two min_two max_three min_three max_four min_four   -- for this text's walks alone
end Go.Proofs.YtgfajgkjbckkgaaGreatDoor.PZ
end
end
section
noncomputable section
namespace Go.Proofs.YtgfajgkjbckkgaaGreatDoor.PZ
open Go.RowKit Go.Proofs.YtgfajgkjbckkgaaGreatDoorW.PrintWords Go.Proofs.YtgfajgkjbckkgaaGreatDoorW.PrintLast Go.Proofs.YtgfajgkjbckkgaaGreatDoorW.PrintMore
attribute [local go_sem] max2_int min2_int max_two min_two max_three min_three max_four min_four   -- for this text's walks alone
end Go.Proofs.YtgfajgkjbckkgaaGreatDoor.PZ
end
end
section
noncomputable section
namespace Go.Proofs.YtgfajgkjbckkgaaGreatDoor.PZ
open Go.RowKit Go.Proofs.YtgfajgkjbckkgaaGreatDoorW.PrintWords Go.Proofs.YtgfajgkjbckkgaaGreatDoorW.PrintLast Go.Proofs.YtgfajgkjbckkgaaGreatDoorW.PrintMore
attribute [local go_sem] max2_int min2_int max_two min_two max_three min_three max_four min_four   -- for this text's walks alone
end Go.Proofs.YtgfajgkjbckkgaaGreatDoor.PZ
end
end
section
namespace Go.Proofs.YtgfajgkjbckkgaaGreatDoor.PZ
open Go.RowKit Go.Proofs.YtgfajgkjbckkgaaGreatDoorW.PrintWords Go.Proofs.YtgfajgkjbckkgaaGreatDoorW.PrintLast Go.Proofs.YtgfajgkjbckkgaaGreatDoorW.PrintMore
section
attribute [local go_sem] max2_int min2_int max_two min_two max_three min_three max_four min_four   -- for this text's walks alone
end
end Go.Proofs.YtgfajgkjbckkgaaGreatDoor.PZ
end
section
noncomputable section
namespace Go.Proofs.YtgfajgkjbckkgaaGreatDoor.PZ
open Go.RowKit Go.Proofs.YtgfajgkjbckkgaaGreatDoorW.PrintWords Go.Proofs.YtgfajgkjbckkgaaGreatDoorW.PrintLast Go.Proofs.YtgfajgkjbckkgaaGreatDoorW.PrintMore
attribute [local go_sem] max2_int min2_int max_two min_two max_three min_three max_four min_four   -- for this text's walks alone
end Go.Proofs.YtgfajgkjbckkgaaGreatDoor.PZ
end
end
section
set_option maxRecDepth 100000
namespace Go.Proofs.YtgfajgkjbckkgaaGreatDoor.PZ
open Go.RowKit Go.Proofs.YtgfajgkjbckkgaaGreatDoorW.PrintWords Go.Proofs.YtgfajgkjbckkgaaGreatDoorW.PrintLast
def prevR (l:List Ru)(i:Nat):Int:=if i=0 then 0 else (l.getD (i - 1) ⟨0,[]⟩).f0
theorem refRight12_l0 {l:List Ru}(ht:∀ x ∈ l,TxtOk x.f1)(hl:∀ x ∈ l,LenOk x.f1)(hn:l.length≤140737488355328)(n:Nat):∀ i:Nat,i+n=l.length→0≤prevR l i→Ev (fun k=>exergueref12_Right.l0 k l (i:Int)) (rightR (prevR l i) (l.drop i)):=by
 induction n with
 | zero=>
  intro i hi _
  have q1:¬ ((i:Nat):Int)<(l.length:Int):=by omega
  refine Ev_shift ?_
  simp only [exergueref12_Right.l0,if_neg q1]
  rw [List.drop_of_length_le (by omega)]
  exact Ev.now _
 | succ n ih=>
  intro i hi hp
  have hlt:i<l.length:=by omega
  have q1:((i:Nat):Int)<(l.length:Int):=by omega
  have q2:(0:Int)≤(i:Int):=by omega
  have wi:wrap64 ((i:Int)+1)=((i+1:Nat):Int):=by rw [w64 _ (by omega) (by omega)];omega
  have hpn:prevR l (i+1)=(l[i]).f0:=by unfold prevR;rw [if_neg (by omega)];simp [List.getD_eq_getElem?_getD,hlt]
  have hm:=List.getElem_mem hlt
  rw [drop_get hlt]
  simp only [rightR]
  refine Ev_shift ?_
  simp only [exergueref12_Right.l0,if_pos q1,if_pos q2,rd65 hlt,wi]
  refine Ev.bind (refRight11 (ht _ hm) (hl _ hm)) ?_
  cases hr:rightP (l[i]).f1 with
  | false=>simp only [Bool.false_eq_true,if_false,Bool.false_and,Bool.and_false];exact Ev.now _
  | true=>
   simp only [if_true,Bool.true_and]
   have on_:1≤(l[i]).f0→Ev (fun k=>exergueref12_Right.l0 k l ((i+1:Nat):Int)) (rightR (l[i]).f0 (l.drop (i+1))):=fun h=>by
    have:=ih (i+1) (by omega) (by rw [hpn];omega)
    rw [hpn] at this
    exact this
   by_cases h1:(l[i]).f0<1
   ·have hb:nextB (prevR l i) (l[i]).f0=false:=by unfold nextB;rw [zD (by omega)];rfl
    simp only [if_pos h1,hb,Bool.false_and]
    exact Ev.now _
   by_cases h5:(l[i]).f0>5
   ·have hb:nextB (prevR l i) (l[i]).f0=false:=by unfold nextB;rw [zD (show ¬ (l[i]).f0≤5 by omega),Bool.and_false]
    simp only [if_neg h1,if_pos h5,hb,Bool.false_and]
    exact Ev.now _
   simp only [if_neg h1,if_neg h5]
   by_cases h0:i=0
   ·subst h0
    have q4:¬ ((0:Nat):Int)>0:=by omega
    have hb:nextB (prevR l 0) (l[0]).f0=true:=by unfold nextB prevR;simp;omega
    simp only [if_neg q4,hb,Bool.true_and]
    exact on_ (by omega)
   have q4:((i:Nat):Int)>0:=by omega
   have w1:wrap64 ((i:Int) - 1)=((i - 1:Nat):Int):=by rw [w64 _ (by omega) (by omega)];omega
   have q5:(0:Int)≤((i - 1:Nat):Int):=by omega
   have q6:((i - 1:Nat):Int)<(l.length:Int):=by omega
   have hpv:(l[i - 1]).f0=prevR l i:=by unfold prevR;rw [if_neg h0];simp [List.getD_eq_getElem?_getD,show i - 1<l.length by omega]
   simp only [if_pos q4,w1,if_pos q5,if_pos q6,rd65 (show i - 1<l.length by omega),hpv]
   by_cases hle:(l[i]).f0≤prevR l i
   ·have hb:nextB (prevR l i) (l[i]).f0=false:=by unfold nextB;rw [zD (by omega)];rfl
    simp only [if_pos hle,hb,Bool.false_and]
    exact Ev.now _
   have hb:nextB (prevR l i) (l[i]).f0=true:=by unfold nextB;rw [zC (by omega),zC (by omega)];rfl
   simp only [if_neg hle,hb,Bool.true_and]
   exact on_ (by omega)
theorem refRight12_ev {l:List Ru}(ht:∀ x ∈ l,TxtOk x.f1)(hl:∀ x ∈ l,LenOk x.f1)(hn:l.length≤140737488355328):Ev (fun k=>exergueref12_Right.f k l) (rightR 0 l):=by
 unfold exergueref12_Right.f
 have:=refRight12_l0 ht hl hn l.length 0 (by omega) (by simp [prevR])
 rw [List.drop_zero] at this
 exact this
section
theorem OkRus.len {l:List Ru}(h:OkRus l):(∀ x ∈ l,LenOk x.f1)∧l.length≤140737488355328:=⟨fun x hx=>(h.2 x hx).2.len,by have:=h.1;omega⟩
section
variable (i f:List Int)(w c:Int)
end
end
theorem pnames_ix:∀ n:Nat,n<6→ixL plNames (plNames.getD n ⟨#[]⟩) 0=(n:Int):=by
 intro n hn
 have:n=0∨n=1∨n=2∨n=3∨n=4∨n=5:=by omega
 rcases this with rfl|rfl|rfl|rfl|rfl|rfl <;> decide
theorem pnames_none:ixL plNames ⟨#[]⟩ 0 = -1:=by decide
theorem pnames_j1 {l:List Tx}(hsz:∀ x ∈ l,x.f1.size≤140737488351232)(h8:l.length≤8):Ev (fun k=>exerguelaw12_PlurNames.j1 k l true false) true:=by
 refine Ev_shift ?_
 simp only [exerguelaw12_PlurNames.j1,Bool.false_eq_true,if_false]
 refine Ev.bind (plurRead_ev hsz (by omega)) ?_
 by_cases he:(readR 0 0 [] l).2.2=0
 ·obtain ⟨g1,m,g2,g3,g4,g5⟩:=readR_ok l 0 0 [] he
  rw [List.nil_append] at g2
  have hml:m.length=l.length:=by have:=congrArg List.length g3;simpa using this
  have q1:(m.length:Int)=(l.length:Int):=by omega
  simp only [if_pos he,g2,if_true]
  refine Ev.bind (refRight12_ev (fun x hx=>(g5 x hx).txt) (fun x hx=>(g5 x hx).len) (by omega)) ?_
  simp only [g4,if_true,if_pos q1,g1,beq_self_eq_true]
  exact Ev.now _
 obtain ⟨g1,j,g2,g3,g4,g5⟩:=readR_bad l 0 0 [] he
 have e:((0+j:Nat):Int)=(j:Int):=by omega
 rw [e] at g3
 have e2:mx (mn (j:Int) (l.length:Int)) 0=(j:Int):=by
  unfold mx mn
  repeat' split
  all_goals omega
 have q0:(0:Int)≤(j:Int):=by omega
 have q1:(j:Int)≤(l.length:Int):=by omega
 have q2:(j:Int)≥0:=by omega
 have q3:(j:Int)<(l.length:Int):=by omega
 have q4:(((readR 0 0 [] (l.take j)).1.length:Nat):Int)=(j:Int):=by rw [g5];simp
 simp only [if_neg he,g3,e2,if_pos q0,if_pos q1,Int.toNat_natCast]
 refine Ev.bind (plurRead_ev (l:=l.take j) (fun x hx=>hsz x (List.mem_of_mem_take hx)) (by rw [List.length_take];omega)) ?_
 simp only [if_true,if_pos q2,if_pos q3,if_pos g4,if_pos q4,g1]
 exact Ev.now _
theorem Pure.PlurNames:∀ (x0:Int) (x1:List S68),(Lit.int .i64 x0).wf=true→OkTxs x1→∃ k,exerguelaw12_PlurNames.f k x0 x1=some true:=by
 intro cat l hcat hl
 refine Ev.rounds ?_
 unfold exerguelaw12_PlurNames.f
 refine Ev.bind shown12_ev ?_
 have hsz:∀ x ∈ l,x.f1.size≤140737488351232:=fun x hx=>(hl.2 x hx).2
 have hll:l.length≤140737488355328:=by have:=hl.1;omega
 obtain ⟨s1,S1,P1⟩:=short12_ev hsz hll
 refine Ev.bind S1 ?_
 cases s1 with
 | false=>simp only [Bool.false_eq_true,if_false];exact Ev.now _
 | true=>
  obtain ⟨h8,_⟩:=P1 rfl
  have j1:=pnames_j1 hsz h8
  simp only [if_true]
  by_cases hin:0≤cat∧cat<6
  ·have hnm:plur_Name.f cat=some (plNames.getD cat.toNat ⟨#[]⟩):=by unfold plur_Name.f;rw [if_pos hin]
   have hix:=pnames_ix cat.toNat (by omega)
   have hct:plur_Cat.f (plNames.getD cat.toNat ⟨#[]⟩)=some (cat,true):=by
    unfold plur_Cat.f
    rw [hix,zC (by omega)]
    congr 2
    omega
   have q1:cat≥0:=hin.1
   have q2:cat≤5:=by omega
   simp only [hnm,hct,Option.bind_some,if_pos q1,zC q2]
   refine Ev_shift ?_
   simp only [exerguelaw12_PlurNames.j0,bne_self_eq_false,Bool.false_eq_true,if_false,if_true]
   exact j1
  have hnm:plur_Name.f cat=some ⟨#[]⟩:=by unfold plur_Name.f;rw [if_neg hin]
  have hct:plur_Cat.f ⟨#[]⟩=some (0,false):=by
   unfold plur_Cat.f
   rw [pnames_none]
   rfl
  have et:((⟨#[]⟩:ByteArray).toList != ([]:List UInt8))=false:=by rw [ByteArray.toList_eq];rfl
  have go:Ev (fun k=>exerguelaw12_PlurNames.j0 k cat l true 0 false false) true:=by
   refine Ev_shift ?_
   simp only [exerguelaw12_PlurNames.j0,bne_self_eq_false,Bool.false_eq_true,if_false,hnm,Option.bind_some,et]
   exact j1
  by_cases q1:cat≥0
  ·have q2:¬ cat≤5:=by omega
   simp only [hnm,hct,Option.bind_some,if_pos q1,zD q2]
   exact go
  simp only [hnm,hct,Option.bind_some,if_neg q1]
  exact go
end Go.Proofs.YtgfajgkjbckkgaaGreatDoor.PZ
end
