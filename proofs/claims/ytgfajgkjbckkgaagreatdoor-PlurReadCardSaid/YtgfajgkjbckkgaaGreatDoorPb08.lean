/- Texts of this seat, joined. Conditions: none beyond each statement's own. -/
import Derived.Test.YtgfajgkjbckkgaaGreatDoorPb07
import Derived.Test.YtgfajgkjbckkgaaGreatDoorPb05
set_option linter.all false
section
noncomputable section
namespace Go.Proofs.YtgfajgkjbckkgaaGreatDoor.PZ
open Go.RowKit Go.Proofs.YtgfajgkjbckkgaaGreatDoorW.PrintWords Go.Proofs.YtgfajgkjbckkgaaGreatDoorW.PrintLast Go.Proofs.YtgfajgkjbckkgaaGreatDoorW.PrintMore
attribute [local go_sem] max2_int min2_int max_two min_two max_three min_three max_four min_four   -- for this text's walks alone
def exergueref12_Same.l0:Nat→List (S65)→List (S65)→Int→Option (Bool)
 | 0,_,_,_=>none
 | k+1,x0,x1,x5=>if x5<(x0.length:Int) then (if 0≤x5 then (if x5<(x1.length:Int) then ((exergueref11_Same.f k ((rd_T65 x0 x5).f1) ((rd_T65 x1 x5).f1)).bind fun aP=>(if aP=true then (if ((rd_T65 x0 x5).f0)=((rd_T65 x1 x5).f0) then (exergueref12_Same.l0 k x0 x1 (wrap64 (x5+1))) else (some false)) else (some false))) else (none)) else (none)) else (some true)
def exergueref12_Same.f (k:Nat)(l0:List (S65))(l1:List (S65)):Option (Bool):=if (l0.length:Int)=(l1.length:Int) then (exergueref12_Same.l0 k l0 l1 0) else (some false)
theorem exergueref12_Same.mono_l:∀ k,(∀ y0 y1 y2,LeO (exergueref12_Same.l0 k y0 y1 y2) (exergueref12_Same.l0 (k+1) y0 y1 y2))
 | 0=>fun _ _ _ r h=>by simp [exergueref12_Same.l0] at h
 | k+1=>by
  have ih0:=exergueref12_Same.mono_l k
  ·intro y0 y1 y2
   unfold exergueref12_Same.l0
   repeat' first|(with_reducible first|apply ih0|apply exergueref11_Same.mono|apply LeO.refl|apply LeO.none|refine LeO.ite ?_ ?_|refine LeO.bind ?_ (fun _=>?_))|apply ih0|apply exergueref11_Same.mono|apply LeO.none
theorem exergueref12_Same.mono:∀ a0 a1 k,LeO (exergueref12_Same.f k a0 a1) (exergueref12_Same.f (k+1) a0 a1):=by
 intro a0 a1 k
 have ih0:=exergueref12_Same.mono_l k
 unfold exergueref12_Same.f
 repeat' first|(with_reducible first|apply ih0|apply exergueref11_Same.mono|apply LeO.refl|apply LeO.none|refine LeO.ite ?_ ?_|refine LeO.bind ?_ (fun _=>?_))|apply ih0|apply exergueref11_Same.mono|apply LeO.none
def exergueref12_Same.T6:Bool×List (List Nat×List Nat):=(true,[([],[]),([],[]),([0,1],[0,1]),([2],[2]),([3],[3]),([],[]),([],[]),([5,6],[5,6]),([7],[7]),([8],[8]),([4,9],[4,9]),([10,10,0,1,2,3,4,5,6,7,8,9,10],[10])])
def exergueref12_Same.B6:List Nat:=[0,0,3,7,15,0,0,96,224,480,1023,2047]
theorem exergueref12_Same.tab6:rtab .any (opsOf Tryz.f24 6)=exergueref12_Same.T6:=by kernel_rfl
theorem exergueref12_Same.bits6:waitsOk exergueref12_Same.T6.2 exergueref12_Same.B6=true:=by kernel_rfl
def exergueref12_Same.T7:Bool×List (List Nat×List Nat):=(true,[([],[]),([0],[0]),([1],[1]),([2],[2]),([2],[2]),([3,4,2],[2,3,4]),([5,2],[2,5]),([6,2],[2,6]),([2],[2]),([2],[2]),([8,9,2],[2,8,9]),([10,2],[2,10]),([11,2],[2,11]),([7,12,2],[2,7,12]),([2,13],[2,13])])
def exergueref12_Same.B7:List Nat:=[0,1,3,7,7,31,63,127,7,7,775,1799,3847,8191,16383]
theorem exergueref12_Same.tab7:rtab .any (opsOf Tryz.f24 7)=exergueref12_Same.T7:=by kernel_rfl
theorem exergueref12_Same.bits7:waitsOk exergueref12_Same.T7.2 exergueref12_Same.B7=true:=by kernel_rfl
set_option maxHeartbeats 8000000 in
set_option maxRecDepth 100000 in
theorem exergueref12_Same.calls (k:Nat)(A0:Option Addr)(c0:Nat)(l0:List (S65))(A1:Option Addr)(c1:Nat)(l1:List (S65))(r:Bool)(w:World)(hr0:Kd.C k65 w A0 l0.length l0)(hc0:l0.length≤c0)(hr1:Kd.C k65 w A1 l1.length l1)(hc1:l1.length≤c1)(h:exergueref12_Same.f k l0 l1=some r) :
  Calls Tryz.prog 24 #[.slice A0 l0.length c0,.slice A1 l1.length c1] w fun e w'=>e = .returned (.bool r)∧Below w.heap.size w w':=by
 have HR0:=zS hr0
 have HC0:=zS hc0
 clear hr0 hc0
 have HR1:=zS hr1
 have HC1:=zS hc1
 clear hr1 hc1
 have HB:=zS (Below.refl w.heap.size w)
 have H:(if (l0.length:Int)=(l1.length:Int) then (exergueref12_Same.l0 k l0 l1 0) else (some false))=some r:=h
 clear h
 by_cases c3:(l0.length:Int)=(l1.length:Int)
 rotate_left
 ·rw [if_neg c3] at H
  have aS:((l0.length:Int) == (l1.length:Int))=false:=zF c3
  have aT:((l0.length:Int) != (l1.length:Int))=true:=zI c3
  have aU:(l0.length == l1.length)=false:=by first|simpa using c3|(simp at c3 ⊢;omega)
  obtain rfl:=zE H
  go_enter Tryz.func24,Tryz.ntmps24
  go_wp2
  go_ret
  exact ⟨by first|rfl|(simp <;> rfl)|(simp [*] <;> rfl),bQ HB⟩
 rw [if_pos c3] at H
 have aS:((l0.length:Int) == (l1.length:Int))=true:=zH c3
 have aT:((l0.length:Int) != (l1.length:Int))=false:=zG c3
 have aU:(l0.length == l1.length)=true:=by first|simpa using c3|(simp at c3 ⊢;omega)
 clear c3
 have H':=zS H
 clear H
 go_enter Tryz.func24,Tryz.ntmps24
 go_wp2
 go_loopg [5] k (fun kq v5 w'=>∃ (aa:Int),v5 = .int .i64 aa∧Sd (exergueref12_Same.l0 kq l0 l1 aa=some r)∧Sd (kq≤k)∧Sd (Below w.heap.size w w'))
 case atStart=>exact ⟨(0),(by first|rfl|(simp;done)|(simp [*];done)),H',⟨Nat.le_refl _⟩,⟨bQ HB⟩⟩
 case round=>
  clear H'
  try clear c1
  try clear c2
  try clear p2
  try clear c3
  try clear aS
  try clear aT
  try clear aU
  obtain ⟨aa,rfl,HA,HK1,HB⟩:=hrel
  cases gk with
  | zero=>exact absurd HA.out (by simp [exergueref12_Same.l0])
  | succ k1=>
   have H:=HA.out
   clear HA
   simp only [exergueref12_Same.l0] at H
   by_cases c4:aa<(l0.length:Int)
   rotate_left
   ·rw [if_neg c4] at H
    have aV:=zD c4
    clear c4
    obtain rfl:=zE H
    go_wp2
    go_ret
    exact ⟨by first|rfl|(simp <;> rfl)|(simp [*] <;> rfl),bQ HB⟩
   rw [if_pos c4] at H
   have aV:=zC c4
   clear c4
   by_cases c5:0≤aa
   rotate_left
   ·rw [if_neg c5] at H
    exact absurd H (by simp)
   rw [if_pos c5] at H
   have aY:=zC c5
   clear c5
   by_cases c6:aa<(l1.length:Int)
   rotate_left
   ·rw [if_neg c6] at H
    exact absurd H (by simp)
   rw [if_pos c6] at H
   have aZ:=zC c6
   clear c6
   replace H:=Option.bind_eq_some_iff.mp H
   obtain ⟨aP,A70,H⟩:=H
   try dsimp only at H
   have A7:=zS A70
   clear A70
   by_cases c8:aP=true
   rotate_left
   ·replace c8:=Bool.eq_false_iff.mpr c8
    subst c8
    rw [if_neg (show ¬ (false=true) by decide)] at H
    obtain rfl:=zE H
    try go_wp2
    replace HB:=zS (below_drew1 HB.out)
    have av:0≤(aa:Int):=zB (by first|(with_reducible assumption)|assumption)
    have aw:aa<(l0.length:Int):=zB (by first|(with_reducible assumption)|assumption)
    obtain ⟨ah,an,ao,aJ,ad,ab,hl498_1,hi498_1⟩:=at_T65 HR0.out aa av aw
    have hw498_1:=ab
    have hw498_0:=ad
    cases aJ
    replace ad:=(HB.out.cell (World.block_lt_of_cell? w _ ad)).trans ad
    replace ab:=(HB.out.cell (World.block_lt_of_cell? w _ ab)).trans ab
    have al:=zS hi498_1
    have ar:=zS hl498_1
    clear hi498_1 hl498_1
    replace av:=eq_true av
    replace aw:=eq_true aw
    have ax:0≤(aa:Int):=zB (by first|(with_reducible assumption)|assumption)
    have ay:aa<(l1.length:Int):=zB (by first|(with_reducible assumption)|assumption)
    obtain ⟨ai,ap,aq,aK,ae,ac,hl499_1,hi499_1⟩:=at_T65 HR1.out aa ax ay
    have hw499_1:=ac
    have hw499_0:=ae
    cases aK
    replace ae:=(HB.out.cell (World.block_lt_of_cell? w _ ae)).trans ae
    replace ac:=(HB.out.cell (World.block_lt_of_cell? w _ ac)).trans ac
    have am:=zS hi499_1
    have au:=zS hl499_1
    clear hi499_1 hl499_1
    replace ax:=eq_true ax
    replace ay:=eq_true ay
    refine start_ (n:=12) (S:=fun w'=>w'.cell? (ah.add ((aa).toNat * 2))=some (.int .i64 ((rd_T65 l0 aa).f0))∧w'.cell? ⟨(ah.add ((aa).toNat * 2)).block,(ah.add ((aa).toNat * 2)).off+1,none⟩=some (.slice an ((rd_T65 l0 aa).f1).length ao)∧w'.cell? (ai.add ((aa).toNat * 2))=some (.int .i64 ((rd_T65 l1 aa).f0))∧w'.cell? ⟨(ai.add ((aa).toNat * 2)).block,(ai.add ((aa).toNat * 2)).off+1,none⟩=some (.slice ap ((rd_T65 l1 aa).f1).length aq)) (ds:=[]) (bZ 12 0) (by kernel_rfl) rfl (by kernel_rfl) ⟨((HB.out.cell (World.block_lt_of_cell? w _ hw498_0)).trans hw498_0),((HB.out.cell (World.block_lt_of_cell? w _ hw498_1)).trans hw498_1),((HB.out.cell (World.block_lt_of_cell? w _ hw499_0)).trans hw499_0),((HB.out.cell (World.block_lt_of_cell? w _ hw499_1)).trans hw499_1)⟩ (fun hHeld=>?_);refine with_tabW exergueref12_Same.tab6 exergueref12_Same.bits6 (fun HT_ HW_=>?_)
    generalize wr.drew=w16 at HB al am ad ab ae ac hHeld ⊢
    refine q1 0 18 1 HT_ ?_
    refine q1 1 19 3 HT_ ?_
    refine q1 2 20 7 HT_ ?_
    refine q1 3 21 15 HT_ ?_
    refine q1 5 23 47 HT_ ?_
    refine q1 6 24 111 HT_ ?_
    refine q1 7 25 239 HT_ ?_
    refine q1 8 26 495 HT_ ?_
    refine q2 4 22 511 HT_ HW_ hHeld ?_ (hy:=by rintro w' ⟨s0,s1,s2,s3⟩;go_simp;with_reducible rfl)
    refine q2 9 27 1023 HT_ HW_ hHeld ?_ (hy:=by rintro w' ⟨s0,s1,s2,s3⟩;go_simp;with_reducible rfl)
    refine one_ (i:=10) (N:=some 28) (bZ 12 2047) rfl rfl (one_of HT_.out (by kernel_rfl)) (by decide) (fun K hK=>?_)
    refine goes_ Tryz.func34 (by kernel_rfl) rfl #[.slice an ((rd_T65 l0 aa).f1).length ao,.slice ap ((rd_T65 l1 aa).f1).length aq] (by rfl) rfl rfl (by (try simp only [mA,mB,mC]);first|done|rfl|(simp only [lD,lT];rfl)) ?_
    with_reducible refine (exergueref11_Same.calls k1 _ _ ((rd_T65 l0 aa).f1) _ _ ((rd_T65 l1 aa).f1) false _ ?side1 ?side2 ?side3 ?side4 A7.out).mono ?_
    (case side1=>exact Kd.C_below al.out (bQ HB))
    (case side2=>exact ar.out)
    (case side3=>exact Kd.C_below am.out (bQ HB))
    (case side4=>exact au.out)
    rintro e w17 ⟨rfl,hb⟩
    refine ⟨_,rfl,?_⟩
    replace HB:=bs HB hb
    (try clear hb)
    (try clear hb2)
    (try clear hk)
    (try clear hi)
    refine hK.out _ _ ⟨((HB.out.cell (World.block_lt_of_cell? w _ hw498_0)).trans hw498_0),((HB.out.cell (World.block_lt_of_cell? w _ hw498_1)).trans hw498_1),((HB.out.cell (World.block_lt_of_cell? w _ hw499_0)).trans hw499_0),((HB.out.cell (World.block_lt_of_cell? w _ hw499_1)).trans hw499_1)⟩ (fun hHeld=>?_)
    clear hK K
    refine norm_ (a':=?_) ?_ ?_
    rotate_left
    ·show Act.put _ (some 28) _=_
     simp only [Act.put,sA,sB,sC,i64_w,i32_w]
     rfl
    refine q1 11 6 4095 HT_ ?_
    refine done_ (done_of HT_.out (by kernel_rfl)) ?_
    try go_wp2
    replace HB:=zS (below_drew1 HB.out)
    refine start_ (n:=15) (S:=fun w'=>True) (ds:=[]) (bZ 15 0) (by kernel_rfl) rfl (by kernel_rfl) trivial (fun hHeld=>?_);refine with_tabW exergueref12_Same.tab7 exergueref12_Same.bits7 (fun HT_ HW_=>?_)
    generalize w17.drew=w18 at HB hHeld ⊢
    refine q1 0 29 1 HT_ ?_
    refine q1 1 30 3 HT_ ?_
    refine q1 2 31 7 HT_ ?_
    refine pure_ (i:=3) (N:=some 32) (v:=undef) (a':=?_) (bZ 15 15) rfl rfl (any_of HT_.out (by kernel_rfl)) (fun _ _ _ h=>h) (Or.inr ⟨by rfl,rfl⟩) ?_ ?_
    rotate_left
    ·simp only [Act.put,sA,sB,sC,i64_w,i32_w]
     rfl
    refine pure_ (i:=4) (N:=some 33) (v:=undef) (a':=?_) (bZ 15 31) rfl rfl (any_of HT_.out (by kernel_rfl)) (fun _ _ _ h=>h) (Or.inr ⟨by rfl,rfl⟩) ?_ ?_
    rotate_left
    ·simp only [Act.put,sA,sB,sC,i64_w,i32_w]
     rfl
    refine pure_ (i:=5) (N:=some 34) (v:=undef) (a':=?_) (bZ 15 63) rfl rfl (any_of HT_.out (by kernel_rfl)) (fun _ _ _ h=>h) (Or.inr ⟨by rfl,rfl⟩) ?_ ?_
    rotate_left
    ·simp only [Act.put,sA,sB,sC,i64_w,i32_w]
     rfl
    refine pure_ (i:=6) (N:=some 35) (v:=undef) (a':=?_) (bZ 15 127) rfl rfl (any_of HT_.out (by kernel_rfl)) (fun _ _ _ h=>h) (Or.inr ⟨by rfl,rfl⟩) ?_ ?_
    rotate_left
    ·simp only [Act.put,sA,sB,sC,i64_w,i32_w]
     rfl
    refine pure_ (i:=7) (N:=some 36) (v:=undef) (a':=?_) (bZ 15 255) rfl rfl (any_of HT_.out (by kernel_rfl)) (fun _ _ _ h=>h) (Or.inr ⟨by rfl,rfl⟩) ?_ ?_
    rotate_left
    ·simp only [Act.put,sA,sB,sC,i64_w,i32_w]
     rfl
    refine pure_ (i:=8) (N:=some 37) (v:=undef) (a':=?_) (bZ 15 511) rfl rfl (any_of HT_.out (by kernel_rfl)) (fun _ _ _ h=>h) (Or.inr ⟨by rfl,rfl⟩) ?_ ?_
    rotate_left
    ·simp only [Act.put,sA,sB,sC,i64_w,i32_w]
     rfl
    refine pure_ (i:=9) (N:=some 38) (v:=undef) (a':=?_) (bZ 15 1023) rfl rfl (any_of HT_.out (by kernel_rfl)) (fun _ _ _ h=>h) (Or.inr ⟨by rfl,rfl⟩) ?_ ?_
    rotate_left
    ·simp only [Act.put,sA,sB,sC,i64_w,i32_w]
     rfl
    refine pure_ (i:=10) (N:=some 39) (v:=undef) (a':=?_) (bZ 15 2047) rfl rfl (any_of HT_.out (by kernel_rfl)) (fun _ _ _ h=>h) (Or.inr ⟨by rfl,rfl⟩) ?_ ?_
    rotate_left
    ·simp only [Act.put,sA,sB,sC,i64_w,i32_w]
     rfl
    refine pure_ (i:=11) (N:=some 40) (v:=undef) (a':=?_) (bZ 15 4095) rfl rfl (any_of HT_.out (by kernel_rfl)) (fun _ _ _ h=>h) (Or.inr ⟨by rfl,rfl⟩) ?_ ?_
    rotate_left
    ·simp only [Act.put,sA,sB,sC,i64_w,i32_w]
     rfl
    refine pure_ (i:=12) (N:=some 41) (v:=undef) (a':=?_) (bZ 15 8191) rfl rfl (any_of HT_.out (by kernel_rfl)) (fun _ _ _ h=>h) (Or.inr ⟨by rfl,rfl⟩) ?_ ?_
    rotate_left
    ·simp only [Act.put,sA,sB,sC,i64_w,i32_w]
     rfl
    refine pure_ (i:=13) (N:=some 42) (v:=undef) (a':=?_) (bZ 15 16383) rfl rfl (any_of HT_.out (by kernel_rfl)) (fun _ _ _ h=>h) (Or.inr ⟨by rfl,rfl⟩) ?_ ?_
    rotate_left
    ·simp only [Act.put,sA,sB,sC,i64_w,i32_w]
     rfl
    refine q1 14 43 32767 HT_ ?_
    refine done_ (done_of HT_.out (by kernel_rfl)) ?_
    try go_wp2
    go_ret
    exact ⟨by first|rfl|(simp <;> rfl)|(simp [*] <;> rfl),bQ HB⟩
   subst c8
   rw [if_pos rfl] at H
   by_cases c9:((rd_T65 l0 aa).f0)=((rd_T65 l1 aa).f0)
   ·rw [if_pos c9] at H
    have aW:(((rd_T65 l0 aa).f0) == ((rd_T65 l1 aa).f0))=true:=zH c9
    have aX:(((rd_T65 l0 aa).f0) != ((rd_T65 l1 aa).f0))=false:=zG c9
    clear c9
    have H':=zS H
    clear H
    try go_wp2
    replace HB:=zS (below_drew1 HB.out)
    have av:0≤(aa:Int):=zB (by first|(with_reducible assumption)|assumption)
    have aw:aa<(l0.length:Int):=zB (by first|(with_reducible assumption)|assumption)
    obtain ⟨ah,an,ao,aJ,ad,ab,hl498_1,hi498_1⟩:=at_T65 HR0.out aa av aw
    have hw498_1:=ab
    have hw498_0:=ad
    cases aJ
    replace ad:=(HB.out.cell (World.block_lt_of_cell? w _ ad)).trans ad
    replace ab:=(HB.out.cell (World.block_lt_of_cell? w _ ab)).trans ab
    have al:=zS hi498_1
    have ar:=zS hl498_1
    clear hi498_1 hl498_1
    replace av:=eq_true av
    replace aw:=eq_true aw
    have ax:0≤(aa:Int):=zB (by first|(with_reducible assumption)|assumption)
    have ay:aa<(l1.length:Int):=zB (by first|(with_reducible assumption)|assumption)
    obtain ⟨ai,ap,aq,aK,ae,ac,hl499_1,hi499_1⟩:=at_T65 HR1.out aa ax ay
    have hw499_1:=ac
    have hw499_0:=ae
    cases aK
    replace ae:=(HB.out.cell (World.block_lt_of_cell? w _ ae)).trans ae
    replace ac:=(HB.out.cell (World.block_lt_of_cell? w _ ac)).trans ac
    have am:=zS hi499_1
    have au:=zS hl499_1
    clear hi499_1 hl499_1
    replace ax:=eq_true ax
    replace ay:=eq_true ay
    refine start_ (n:=12) (S:=fun w'=>w'.cell? (ah.add ((aa).toNat * 2))=some (.int .i64 ((rd_T65 l0 aa).f0))∧w'.cell? ⟨(ah.add ((aa).toNat * 2)).block,(ah.add ((aa).toNat * 2)).off+1,none⟩=some (.slice an ((rd_T65 l0 aa).f1).length ao)∧w'.cell? (ai.add ((aa).toNat * 2))=some (.int .i64 ((rd_T65 l1 aa).f0))∧w'.cell? ⟨(ai.add ((aa).toNat * 2)).block,(ai.add ((aa).toNat * 2)).off+1,none⟩=some (.slice ap ((rd_T65 l1 aa).f1).length aq)) (ds:=[]) (bZ 12 0) (by kernel_rfl) rfl (by kernel_rfl) ⟨((HB.out.cell (World.block_lt_of_cell? w _ hw498_0)).trans hw498_0),((HB.out.cell (World.block_lt_of_cell? w _ hw498_1)).trans hw498_1),((HB.out.cell (World.block_lt_of_cell? w _ hw499_0)).trans hw499_0),((HB.out.cell (World.block_lt_of_cell? w _ hw499_1)).trans hw499_1)⟩ (fun hHeld=>?_);refine with_tabW exergueref12_Same.tab6 exergueref12_Same.bits6 (fun HT_ HW_=>?_)
    generalize wr.drew=w10 at HB al am ad ab ae ac hHeld ⊢
    refine q1 0 18 1 HT_ ?_
    refine q1 1 19 3 HT_ ?_
    refine q1 2 20 7 HT_ ?_
    refine q1 3 21 15 HT_ ?_
    refine q1 5 23 47 HT_ ?_
    refine q1 6 24 111 HT_ ?_
    refine q1 7 25 239 HT_ ?_
    refine q1 8 26 495 HT_ ?_
    refine q2 4 22 511 HT_ HW_ hHeld ?_ (hy:=by rintro w' ⟨s0,s1,s2,s3⟩;go_simp;with_reducible rfl)
    refine q2 9 27 1023 HT_ HW_ hHeld ?_ (hy:=by rintro w' ⟨s0,s1,s2,s3⟩;go_simp;with_reducible rfl)
    refine one_ (i:=10) (N:=some 28) (bZ 12 2047) rfl rfl (one_of HT_.out (by kernel_rfl)) (by decide) (fun K hK=>?_)
    refine goes_ Tryz.func34 (by kernel_rfl) rfl #[.slice an ((rd_T65 l0 aa).f1).length ao,.slice ap ((rd_T65 l1 aa).f1).length aq] (by rfl) rfl rfl (by (try simp only [mA,mB,mC]);first|done|rfl|(simp only [lD,lT];rfl)) ?_
    with_reducible refine (exergueref11_Same.calls k1 _ _ ((rd_T65 l0 aa).f1) _ _ ((rd_T65 l1 aa).f1) true _ ?side1 ?side2 ?side3 ?side4 A7.out).mono ?_
    (case side1=>exact Kd.C_below al.out (bQ HB))
    (case side2=>exact ar.out)
    (case side3=>exact Kd.C_below am.out (bQ HB))
    (case side4=>exact au.out)
    rintro e w11 ⟨rfl,hb⟩
    refine ⟨_,rfl,?_⟩
    replace HB:=bs HB hb
    (try clear hb)
    (try clear hb2)
    (try clear hk)
    (try clear hi)
    refine hK.out _ _ ⟨((HB.out.cell (World.block_lt_of_cell? w _ hw498_0)).trans hw498_0),((HB.out.cell (World.block_lt_of_cell? w _ hw498_1)).trans hw498_1),((HB.out.cell (World.block_lt_of_cell? w _ hw499_0)).trans hw499_0),((HB.out.cell (World.block_lt_of_cell? w _ hw499_1)).trans hw499_1)⟩ (fun hHeld=>?_)
    clear hK K
    refine norm_ (a':=?_) ?_ ?_
    rotate_left
    ·show Act.put _ (some 28) _=_
     simp only [Act.put,sA,sB,sC,i64_w,i32_w]
     rfl
    refine q1 11 6 4095 HT_ ?_
    refine done_ (done_of HT_.out (by kernel_rfl)) ?_
    try go_wp2
    replace HB:=zS (below_drew1 HB.out)
    have aB:0≤(aa:Int):=zB (by first|(with_reducible assumption)|assumption)
    have aC:aa<(l0.length:Int):=zB (by first|(with_reducible assumption)|assumption)
    obtain ⟨aL,aD,aE,aQ,aj,af,hl501_1,hi501_1⟩:=at_T65 HR0.out aa aB aC
    have hw501_1:=af
    have hw501_0:=aj
    obtain rfl:ah=aL:=(by injection aQ)
    try (have ea_:=zE (ab.symm.trans af);injection ea_ with ea_ en_ ec_;subst ea_;subst ec_;clear en_)
    replace aj:=(HB.out.cell (World.block_lt_of_cell? w _ aj)).trans aj
    replace af:=(HB.out.cell (World.block_lt_of_cell? w _ af)).trans af
    have az:=zS hi501_1
    have aN:=zS hl501_1
    clear hi501_1 hl501_1
    replace aB:=eq_true aB
    replace aC:=eq_true aC
    have aF:0≤(aa:Int):=zB (by first|(with_reducible assumption)|assumption)
    have aG:aa<(l1.length:Int):=zB (by first|(with_reducible assumption)|assumption)
    obtain ⟨aM,aH,aI,aR,ak,ag,hl502_1,hi502_1⟩:=at_T65 HR1.out aa aF aG
    have hw502_1:=ag
    have hw502_0:=ak
    obtain rfl:ai=aM:=(by injection aR)
    try (have ea_:=zE (ac.symm.trans ag);injection ea_ with ea_ en_ ec_;subst ea_;subst ec_;clear en_)
    replace ak:=(HB.out.cell (World.block_lt_of_cell? w _ ak)).trans ak
    replace ag:=(HB.out.cell (World.block_lt_of_cell? w _ ag)).trans ag
    have aA:=zS hi502_1
    have aO:=zS hl502_1
    clear hi502_1 hl502_1
    replace aF:=eq_true aF
    replace aG:=eq_true aG
    refine start_ (n:=15) (S:=fun w'=>w'.cell? (ah.add ((aa).toNat * 2))=some (.int .i64 ((rd_T65 l0 aa).f0))∧w'.cell? ⟨(ah.add ((aa).toNat * 2)).block,(ah.add ((aa).toNat * 2)).off+1,none⟩=some (.slice aD ((rd_T65 l0 aa).f1).length aE)∧w'.cell? (ai.add ((aa).toNat * 2))=some (.int .i64 ((rd_T65 l1 aa).f0))∧w'.cell? ⟨(ai.add ((aa).toNat * 2)).block,(ai.add ((aa).toNat * 2)).off+1,none⟩=some (.slice aH ((rd_T65 l1 aa).f1).length aI)) (ds:=[]) (bZ 15 0) (by kernel_rfl) rfl (by kernel_rfl) ⟨((HB.out.cell (World.block_lt_of_cell? w _ hw501_0)).trans hw501_0),((HB.out.cell (World.block_lt_of_cell? w _ hw501_1)).trans hw501_1),((HB.out.cell (World.block_lt_of_cell? w _ hw502_0)).trans hw502_0),((HB.out.cell (World.block_lt_of_cell? w _ hw502_1)).trans hw502_1)⟩ (fun hHeld=>?_);refine with_tabW exergueref12_Same.tab7 exergueref12_Same.bits7 (fun HT_ HW_=>?_)
    generalize w11.drew=w12 at HB az aA aj af ak ag hHeld ⊢
    refine q1 0 29 1 HT_ ?_
    refine q1 1 30 3 HT_ ?_
    refine q1 2 31 7 HT_ ?_
    refine q1 3 32 15 HT_ ?_
    refine q1 4 33 31 HT_ ?_
    refine q1 5 34 63 HT_ ?_
    refine q1 6 35 127 HT_ ?_
    refine q1 8 37 383 HT_ ?_
    refine q1 9 38 895 HT_ ?_
    refine q1 10 39 1919 HT_ ?_
    refine q1 11 40 3967 HT_ ?_
    refine q2 7 36 4095 HT_ HW_ hHeld ?_ (hy:=by rintro w' ⟨s0,s1,s2,s3⟩;go_simp;with_reducible rfl)
    refine q2 12 41 8191 HT_ HW_ hHeld ?_ (hy:=by rintro w' ⟨s0,s1,s2,s3⟩;go_simp;with_reducible rfl)
    refine q1 13 42 16383 HT_ ?_
    refine q1 14 43 32767 HT_ ?_
    refine done_ (done_of HT_.out (by kernel_rfl)) ?_
    try go_wp2
    go_roundg k1
    case measure=>have:=HK1.out;omega
    case rel=>exact ⟨(wrap64 (aa+1)),(by first|rfl|(simp;done)|(simp [*];done)),H',⟨by have:=HK1.out;omega⟩,⟨bQ HB⟩⟩
   rw [if_neg c9] at H
   have aW:(((rd_T65 l0 aa).f0) == ((rd_T65 l1 aa).f0))=false:=zF c9
   have aX:(((rd_T65 l0 aa).f0) != ((rd_T65 l1 aa).f0))=true:=zI c9
   obtain rfl:=zE H
   try go_wp2
   replace HB:=zS (below_drew1 HB.out)
   have av:0≤(aa:Int):=zB (by first|(with_reducible assumption)|assumption)
   have aw:aa<(l0.length:Int):=zB (by first|(with_reducible assumption)|assumption)
   obtain ⟨ah,an,ao,aJ,ad,ab,hl498_1,hi498_1⟩:=at_T65 HR0.out aa av aw
   have hw498_1:=ab
   have hw498_0:=ad
   cases aJ
   replace ad:=(HB.out.cell (World.block_lt_of_cell? w _ ad)).trans ad
   replace ab:=(HB.out.cell (World.block_lt_of_cell? w _ ab)).trans ab
   have al:=zS hi498_1
   have ar:=zS hl498_1
   clear hi498_1 hl498_1
   replace av:=eq_true av
   replace aw:=eq_true aw
   have ax:0≤(aa:Int):=zB (by first|(with_reducible assumption)|assumption)
   have ay:aa<(l1.length:Int):=zB (by first|(with_reducible assumption)|assumption)
   obtain ⟨ai,ap,aq,aK,ae,ac,hl499_1,hi499_1⟩:=at_T65 HR1.out aa ax ay
   have hw499_1:=ac
   have hw499_0:=ae
   cases aK
   replace ae:=(HB.out.cell (World.block_lt_of_cell? w _ ae)).trans ae
   replace ac:=(HB.out.cell (World.block_lt_of_cell? w _ ac)).trans ac
   have am:=zS hi499_1
   have au:=zS hl499_1
   clear hi499_1 hl499_1
   replace ax:=eq_true ax
   replace ay:=eq_true ay
   refine start_ (n:=12) (S:=fun w'=>w'.cell? (ah.add ((aa).toNat * 2))=some (.int .i64 ((rd_T65 l0 aa).f0))∧w'.cell? ⟨(ah.add ((aa).toNat * 2)).block,(ah.add ((aa).toNat * 2)).off+1,none⟩=some (.slice an ((rd_T65 l0 aa).f1).length ao)∧w'.cell? (ai.add ((aa).toNat * 2))=some (.int .i64 ((rd_T65 l1 aa).f0))∧w'.cell? ⟨(ai.add ((aa).toNat * 2)).block,(ai.add ((aa).toNat * 2)).off+1,none⟩=some (.slice ap ((rd_T65 l1 aa).f1).length aq)) (ds:=[]) (bZ 12 0) (by kernel_rfl) rfl (by kernel_rfl) ⟨((HB.out.cell (World.block_lt_of_cell? w _ hw498_0)).trans hw498_0),((HB.out.cell (World.block_lt_of_cell? w _ hw498_1)).trans hw498_1),((HB.out.cell (World.block_lt_of_cell? w _ hw499_0)).trans hw499_0),((HB.out.cell (World.block_lt_of_cell? w _ hw499_1)).trans hw499_1)⟩ (fun hHeld=>?_);refine with_tabW exergueref12_Same.tab6 exergueref12_Same.bits6 (fun HT_ HW_=>?_)
   generalize wr.drew=w13 at HB al am ad ab ae ac hHeld ⊢
   refine q1 0 18 1 HT_ ?_
   refine q1 1 19 3 HT_ ?_
   refine q1 2 20 7 HT_ ?_
   refine q1 3 21 15 HT_ ?_
   refine q1 5 23 47 HT_ ?_
   refine q1 6 24 111 HT_ ?_
   refine q1 7 25 239 HT_ ?_
   refine q1 8 26 495 HT_ ?_
   refine q2 4 22 511 HT_ HW_ hHeld ?_ (hy:=by rintro w' ⟨s0,s1,s2,s3⟩;go_simp;with_reducible rfl)
   refine q2 9 27 1023 HT_ HW_ hHeld ?_ (hy:=by rintro w' ⟨s0,s1,s2,s3⟩;go_simp;with_reducible rfl)
   refine one_ (i:=10) (N:=some 28) (bZ 12 2047) rfl rfl (one_of HT_.out (by kernel_rfl)) (by decide) (fun K hK=>?_)
   refine goes_ Tryz.func34 (by kernel_rfl) rfl #[.slice an ((rd_T65 l0 aa).f1).length ao,.slice ap ((rd_T65 l1 aa).f1).length aq] (by rfl) rfl rfl (by (try simp only [mA,mB,mC]);first|done|rfl|(simp only [lD,lT];rfl)) ?_
   with_reducible refine (exergueref11_Same.calls k1 _ _ ((rd_T65 l0 aa).f1) _ _ ((rd_T65 l1 aa).f1) true _ ?side1 ?side2 ?side3 ?side4 A7.out).mono ?_
   (case side1=>exact Kd.C_below al.out (bQ HB))
   (case side2=>exact ar.out)
   (case side3=>exact Kd.C_below am.out (bQ HB))
   (case side4=>exact au.out)
   rintro e w14 ⟨rfl,hb⟩
   refine ⟨_,rfl,?_⟩
   replace HB:=bs HB hb
   (try clear hb)
   (try clear hb2)
   (try clear hk)
   (try clear hi)
   refine hK.out _ _ ⟨((HB.out.cell (World.block_lt_of_cell? w _ hw498_0)).trans hw498_0),((HB.out.cell (World.block_lt_of_cell? w _ hw498_1)).trans hw498_1),((HB.out.cell (World.block_lt_of_cell? w _ hw499_0)).trans hw499_0),((HB.out.cell (World.block_lt_of_cell? w _ hw499_1)).trans hw499_1)⟩ (fun hHeld=>?_)
   clear hK K
   refine norm_ (a':=?_) ?_ ?_
   rotate_left
   ·show Act.put _ (some 28) _=_
    simp only [Act.put,sA,sB,sC,i64_w,i32_w]
    rfl
   refine q1 11 6 4095 HT_ ?_
   refine done_ (done_of HT_.out (by kernel_rfl)) ?_
   try go_wp2
   replace HB:=zS (below_drew1 HB.out)
   have aB:0≤(aa:Int):=zB (by first|(with_reducible assumption)|assumption)
   have aC:aa<(l0.length:Int):=zB (by first|(with_reducible assumption)|assumption)
   obtain ⟨aL,aD,aE,aQ,aj,af,hl501_1,hi501_1⟩:=at_T65 HR0.out aa aB aC
   have hw501_1:=af
   have hw501_0:=aj
   obtain rfl:ah=aL:=(by injection aQ)
   try (have ea_:=zE (ab.symm.trans af);injection ea_ with ea_ en_ ec_;subst ea_;subst ec_;clear en_)
   replace aj:=(HB.out.cell (World.block_lt_of_cell? w _ aj)).trans aj
   replace af:=(HB.out.cell (World.block_lt_of_cell? w _ af)).trans af
   have az:=zS hi501_1
   have aN:=zS hl501_1
   clear hi501_1 hl501_1
   replace aB:=eq_true aB
   replace aC:=eq_true aC
   have aF:0≤(aa:Int):=zB (by first|(with_reducible assumption)|assumption)
   have aG:aa<(l1.length:Int):=zB (by first|(with_reducible assumption)|assumption)
   obtain ⟨aM,aH,aI,aR,ak,ag,hl502_1,hi502_1⟩:=at_T65 HR1.out aa aF aG
   have hw502_1:=ag
   have hw502_0:=ak
   obtain rfl:ai=aM:=(by injection aR)
   try (have ea_:=zE (ac.symm.trans ag);injection ea_ with ea_ en_ ec_;subst ea_;subst ec_;clear en_)
   replace ak:=(HB.out.cell (World.block_lt_of_cell? w _ ak)).trans ak
   replace ag:=(HB.out.cell (World.block_lt_of_cell? w _ ag)).trans ag
   have aA:=zS hi502_1
   have aO:=zS hl502_1
   clear hi502_1 hl502_1
   replace aF:=eq_true aF
   replace aG:=eq_true aG
   refine start_ (n:=15) (S:=fun w'=>w'.cell? (ah.add ((aa).toNat * 2))=some (.int .i64 ((rd_T65 l0 aa).f0))∧w'.cell? ⟨(ah.add ((aa).toNat * 2)).block,(ah.add ((aa).toNat * 2)).off+1,none⟩=some (.slice aD ((rd_T65 l0 aa).f1).length aE)∧w'.cell? (ai.add ((aa).toNat * 2))=some (.int .i64 ((rd_T65 l1 aa).f0))∧w'.cell? ⟨(ai.add ((aa).toNat * 2)).block,(ai.add ((aa).toNat * 2)).off+1,none⟩=some (.slice aH ((rd_T65 l1 aa).f1).length aI)) (ds:=[]) (bZ 15 0) (by kernel_rfl) rfl (by kernel_rfl) ⟨((HB.out.cell (World.block_lt_of_cell? w _ hw501_0)).trans hw501_0),((HB.out.cell (World.block_lt_of_cell? w _ hw501_1)).trans hw501_1),((HB.out.cell (World.block_lt_of_cell? w _ hw502_0)).trans hw502_0),((HB.out.cell (World.block_lt_of_cell? w _ hw502_1)).trans hw502_1)⟩ (fun hHeld=>?_);refine with_tabW exergueref12_Same.tab7 exergueref12_Same.bits7 (fun HT_ HW_=>?_)
   generalize w14.drew=w15 at HB az aA aj af ak ag hHeld ⊢
   refine q1 0 29 1 HT_ ?_
   refine q1 1 30 3 HT_ ?_
   refine q1 2 31 7 HT_ ?_
   refine q1 3 32 15 HT_ ?_
   refine q1 4 33 31 HT_ ?_
   refine q1 5 34 63 HT_ ?_
   refine q1 6 35 127 HT_ ?_
   refine q1 8 37 383 HT_ ?_
   refine q1 9 38 895 HT_ ?_
   refine q1 10 39 1919 HT_ ?_
   refine q1 11 40 3967 HT_ ?_
   refine q2 7 36 4095 HT_ HW_ hHeld ?_ (hy:=by rintro w' ⟨s0,s1,s2,s3⟩;go_simp;with_reducible rfl)
   refine q2 12 41 8191 HT_ HW_ hHeld ?_ (hy:=by rintro w' ⟨s0,s1,s2,s3⟩;go_simp;with_reducible rfl)
   refine q1 13 42 16383 HT_ ?_
   refine q1 14 43 32767 HT_ ?_
   refine done_ (done_of HT_.out (by kernel_rfl)) ?_
   try go_wp2
   go_ret
   exact ⟨by first|rfl|(simp <;> rfl)|(simp [*] <;> rfl),bQ HB⟩
end Go.Proofs.YtgfajgkjbckkgaaGreatDoor.PZ
end
end
section
noncomputable section
namespace Go.Proofs.YtgfajgkjbckkgaaGreatDoor.PZ
open Go.RowKit Go.Proofs.YtgfajgkjbckkgaaGreatDoorW.PrintWords Go.Proofs.YtgfajgkjbckkgaaGreatDoorW.PrintLast Go.Proofs.YtgfajgkjbckkgaaGreatDoorW.PrintMore
attribute [local go_sem] max2_int min2_int max_two min_two max_three min_three max_four min_four   -- for this text's walks alone
mutual
def rule_written.j0:Nat→ByteArray→Int→Int→Bool→List (S57)→Option (ByteArray)
 | 0,_,_,_,_,_=>none
 | k+1,x3,aw,ax,ar,an=>if ar=true then (if x3.size+2≤9223372036854775807 then (rule_written.j1 k (x3 ++ (⟨#[32,33]⟩:ByteArray)) aw ax ar an) else (none)) else (if x3.size+1≤9223372036854775807 then (rule_written.j1 k (x3 ++ (⟨#[32]⟩:ByteArray)) aw ax ar an) else (none))
def rule_written.j1:Nat→ByteArray→Int→Int→Bool→List (S57)→Option (ByteArray)
 | 0,_,_,_,_,_=>none
 | k+1,x3,aw,ax,ar,an=>rule_written.l0 k x3 ([]:List ByteArray) an (an.length:Int) 0
def rule_written.l0:Nat→ByteArray→List ByteArray→List (S57)→Int→Int→Option (ByteArray)
 | 0,_,_,_,_,_=>none
 | k+1,x3,x4,x28,x29,x30=>if x30<x29 then (if 0≤x30 then (if x30<(x28.length:Int) then ((strconv_Itoa.f ((rd_T57 x28 x30).f0)).bind fun am=>(if ((rd_T57 x28 x30).f1)=((rd_T57 x28 x30).f0) then (if x4.length<8796093022208 then (rule_written.l0 k x3 (x4 ++ [am]) x28 x29 (wrap64 (x30+1))) else (none)) else ((strconv_Itoa.f ((rd_T57 x28 x30).f1)).bind fun ao=>(if 2+ao.size≤9223372036854775807 then (if am.size+((⟨#[46,46]⟩:ByteArray) ++ ao).size≤9223372036854775807 then (if x4.length<8796093022208 then (rule_written.l0 k x3 (x4 ++ [am ++ ((⟨#[46,46]⟩:ByteArray) ++ ao)]) x28 x29 (wrap64 (x30+1))) else (none)) else (none)) else (none))))) else (none)) else (none)) else (if x3.size+2≤9223372036854775807 then ((strings_Join.f x4 (⟨#[44]⟩:ByteArray)).bind fun aE=>(if (x3 ++ (⟨#[61,32]⟩:ByteArray)).size+aE.size≤9223372036854775807 then (some ((x3 ++ (⟨#[61,32]⟩:ByteArray)) ++ aE)) else (none))) else (none))
end
def rule_written.f (k:Nat)(af:Int)(ae:Int)(ak:Bool)(ac:List (S57)):Option (ByteArray):=(some (([af]:List Int):List Int)).bind fun al=>(if ae=0 then (rule_written.j0 k (strOfNums al) af ae ak ac) else ((strconv_Itoa.f ae).bind fun ag=>(if 3+ag.size≤9223372036854775807 then (if (strOfNums al).size+((⟨#[32,37,32]⟩:ByteArray) ++ ag).size≤9223372036854775807 then (rule_written.j0 k ((strOfNums al) ++ ((⟨#[32,37,32]⟩:ByteArray) ++ ag)) af ae ak ac) else (none)) else (none))))
theorem rule_written.mono_l:∀ k,(∀ y0 y1 y2 y3 y4,LeO (rule_written.j0 k y0 y1 y2 y3 y4) (rule_written.j0 (k+1) y0 y1 y2 y3 y4))∧(∀ y0 y1 y2 y3 y4,LeO (rule_written.j1 k y0 y1 y2 y3 y4) (rule_written.j1 (k+1) y0 y1 y2 y3 y4))∧(∀ y0 y1 y2 y3 y4,LeO (rule_written.l0 k y0 y1 y2 y3 y4) (rule_written.l0 (k+1) y0 y1 y2 y3 y4))
 | 0=>⟨fun _ _ _ _ _ r h=>by simp [rule_written.j0] at h,fun _ _ _ _ _ r h=>by simp [rule_written.j1] at h,fun _ _ _ _ _ r h=>by simp [rule_written.l0] at h⟩
 | k+1=>by
  obtain ⟨ih0,ih1,ih2⟩:=rule_written.mono_l k
  refine ⟨?_,?_,?_⟩
  ·intro y0 y1 y2 y3 y4
   unfold rule_written.j0
   repeat' first|(with_reducible first|apply ih0|apply ih1|apply ih2|apply LeO.refl|apply LeO.none|refine LeO.ite ?_ ?_|refine LeO.bind ?_ (fun _=>?_))|apply ih0|apply ih1|apply ih2|apply LeO.none
  ·intro y0 y1 y2 y3 y4
   unfold rule_written.j1
   repeat' first|(with_reducible first|apply ih0|apply ih1|apply ih2|apply LeO.refl|apply LeO.none|refine LeO.ite ?_ ?_|refine LeO.bind ?_ (fun _=>?_))|apply ih0|apply ih1|apply ih2|apply LeO.none
  ·intro y0 y1 y2 y3 y4
   unfold rule_written.l0
   repeat' first|(with_reducible first|apply ih0|apply ih1|apply ih2|apply LeO.refl|apply LeO.none|refine LeO.ite ?_ ?_|refine LeO.bind ?_ (fun _=>?_))|apply ih0|apply ih1|apply ih2|apply LeO.none
theorem rule_written.mono:∀ a0 a1 a2 a3 k,LeO (rule_written.f k a0 a1 a2 a3) (rule_written.f (k+1) a0 a1 a2 a3):=by
 intro a0 a1 a2 a3 k
 obtain ⟨ih0,ih1,ih2⟩:=rule_written.mono_l k
 unfold rule_written.f
 repeat' first|(with_reducible first|apply ih0|apply ih1|apply ih2|apply LeO.refl|apply LeO.none|refine LeO.ite ?_ ?_|refine LeO.bind ?_ (fun _=>?_))|apply ih0|apply ih1|apply ih2|apply LeO.none
set_option maxHeartbeats 8000000 in
set_option maxRecDepth 100000 in
theorem rule_written.calls (k:Nat)(af:Int)(ae:Int)(ak:Bool)(aI:Option Addr)(aJ:Nat)(ac:List (S57))(r:ByteArray)(w:World)(hG:GL w)(aZ:Kd.C k57 w aI ac.length ac)(a4:ac.length≤aJ)(h:rule_written.f k af ae ak ac=some r) :
  Calls Tryz.prog 56 #[.agg #[.int .u8 af,.int .i64 ae,.bool ak,.slice aI ac.length aJ]] w fun e w'=>e = .returned (.string r)∧Below w.heap.size w w':=by
 have hu60:=Tryz.underlying60
 have hu57:=Tryz.underlying57
 have a5:=zS aZ
 have bL:=zS a4
 clear aZ a4
 have HB:=zS (Below.refl w.heap.size w)
 have HG:=zS hG
 clear hG
 have H:((some (([af]:List Int):List Int)).bind fun al=>(if ae=0 then (rule_written.j0 k (strOfNums al) af ae ak ac) else ((strconv_Itoa.f ae).bind fun ag=>(if 3+ag.size≤9223372036854775807 then (if (strOfNums al).size+((⟨#[32,37,32]⟩:ByteArray) ++ ag).size≤9223372036854775807 then (rule_written.j0 k ((strOfNums al) ++ ((⟨#[32,37,32]⟩:ByteArray) ++ ag)) af ae ak ac) else (none)) else (none)))))=some r:=h
 clear h
 obtain ⟨al,az⟩:∃ y_:List Int,y_=(([af]:List Int)):=⟨_,rfl⟩
 replace H:(if ae=0 then (rule_written.j0 k (strOfNums al) af ae ak ac) else ((strconv_Itoa.f ae).bind fun ag=>(if 3+ag.size≤9223372036854775807 then (if (strOfNums al).size+((⟨#[32,37,32]⟩:ByteArray) ++ ag).size≤9223372036854775807 then (rule_written.j0 k ((strOfNums al) ++ ((⟨#[32,37,32]⟩:ByteArray) ++ ag)) af ae ak ac) else (none)) else (none))))=some r:=by first|(rw [az];with_reducible exact H)|(have H2_:=(Option.bind_some _ _).symm.trans H;rw [az];with_reducible exact H2_)|(have H2_:=(Option.bind_some _ _).symm.trans H;with_reducible exact H2_)|with_reducible exact H|(rw [az];exact H)|exact H
 have a6:=zS az
 clear az
 have HC2:=zS H
 clear H
 go_enter Tryz.func56,Tryz.ntmps56
 go_upto_if 14 with (first|((with_reducible refine gate_dst (N:=1) rfl ?_);refine box_event ?hg (N:=1) ?hd (cs:=#[.int .u8 af,.int .i64 ae,.bool ak,.slice aI ac.length aJ]) (t:=60) ?hr ?_;(case hd=>rfl);(case hg=>rfl);(case hr=>first|(go_simp;done)|(go_simp;rfl));intro aM hg w3 hbox hb;have aa:=zS (hbox);have bM:=bg HB hg;replace HB:=bs HB hb;clear hb hbox hg;have bf:=blkc4 aa.out;have bh:=blkf4 aa.out)|((with_reducible refine gate_dst (N:=10) rfl ?_);refine Kd.R_lit (Kd.int .u8) _ 5 ?hg (N:=10) ?hd (xs:=([af]:List Int)) (inner:=[.int .u8 af]) (ok:=fun _=>True) (okp:=fun _=>True) ?hr ?hp (fun _ hk=>hk) trivial (Below.refl _ _) (Nat.le_refl _) (by simp) ?_;(case hd=>rfl);(case hg=>rfl);(case hr=>first|(go_simp;done)|(go_simp;rfl));(case hp=>exact (Reps.one (show Kd.M (Kd.int .u8) _ _ _ af [.int .u8 af] from rfl) (Reps.none _ _)));intro ci w5 ho6 hb hg_ hnew_;clear hg_ hnew_;(first|rw [← a6.out] at ho6|(simp only [Int.reduceToNat] at ho6;rw [← a6.out] at ho6));have aN:=zS (Kd.R_lower ho6 (bz HB));replace aa:=kb aa hb;replace HB:=bs HB hb;clear hb ho6;have hcv7:=own_string (P:=Tryz.prog) Tryz.underlying34 Tryz.underlying5 Tryz.underlying9 (Kd.own_of_R aN.out);have bi:=blkc4 aa.out;have bj:=blkf4 aa.out))
 (try simp only [Act.put,sA,sB,sC])
 go_cut [3] (fun v3 wc=>∃ (kq:Nat) (ay:ByteArray),v3 = .string ay∧Sd (rule_written.j0 kq ay af ae ak ac=some r)∧Sd (kq≤k)∧Sd (wc.heap[aM]?=some (.cells #[.int .u8 af,.int .i64 ae,.bool ak,(.slice aI ac.length aJ)] 60 (0,0)))∧Sd (Below w.heap.size w wc))
 case first=>
  have H:=HC2.out
  clear HC2
  by_cases c9:ae=0
  ·rw [if_pos c9] at H
   have aA:(ae == 0)=true:=zH c9
   have aK:(ae != 0)=false:=zG c9
   clear c9
   (first|rw [aA]|(simp only [i64_w,i32_w];rw [aA])|rw [aK]|skip)
   have H':=zS H
   clear H
   go_wp2
   go_meet
   case rel=>exact ⟨_,(strOfNums al),(by first|rfl|(simp;done)|(simp [*];done)),H',⟨by first|omega|exact Nat.le_refl _⟩,⟨ko aa⟩,⟨bQ HB⟩⟩
  rw [if_neg c9] at H
  have aA:(ae == 0)=false:=zF c9
  have aK:(ae != 0)=true:=zI c9
  (first|rw [aA]|(simp only [i64_w,i32_w];rw [aA])|rw [aK]|skip)
  replace H:=Option.bind_eq_some_iff.mp H
  obtain ⟨ag,bn,H⟩:=H
  try dsimp only at H
  have A10:=zS bn
  clear bn
  by_cases c11:3+ag.size≤9223372036854775807
  rotate_left
  ·rw [if_neg c11] at H
   exact absurd H (by simp)
  rw [if_pos c11] at H
  have aQ:=eq_true c11
  have aR:=zC c11
  try have aT:(9223372036854775807<3+ag.size)=False:=eq_false (Nat.not_lt.2 c11)
  by_cases c12:(strOfNums al).size+((⟨#[32,37,32]⟩:ByteArray) ++ ag).size≤9223372036854775807
  ·rw [if_pos c12] at H
   have aU:=eq_true c12
   have aV:=zC c12
   try have aW:(9223372036854775807<(strOfNums al).size+((⟨#[32,37,32]⟩:ByteArray) ++ ag).size)=False:=eq_false (Nat.not_lt.2 c12)
   try have bN:(9223372036854775807<(strOfNums al).size+(3+ag.size))=False:=eq_false (by have h_:=c12;simp only [ByteArray.size_append,show (⟨#[32,37,32]⟩:ByteArray).size=3 from rfl] at h_;omega)
   have H':=zS H
   clear H
   have aX:=blkc4 aa.out
   have aY:=blkf4 aa.out
   go_wp2_with (first|((with_reducible refine gate_callee (f:=75) rfl ?_);refine gL (some 18) Tryz.func75 #[.int .i64 ae] ?_;(with_reducible refine (strconv_Itoa.calls ae ag _ ?side1 A10.out).mono ?_);(case side1=>refine GL.below HG.out ?_;exact bQ HB);rintro e w14 ⟨rfl,hb⟩;refine ⟨_,rfl,?_⟩;replace aN:=rb aN hb;replace aa:=kb aa hb;replace HB:=bs HB hb;(try clear hb)))
   go_meet
   case rel=>exact ⟨_,((strOfNums al) ++ ((⟨#[32,37,32]⟩:ByteArray) ++ ag)),(by first|rfl|(simp;done)|(simp [*];done)),H',⟨by first|omega|exact Nat.le_refl _⟩,⟨ko aa⟩,⟨bQ HB⟩⟩
  rw [if_neg c12] at H
  exact absurd H (by simp)
 case rest=>
  clear HC2
  try clear c1
  try clear p2
  try clear c5
  try clear c7
  try clear hcv7
  try clear c9
  try clear aA
  try clear aK
  try clear c11
  try clear aQ
  try clear aR
  try clear aT
  try clear c12
  try clear aU
  try clear aV
  try clear aW
  try clear aX
  try clear bf
  try clear bi
  try clear aY
  try clear bh
  try clear bj
  obtain ⟨kq,ay,rfl,HA,HJ1,aa,HB⟩:=hcut
  cases kq with
  | zero=>exact absurd HA.out (by simp [rule_written.j0])
  | succ kj1=>
   have H:=HA.out
   clear HA
   simp only [rule_written.j0] at H
   have bk:=zS H
   clear H
   have a7:=blkc4 aa.out
   have a8:=blkf4 aa.out
   go_upto_if 22 with (fail)
   go_cut [3] (fun v3 wc=>∃ (kq:Nat) (aj:ByteArray),v3 = .string aj∧Sd (rule_written.j1 kq aj af ae ak ac=some r)∧Sd (kq≤kj1)∧Sd (wc.heap[aM]?=some (.cells #[.int .u8 af,.int .i64 ae,.bool ak,(.slice aI ac.length aJ)] 60 (0,0)))∧Sd (Below w.heap.size w wc))
   case first=>
    have H:=bk.out
    clear bk
    by_cases c17:ak=true
    ·subst c17
     rw [if_pos rfl] at H
     by_cases c18:ay.size+2≤9223372036854775807
     ·rw [if_pos c18] at H
      have a9:=eq_true c18
      have ba:=zC c18
      try have bb:(9223372036854775807<ay.size+2)=False:=eq_false (Nat.not_lt.2 c18)
      have H':=zS H
      clear H
      go_wp2
      go_meet
      case rel=>exact ⟨_,(ay ++ (⟨#[32,33]⟩:ByteArray)),(by first|rfl|(simp;done)|(simp [*];done)),H',⟨by have:=HJ1.out;first|omega|exact Nat.le_refl _⟩,⟨ko aa⟩,⟨bQ HB⟩⟩
     rw [if_neg c18] at H
     exact absurd H (by simp)
    replace c17:=Bool.eq_false_iff.mpr c17
    subst c17
    rw [if_neg (show ¬ (false=true) by decide)] at H
    by_cases c19:ay.size+1≤9223372036854775807
    ·rw [if_pos c19] at H
     have bc:=eq_true c19
     have bd:=zC c19
     try have be:(9223372036854775807<ay.size+1)=False:=eq_false (Nat.not_lt.2 c19)
     have H':=zS H
     clear H
     go_wp2
     go_meet
     case rel=>exact ⟨_,(ay ++ (⟨#[32]⟩:ByteArray)),(by first|rfl|(simp;done)|(simp [*];done)),H',⟨by have:=HJ1.out;first|omega|exact Nat.le_refl _⟩,⟨ko aa⟩,⟨bQ HB⟩⟩
    rw [if_neg c19] at H
    exact absurd H (by simp)
   case rest=>
    clear bk
    try clear c1
    try clear p2
    try clear c5
    try clear c7
    try clear hcv7
    try clear c9
    try clear aA
    try clear aK
    try clear c11
    try clear aQ
    try clear aR
    try clear aT
    try clear c12
    try clear aU
    try clear aV
    try clear aW
    try clear c17
    try clear c18
    try clear a9
    try clear ba
    try clear bb
    try clear c19
    try clear bc
    try clear bd
    try clear be
    try clear aX
    try clear a7
    try clear bf
    try clear bi
    try clear aY
    try clear a8
    try clear bh
    try clear bj
    try clear p2
    obtain ⟨kq,aj,rfl,HA,HJ14,aa,HB⟩:=hcut
    cases kq with
    | zero=>exact absurd HA.out (by simp [rule_written.j1])
    | succ kj14=>
     have H:=HA.out
     clear HA
     simp only [rule_written.j1] at H
     have H':=zS H
     clear H
     have bo:=blkc4 aa.out
     have bp:=blkf4 aa.out
     go_wp2
     go_loopg [4,30] kj14 (fun kq v4 v30 w'=>∃ (au:List ByteArray) (ab:Int),v30 = .int .i64 ab∧Sd (rule_written.l0 kq aj au ac (ac.length:Int) ab=some r)∧Sd (kq≤kj14)∧Sd (Kd.R Kd.string 9 w' w.heap.size (fun _=>True) v4 au)∧Sd (w'.heap[aM]?=some (.cells #[.int .u8 af,.int .i64 ae,.bool ak,(.slice aI ac.length aJ)] 60 (0,0)))∧Sd (Below w.heap.size w w'))
     case atStart=>exact ⟨(([]:List ByteArray)),(0),(by first|rfl|(simp;done)|(simp [*];done)),H',⟨Nat.le_refl _⟩,⟨by first|exact Kd.R_nil _ _ _ _ _|exact Kd.N_nil _ _ _ _ _|exact Kd.V_nil _ _ _ _ _|exact Kd.Q_nil _ _ _ _ _|exact Kd.S_nil _ _ _ _ _⟩,⟨ko aa⟩,⟨bQ HB⟩⟩
     case round=>
      clear H'
      try clear c1
      try clear p2
      try clear c5
      try clear c7
      try clear hcv7
      try clear c9
      try clear aA
      try clear aK
      try clear c11
      try clear aQ
      try clear aR
      try clear aT
      try clear c12
      try clear aU
      try clear aV
      try clear aW
      try clear c17
      try clear c18
      try clear a9
      try clear ba
      try clear bb
      try clear c19
      try clear bc
      try clear bd
      try clear be
      try clear aX
      try clear a7
      try clear bo
      try clear bf
      try clear bi
      try clear aY
      try clear a8
      try clear bp
      try clear bh
      try clear bj
      try clear p2
      obtain ⟨au,ab,rfl,HA,HK3,HO_4,aa,HB⟩:=hrel
      cases gk with
      | zero=>exact absurd HA.out (by simp [rule_written.l0])
      | succ k3=>
       have H:=HA.out
       clear HA
       simp only [rule_written.l0] at H
       by_cases c21:ab<(ac.length:Int)
       rotate_left
       ·rw [if_neg c21] at H
        have bq:=zD c21
        clear c21
        by_cases c44:aj.size+2≤9223372036854775807
        rotate_left
        ·rw [if_neg c44] at H
         exact absurd H (by simp)
        rw [if_pos c44] at H
        have bO:=eq_true c44
        have bP:=zC c44
        try have bR:(9223372036854775807<aj.size+2)=False:=eq_false (Nat.not_lt.2 c44)
        replace H:=Option.bind_eq_some_iff.mp H
        obtain ⟨aE,br,H⟩:=H
        try dsimp only at H
        have A45:=zS br
        clear br
        by_cases c46:(aj ++ (⟨#[61,32]⟩:ByteArray)).size+aE.size≤9223372036854775807
        ·rw [if_pos c46] at H
         have bS:=eq_true c46
         have bT:=zC c46
         try have bU:(9223372036854775807<(aj ++ (⟨#[61,32]⟩:ByteArray)).size+aE.size)=False:=eq_false (Nat.not_lt.2 c46)
         try have bV:(9223372036854775807<aj.size+2+aE.size)=False:=eq_false (by have h_:=c46;simp only [ByteArray.size_append,show (⟨#[61,32]⟩:ByteArray).size=2 from rfl] at h_;omega)
         obtain rfl:=zE H
         obtain ⟨bI,bJ,bK⟩:=Kd.R_slice HO_4.out
         subst bK
         go_wp2_with (first|((with_reducible refine gate_callee (f:=57) rfl ?_);refine gL (some 56) Tryz.func57 #[.slice bI au.length bJ,.string (⟨#[44]⟩:ByteArray)] ?_;(with_reducible refine (strings_Join.calls _ _ au (⟨#[44]⟩:ByteArray) aE _ (rc HO_4) (rl HO_4) A45.out).mono ?_);rintro e w48 ⟨rfl,hb⟩;refine ⟨_,rfl,?_⟩;replace HO_4:=rb HO_4 hb;replace aa:=kb aa hb;replace HB:=bs HB hb;(try clear hb)))
         go_ret
         exact ⟨by first|rfl|(simp <;> rfl)|(simp [*] <;> rfl),bQ HB⟩
        rw [if_neg c46] at H
        exact absurd H (by simp)
       rw [if_pos c21] at H
       have bq:=zC c21
       clear c21
       by_cases c22:0≤ab
       rotate_left
       ·rw [if_neg c22] at H
        exact absurd H (by simp)
       rw [if_pos c22] at H
       have bW:=zC c22
       clear c22
       by_cases c23:ab<(ac.length:Int)
       rotate_left
       ·rw [if_neg c23] at H
        exact absurd H (by simp)
       rw [if_pos c23] at H
       have bX:=zC c23
       clear c23
       replace H:=Option.bind_eq_some_iff.mp H
       obtain ⟨am,bu,H⟩:=H
       try dsimp only at H
       have A24:=zS bu
       clear bu
       by_cases c25:((rd_T57 ac ab).f1)=((rd_T57 ac ab).f0)
       ·rw [if_pos c25] at H
        have bv:(((rd_T57 ac ab).f1) == ((rd_T57 ac ab).f0))=true:=zH c25
        have bw:(((rd_T57 ac ab).f1) != ((rd_T57 ac ab).f0))=false:=zG c25
        clear c25
        by_cases c26:au.length<8796093022208
        rotate_left
        ·rw [if_neg c26] at H
         exact absurd H (by simp)
        rw [if_pos c26] at H
        have LMc26:=zS c26
        clear c26
        obtain ⟨bx,aC⟩:∃ y_:List ByteArray,y_=(au ++ [am]):=⟨_,rfl⟩
        replace H:(rule_written.l0 k3 aj bx ac (ac.length:Int) (wrap64 (ab+1)))=some r:=by first|(rw [aC];with_reducible exact H)|(have H2_:=(Option.bind_some _ _).symm.trans H;rw [aC];with_reducible exact H2_)|(have H2_:=(Option.bind_some _ _).symm.trans H;with_reducible exact H2_)|with_reducible exact H|(rw [aC];exact H)|exact H
        have bA:=zS aC
        clear aC
        have H':=zS H
        clear H
        have aG:0≤(ab:Int):=zB (by first|(with_reducible assumption)|assumption)
        have aH:ab<(ac.length:Int):=zB (by first|(with_reducible assumption)|assumption)
        obtain ⟨bB,bm,ah,ai⟩:=at_T57 a5.out ab aG aH
        cases bm
        replace ah:=(HB.out.cell (World.block_lt_of_cell? w _ ah)).trans ah
        replace ai:=(HB.out.cell (World.block_lt_of_cell? w _ ai)).trans ai
        replace aG:=eq_true aG
        replace aH:=eq_true aH
        go_wp2_with (first|((with_reducible refine gate_dst (N:=6) rfl ?_);refine box_event ?hg (N:=6) ?hd (cs:=#[.int .i64 0,.int .i64 0]) (t:=57) ?hr ?_;(case hd=>rfl);(case hg=>rfl);(case hr=>first|(go_simp;done)|(go_simp;rfl));intro av hg w27 hbox hb;replace HO_4:=rb HO_4 hb;have ad:=zS (hbox);have bC:=bg HB hg;replace HB:=bs HB hb;have ap:=kn aa hg;have aq:=km aa hg;replace aa:=kb aa hb;clear hb hbox hg;have bY:=aq.out;have bZ:=ap.out;have b0:=blkc2 ad.out;have b1:=blkf2 ad.out)|((with_reducible refine gate_callee (f:=75) rfl ?_);refine gL (some 36) Tryz.func75 #[.int .i64 ((rd_T57 ac ab).f0)] ?_;(with_reducible refine (strconv_Itoa.calls ((rd_T57 ac ab).f0) am _ ?side1 A24.out).mono ?_);(case side1=>refine GL.below HG.out ?_;exact bQ HB);rintro e w30 ⟨rfl,hb⟩;refine ⟨_,rfl,?_⟩;replace HO_4:=zS (Kd.R_below (by (with_reducible repeat (first|apply Kd.R_alloc|apply Kd.R_drewN|apply Kd.R_drew));exact (Kd.R_mono (Kd.R_far (p:=⟨av,1,none⟩) (Kd.R_far (p:=⟨av,0,none⟩) (Kd.R_types HO_4.out ad.out (by decide)) (fun _ hk=>hk.2) (.int .i64 ((rd_T57 ac ab).f0))) (fun _ hk=>hk.2) (.int .i64 ((rd_T57 ac ab).f1))) (fun _ h_=>h_.1))) hb);replace aa:=kb aa hb;replace ad:=zS (blk_below (g:=av) (o:=.cells #[.int .i64 ((rd_T57 ac ab).f0),.int .i64 ((rd_T57 ac ab).f1)] 57 (0,0)) (kp ad rfl) hb);replace HB:=bs HB hb;(try clear hb);(try clear hk);have b2:=blkc2 ad.out;have b3:=blkf2 ad.out)|((with_reducible refine gate_builtin (b:=.append) (xs:=#[.tmp 48,.tmp 50]) rfl ?_);at_builtin;refine Kd.R_append Kd.string (w0:=w) w.heap.size rfl (.tmp 48) (.tmp 50) 76 9 (.string ⟨#[]⟩) 16 rfl Tryz.underlying76 info9 rfl (by decide) (by omega) u4 au am [.string am] (fun _=>True) (fun _=>False) rfl rfl ?aP (fun _ hk=>hk.elim) ?aF ?aO ?aB ?aS ?aL ?_;(case aP=>exact rfl);(case aB=>exact (bQ HB));(case aF=>exact (fun _ _=>trivial));(case aO=>exact (ro HO_4));(case aS=>exact (bz HB));(case aL=>have:=LMc26.out;omega);intro cj w32 ho hb hg hat;rw [← bA.out] at ho;replace aa:=zS (blk_grown (ko aa) hg (Kd.R_ne HO_4.out aa.out (by decide)));replace ad:=zS (blk_grown (ko ad) hg (Kd.R_ne HO_4.out ad.out (by decide)));replace HB:=zS (hb);have bD:=zS (ho);clear HO_4;clear ho hb hg hat))
        go_roundg k3
        case measure=>have:=HJ1.out;have:=HJ14.out;have:=HK3.out;omega
        case rel=>exact ⟨(bx),(wrap64 (ab+1)),(by first|rfl|(simp;done)|(simp [*];done)),H',⟨by have:=HJ1.out;have:=HJ14.out;have:=HK3.out;omega⟩,⟨ro bD⟩,⟨ko aa⟩,⟨bQ HB⟩⟩
       rw [if_neg c25] at H
       have bv:(((rd_T57 ac ab).f1) == ((rd_T57 ac ab).f0))=false:=zF c25
       have bw:(((rd_T57 ac ab).f1) != ((rd_T57 ac ab).f0))=true:=zI c25
       replace H:=Option.bind_eq_some_iff.mp H
       obtain ⟨ao,bE,H⟩:=H
       try dsimp only at H
       have A33:=zS bE
       clear bE
       by_cases c34:2+ao.size≤9223372036854775807
       rotate_left
       ·rw [if_neg c34] at H
        exact absurd H (by simp)
       rw [if_pos c34] at H
       have b4:=eq_true c34
       have b5:=zC c34
       try have b6:(9223372036854775807<2+ao.size)=False:=eq_false (Nat.not_lt.2 c34)
       by_cases c35:am.size+((⟨#[46,46]⟩:ByteArray) ++ ao).size≤9223372036854775807
       rotate_left
       ·rw [if_neg c35] at H
        exact absurd H (by simp)
       rw [if_pos c35] at H
       have b7:=eq_true c35
       have b8:=zC c35
       try have b9:(9223372036854775807<am.size+((⟨#[46,46]⟩:ByteArray) ++ ao).size)=False:=eq_false (Nat.not_lt.2 c35)
       try have ca:(9223372036854775807<am.size+(2+ao.size))=False:=eq_false (by have h_:=c35;simp only [ByteArray.size_append,show (⟨#[46,46]⟩:ByteArray).size=2 from rfl] at h_;omega)
       by_cases c36:au.length<8796093022208
       rotate_left
       ·rw [if_neg c36] at H
        exact absurd H (by simp)
       rw [if_pos c36] at H
       have LMc36:=zS c36
       clear c36
       obtain ⟨bF,aD⟩:∃ y_:List ByteArray,y_=(au ++ [am ++ ((⟨#[46,46]⟩:ByteArray) ++ ao)]):=⟨_,rfl⟩
       replace H:(rule_written.l0 k3 aj bF ac (ac.length:Int) (wrap64 (ab+1)))=some r:=by first|(rw [aD];with_reducible exact H)|(have H2_:=(Option.bind_some _ _).symm.trans H;rw [aD];with_reducible exact H2_)|(have H2_:=(Option.bind_some _ _).symm.trans H;with_reducible exact H2_)|with_reducible exact H|(rw [aD];exact H)|exact H
       have bG:=zS aD
       clear aD
       have H':=zS H
       clear H
       have aG:0≤(ab:Int):=zB (by first|(with_reducible assumption)|assumption)
       have aH:ab<(ac.length:Int):=zB (by first|(with_reducible assumption)|assumption)
       obtain ⟨bB,bm,ah,ai⟩:=at_T57 a5.out ab aG aH
       cases bm
       replace ah:=(HB.out.cell (World.block_lt_of_cell? w _ ah)).trans ah
       replace ai:=(HB.out.cell (World.block_lt_of_cell? w _ ai)).trans ai
       replace aG:=eq_true aG
       replace aH:=eq_true aH
       go_wp2_with (first|((with_reducible refine gate_dst (N:=6) rfl ?_);refine box_event ?hg (N:=6) ?hd (cs:=#[.int .i64 0,.int .i64 0]) (t:=57) ?hr ?_;(case hd=>rfl);(case hg=>rfl);(case hr=>first|(go_simp;done)|(go_simp;rfl));intro av hg w37 hbox hb;replace HO_4:=rb HO_4 hb;have ad:=zS (hbox);have bC:=bg HB hg;replace HB:=bs HB hb;have ap:=kn aa hg;have aq:=km aa hg;replace aa:=kb aa hb;clear hb hbox hg;have cc:=aq.out;have cd:=ap.out;have ce:=blkc2 ad.out;have cf:=blkf2 ad.out)|((with_reducible refine gate_callee (f:=75) rfl ?_);refine gL (some 36) Tryz.func75 #[.int .i64 ((rd_T57 ac ab).f0)] ?_;(with_reducible refine (strconv_Itoa.calls ((rd_T57 ac ab).f0) am _ ?side1 A24.out).mono ?_);(case side1=>refine GL.below HG.out ?_;exact bQ HB);rintro e w40 ⟨rfl,hb⟩;refine ⟨_,rfl,?_⟩;replace HO_4:=zS (Kd.R_below (by (with_reducible repeat (first|apply Kd.R_alloc|apply Kd.R_drewN|apply Kd.R_drew));exact (Kd.R_mono (Kd.R_far (p:=⟨av,1,none⟩) (Kd.R_far (p:=⟨av,0,none⟩) (Kd.R_types HO_4.out ad.out (by decide)) (fun _ hk=>hk.2) (.int .i64 ((rd_T57 ac ab).f0))) (fun _ hk=>hk.2) (.int .i64 ((rd_T57 ac ab).f1))) (fun _ h_=>h_.1))) hb);replace aa:=kb aa hb;replace ad:=zS (blk_below (g:=av) (o:=.cells #[.int .i64 ((rd_T57 ac ab).f0),.int .i64 ((rd_T57 ac ab).f1)] 57 (0,0)) (kp ad rfl) hb);replace HB:=bs HB hb;(try clear hb);(try clear hk);have cg:=blkc2 ad.out;have ch:=blkf2 ad.out)|((with_reducible refine gate_callee (f:=75) rfl ?_);refine gL (some 45) Tryz.func75 #[.int .i64 ((rd_T57 ac ab).f1)] ?_;(with_reducible refine (strconv_Itoa.calls ((rd_T57 ac ab).f1) ao _ ?side1 A33.out).mono ?_);(case side1=>refine GL.below HG.out ?_;exact bQ HB);rintro e w42 ⟨rfl,hb⟩;refine ⟨_,rfl,?_⟩;replace HO_4:=rb HO_4 hb;replace aa:=kb aa hb;replace ad:=kb ad hb;replace HB:=bs HB hb;(try clear hb);(try clear hb2);(try clear hk);(try clear hi))|((with_reducible refine gate_builtin (b:=.append) (xs:=#[.tmp 48,.tmp 50]) rfl ?_);at_builtin;refine Kd.R_append Kd.string (w0:=w) w.heap.size rfl (.tmp 48) (.tmp 50) 76 9 (.string ⟨#[]⟩) 16 rfl Tryz.underlying76 info9 rfl (by decide) (by omega) u4 au (am ++ ((⟨#[46,46]⟩:ByteArray) ++ ao)) [.string (am ++ ((⟨#[46,46]⟩:ByteArray) ++ ao))] (fun _=>True) (fun _=>False) rfl rfl ?aP (fun _ hk=>hk.elim) ?aF ?aO ?aB ?aS ?aL ?_;(case aP=>exact rfl);(case aB=>exact (bQ HB));(case aF=>exact (fun _ _=>trivial));(case aO=>exact (ro HO_4));(case aS=>exact (bz HB));(case aL=>have:=LMc36.out;omega);intro ck w43 ho hb hg hat;rw [← bG.out] at ho;replace aa:=zS (blk_grown (ko aa) hg (Kd.R_ne HO_4.out aa.out (by decide)));replace ad:=zS (blk_grown (ko ad) hg (Kd.R_ne HO_4.out ad.out (by decide)));replace HB:=zS (hb);have bH:=zS (ho);clear HO_4;clear ho hb hg hat))
       go_roundg k3
       case measure=>have:=HJ1.out;have:=HJ14.out;have:=HK3.out;omega
       case rel=>exact ⟨(bF),(wrap64 (ab+1)),(by first|rfl|(simp;done)|(simp [*];done)),H',⟨by have:=HJ1.out;have:=HJ14.out;have:=HK3.out;omega⟩,⟨ro bH⟩,⟨ko aa⟩,⟨bQ HB⟩⟩
end Go.Proofs.YtgfajgkjbckkgaaGreatDoor.PZ
end
end
section
noncomputable section
namespace Go.Proofs.YtgfajgkjbckkgaaGreatDoor.PZ
open Go.RowKit Go.Proofs.YtgfajgkjbckkgaaGreatDoorW.PrintWords Go.Proofs.YtgfajgkjbckkgaaGreatDoorW.PrintLast Go.Proofs.YtgfajgkjbckkgaaGreatDoorW.PrintMore
attribute [local go_sem] max2_int min2_int max_two min_two max_three min_three max_four min_four   -- for this text's walks alone
def oper_told_t.f (ai:List Int)(aa:List Int)(ab:Int)(an:Int):Option (List Int):=if 0≤ab then (if ab≤(aa.length:Int) then ((oper_bare.f (aa.take (ab:Int).toNat)).bind fun aj=>(some aj)) else (none)) else (none)
set_option maxHeartbeats 8000000 in
set_option maxRecDepth 100000 in
theorem oper_told_t.calls (ar:Option Addr)(au:Nat)(ai:List Int)(ae:Nat→Prop)(af:Option Addr)(ad:Nat)(aa:List Int)(ab:Int)(an:Int)(r:List Int)(w:World)(ao:Kd.C (Kd.int .u8) w ar ai.length ai)(ap:ai.length≤au)(av:Kd.V (Kd.int .u8) 5 w w.heap.size (fun k_=>ae k_) (.slice af aa.length ad) aa)(h:oper_told_t.f ai aa ab an=some r) :
  Calls Tryz.prog 105 #[.agg #[.slice ar ai.length au,.slice af aa.length ad,.int .i64 ab,.int .i64 an]] w fun e w'=>∃ v0_:Value,e = .returned (v0_)∧Kd.V (Kd.int .u8) 5 w' w.heap.size (fun k_=>(ae k_∨w.heap.size≤k_)) v0_ r∧Below w.heap.size w w':=by
 have hu136:=Tryz.underlying136
 have ax:=zS ao
 have ay:=zS ap
 clear ao ap
 have ac:=zS (show Kd.V (Kd.int .u8) 5 w w.heap.size (fun k_=>(ae k_∨w.heap.size≤k_)) (.slice af aa.length ad) aa from Kd.V_mono av (fun k_ hk=>.inl hk))
 have HB:=zS (Below.refl w.heap.size w)
 have H:(if 0≤ab then (if ab≤(aa.length:Int) then ((oper_bare.f (aa.take (ab:Int).toNat)).bind fun aj=>(some aj)) else (none)) else (none))=some r:=h
 clear h
 by_cases c2:0≤ab
 rotate_left
 ·rw [if_neg c2] at H
  exact absurd H (by simp)
 rw [if_pos c2] at H
 have aB:=eq_true c2
 have aC:=zC c2
 clear c2
 by_cases c3:ab≤(aa.length:Int)
 rotate_left
 ·rw [if_neg c3] at H
  exact absurd H (by simp)
 rw [if_pos c3] at H
 have aD:=eq_true c3
 have aE:=zC c3
 clear c3
 obtain ⟨ak,ag⟩:∃ y_:List Int,y_=(aa.take (ab:Int).toNat):=⟨_,rfl⟩
 replace H:((oper_bare.f ak).bind fun aj=>(some aj))=some r:=by first|(rw [ag];with_reducible exact H)|(have H2_:=(Option.bind_some _ _).symm.trans H;rw [ag];with_reducible exact H2_)|(have H2_:=(Option.bind_some _ _).symm.trans H;with_reducible exact H2_)|with_reducible exact H|(rw [ag];exact H)|exact H
 have aq:=zS ag
 clear ag
 replace H:=Option.bind_eq_some_iff.mp H
 obtain ⟨aj,A40,H⟩:=H
 try dsimp only at H
 have A4:=zS A40
 clear A40
 obtain rfl:=zE H
 go_enter Tryz.func105,Tryz.ntmps105
 go_wp2_with (first|((with_reducible refine gate_dst (N:=1) rfl ?_);refine box_event ?hg (N:=1) ?hd (cs:=#[.slice ar ai.length au,.slice af aa.length ad,.int .i64 ab,.int .i64 an]) (t:=136) ?hr ?_;(case hd=>rfl);(case hg=>rfl);(case hr=>first|(go_simp;done)|(go_simp;rfl));intro al hg w5 hbox hb;replace ac:=zS (Kd.V_below (Kd.V_elderB (vo ac) al (Nat.le_of_eq hg.symm)) hb);have ah:=zS (hbox);have az:=bg HB hg;replace HB:=bs HB hb;clear hb hbox hg;have aF:=blkc4 ah.out;have aG:=blkf4 ah.out;have q7:(ab:Int)≤((aa.length:Int):Int):=zB (by first|(with_reducible assumption)|assumption);obtain ⟨i07,hi07,_,hsz7,_⟩:=info_parts info5;have hroom7:aa.length≤ad:=(Kd.V_reads' ac.out).2.1;have hC7:Kd.F (Kd.int .u8) _ _ af aa.length aa:=(Kd.V_at (base:=w.heap.size) ac.out).2.2;have hcut7:=cut_to (P:=Tryz.prog) 34 5 .i64 Tryz.underlying34 hi07 af aa.length ad ab (zB (by first|(with_reducible assumption)|assumption)) q7 hroom7;have hr7:=Kd.F_take (m:=(ab:Int).toNat) hC7 (by omega);have hy7:ak.length=(ab:Int).toNat:=(by rw [aq.out,List.length_take];omega);rw [← aq.out] at hr7;rw [← hy7] at hcut7;have am:=zS (show Kd.V (Kd.int .u8) 5 _ w.heap.size _ (.slice af ak.length ad) ak from Kd.V_mk (by omega) hr7);have aA:=zS (show ak.length≤ad from by omega);clear hr7 hC7 hroom7 hi07 hsz7;have KY7:=zS hy7;clear hy7;replace q7:=eq_true q7)|((with_reducible refine gate_callee (f:=107) rfl ?_);refine gL (some 8) Tryz.func107 #[.slice af ak.length ad] ?_;(with_reducible refine (oper_bare.calls (fun k_=>((ae k_∨w.heap.size≤k_)∧k_≠al)) _ _ ak aj _ ?side1 A4.out).mono ?_);(case side1=>exact am.out);rintro e w8 ⟨aH,rfl,ho0,hb⟩;refine ⟨_,rfl,?_⟩;replace ac:=vb ac hb;replace am:=vb am hb;have aw:=zS (Kd.V_lower (Kd.V_mono (ok':=fun k_=>(ae k_∨w.heap.size≤k_)∧k_≠al) ho0 (fun k_ hk_=>⟨Or.elim hk_ (fun hs_=>hs_.1) (fun hn_=>(.inr (Nat.le_trans (bz HB) hn_))),Or.elim hk_ (fun hs_=>hs_.2) (fun hn_=>(Kd.freshB (ko ah) k_ hn_))⟩)) (bz HB));replace ah:=kb ah hb;replace HB:=bs HB hb;(try clear hb);(try clear ho0)))
 go_ret
 exact ⟨_,by first|rfl|(simp <;> rfl)|(simp [*] <;> rfl),by (with_reducible repeat (first|apply Kd.V_alloc|apply Kd.V_drewN|apply Kd.V_drew));exact Kd.V_mono aw.out (fun _ hk=>hk.1),bQ HB⟩
end Go.Proofs.YtgfajgkjbckkgaaGreatDoor.PZ
end
end
