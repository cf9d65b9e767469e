/- Texts of this seat, joined. Conditions: none beyond each statement's own. -/
import Derived.Test.YtklebhlanidloaaGreatDoorD08
import Derived.Shelf.Spec.SlicesInsertGrow
import Derived.Test.YtklebhlanidloaaGreatDoorD11
set_option linter.all false
section
noncomputable section
namespace Go.Proofs.YtklebhlanidloaaGreatDoor.PZ
open Go.RowKit Go.Proofs.YtklebhlanidloaaGreatDoorW.PrintWords Go.Proofs.YtklebhlanidloaaGreatDoorW.PrintLast Go.Proofs.YtklebhlanidloaaGreatDoorW.PrintMore
attribute [local go_sem] max2_int min2_int max_two min_two max_three min_three max_four min_four   -- for this text's walks alone
attribute [local go_sem high] eqA114
def exergueref10_Toks.l0:Nat→List (S114)→List (S114)→Int→Option (Bool)
 | 0,_,_,_=>none
 | k+1,x0,x1,x5=>if x5<(x0.length:Int) then (if 0≤x5 then (if x5<(x1.length:Int) then (if (!(((rd_T114 x0 x5).f0) == ((rd_T114 x1 x5).f0)) || (!(((rd_T114 x0 x5).f1) == ((rd_T114 x1 x5).f1))))=true then (some false) else (exergueref10_Toks.l0 k x0 x1 (wrap64 (x5+1)))) else (none)) else (none)) else (some true)
def exergueref10_Toks.f (k:Nat)(l0:List (S114))(l1:List (S114)):Option (Bool):=if (l0.length:Int)=(l1.length:Int) then (exergueref10_Toks.l0 k l0 l1 0) else (some false)
theorem exergueref10_Toks.mono_l:∀ k,(∀ y0 y1 y2,LeO (exergueref10_Toks.l0 k y0 y1 y2) (exergueref10_Toks.l0 (k+1) y0 y1 y2))
 | 0=>fun _ _ _ r h=>by simp [exergueref10_Toks.l0] at h
 | k+1=>by
  have ih0:=exergueref10_Toks.mono_l k
  ·intro y0 y1 y2
   unfold exergueref10_Toks.l0
   repeat' first|(with_reducible first|apply ih0|apply LeO.refl|apply LeO.none|refine LeO.ite ?_ ?_|refine LeO.bind ?_ (fun _=>?_))|apply ih0|apply LeO.none
theorem exergueref10_Toks.mono:∀ a0 a1 k,LeO (exergueref10_Toks.f k a0 a1) (exergueref10_Toks.f (k+1) a0 a1):=by
 intro a0 a1 k
 have ih0:=exergueref10_Toks.mono_l k
 unfold exergueref10_Toks.f
 repeat' first|(with_reducible first|apply ih0|apply LeO.refl|apply LeO.none|refine LeO.ite ?_ ?_|refine LeO.bind ?_ (fun _=>?_))|apply ih0|apply LeO.none
set_option maxHeartbeats 8000000 in
set_option maxRecDepth 100000 in
theorem exergueref10_Toks.calls (k:Nat)(A0:Option Addr)(c0:Nat)(l0:List (S114))(A1:Option Addr)(c1:Nat)(l1:List (S114))(r:Bool)(w:World)(hr0:Kd.C k114 w A0 l0.length l0)(hc0:l0.length≤c0)(hr1:Kd.C k114 w A1 l1.length l1)(hc1:l1.length≤c1)(h:exergueref10_Toks.f k l0 l1=some r) :
  Calls Tryz.prog 93 #[.slice A0 l0.length c0,.slice A1 l1.length c1] w fun e w'=>e = .returned (.bool r)∧Drawn0 w w':=by
 have hu114:=Tryz.underlying114
 have HR0:=zS hr0
 have HC0:=zS hc0
 clear hr0 hc0
 have HR1:=zS hr1
 have HC1:=zS hc1
 clear hr1 hc1
 have H:(if (l0.length:Int)=(l1.length:Int) then (exergueref10_Toks.l0 k l0 l1 0) else (some false))=some r:=h
 clear h
 by_cases c3:(l0.length:Int)=(l1.length:Int)
 rotate_left
 ·rw [if_neg c3] at H
  have am:((l0.length:Int) == (l1.length:Int))=false:=zF c3
  have a5:((l0.length:Int) != (l1.length:Int))=true:=zI c3
  have bo:(l0.length == l1.length)=false:=by first|simpa using c3|(simp at c3 ⊢;omega)
  obtain rfl:=zE H
  go_enter Tryz.func93,Tryz.ntmps93
  go_wp2
  repeat (go_quiet (fail);try go_wp2)
  go_ret
  exact ⟨by first|rfl|(simp;done)|(simp [*];done),by repeat (first|exact Drawn0.refl _|apply Drawn0.step)⟩
 rw [if_pos c3] at H
 have am:((l0.length:Int) == (l1.length:Int))=true:=zH c3
 have a5:((l0.length:Int) != (l1.length:Int))=false:=zG c3
 have bo:(l0.length == l1.length)=true:=by first|simpa using c3|(simp at c3 ⊢;omega)
 clear c3
 have H':=zS H
 clear H
 go_enter Tryz.func93,Tryz.ntmps93
 go_wp2
 repeat (go_quiet (fail);try go_wp2)
 go_loopg [5] k (fun kq v5 w'=>∃ (ad:Int),v5 = .int .i64 ad∧Sd (exergueref10_Toks.l0 kq l0 l1 ad=some r)∧Sd (kq≤k)∧Drawn0 w w')
 case atStart=>exact ⟨(0),(by first|rfl|(simp;done)|(simp [*];done)),H',⟨Nat.le_refl _⟩,by repeat (first|exact Drawn0.refl _|apply Drawn0.step)⟩
 case round=>
  clear H'
  try clear c1
  try clear p2
  try clear c3
  try clear am
  try clear a5
  try clear bo
  obtain ⟨ad,rfl,HA,HK1,⟨m1,rfl⟩⟩:=hrel
  cases gk with
  | zero=>exact absurd HA.out (by simp [exergueref10_Toks.l0])
  | succ k1=>
   have H:=HA.out
   clear HA
   simp only [exergueref10_Toks.l0] at H
   by_cases c4:ad<(l0.length:Int)
   rotate_left
   ·rw [if_neg c4] at H
    have aC:=zD c4
    clear c4
    obtain rfl:=zE H
    go_wp2
    repeat (go_quiet (fail);try go_wp2)
    go_ret
    exact ⟨by first|rfl|(simp;done)|(simp [*];done),by repeat (first|exact Drawn0.refl _|apply Drawn0.step)⟩
   rw [if_pos c4] at H
   have aC:=zC c4
   clear c4
   by_cases c5:0≤ad
   rotate_left
   ·rw [if_neg c5] at H
    exact absurd H (by simp)
   rw [if_pos c5] at H
   have a6:=zC c5
   clear c5
   by_cases c6:ad<(l1.length:Int)
   rotate_left
   ·rw [if_neg c6] at H
    exact absurd H (by simp)
   rw [if_pos c6] at H
   have bR:=zC c6
   clear c6
   by_cases c7:(!(((rd_T114 l0 ad).f0) == ((rd_T114 l1 ad).f0)) || (!(((rd_T114 l0 ad).f1) == ((rd_T114 l1 ad).f1))))=true
   ·rw [if_pos c7] at H
    have aR:(!(((rd_T114 l0 ad).f0) == ((rd_T114 l1 ad).f0)) || (!(((rd_T114 l0 ad).f1) == ((rd_T114 l1 ad).f1))))=true:=c7
    clear c7
    obtain rfl:=zE H
    have aD:0≤(ad:Int):=zB (by first|(with_reducible assumption)|assumption)
    have aE:ad<(l0.length:Int):=zB (by first|(with_reducible assumption)|assumption)
    obtain ⟨bp,bf,a7,a8⟩:=at_T114 HR0.out ad aD aE
    cases bf
    replace aD:=eq_true aD
    replace aE:=eq_true aE
    have aG:0≤(ad:Int):=zB (by first|(with_reducible assumption)|assumption)
    have aH:ad<(l1.length:Int):=zB (by first|(with_reducible assumption)|assumption)
    obtain ⟨bq,bh,a9,ba⟩:=at_T114 HR1.out ad aG aH
    cases bh
    replace aG:=eq_true aG
    replace aH:=eq_true aH
    go_wp2
    repeat (go_quiet (fail);try go_wp2)
    go_ret
    exact ⟨by first|rfl|(simp;done)|(simp [*];done),by repeat (first|exact Drawn0.refl _|apply Drawn0.step)⟩
   rw [if_neg c7] at H
   have aR:(!(((rd_T114 l0 ad).f0) == ((rd_T114 l1 ad).f0)) || (!(((rd_T114 l0 ad).f1) == ((rd_T114 l1 ad).f1))))=false:=by simpa using c7
   clear c7
   have H':=zS H
   clear H
   have aD:0≤(ad:Int):=zB (by first|(with_reducible assumption)|assumption)
   have aE:ad<(l0.length:Int):=zB (by first|(with_reducible assumption)|assumption)
   obtain ⟨bp,bf,a7,a8⟩:=at_T114 HR0.out ad aD aE
   cases bf
   replace aD:=eq_true aD
   replace aE:=eq_true aE
   have aG:0≤(ad:Int):=zB (by first|(with_reducible assumption)|assumption)
   have aH:ad<(l1.length:Int):=zB (by first|(with_reducible assumption)|assumption)
   obtain ⟨bq,bh,a9,ba⟩:=at_T114 HR1.out ad aG aH
   cases bh
   replace aG:=eq_true aG
   replace aH:=eq_true aH
   go_wp2
   repeat (go_quiet (fail);try go_wp2)
   go_roundg k1
   case measure=>have:=HK1.out;omega
   case rel=>exact ⟨(wrap64 (ad+1)),(by first|rfl|(simp;done)|(simp [*];done)),H',⟨by have:=HK1.out;omega⟩,by repeat (first|exact Drawn0.refl _|apply Drawn0.step)⟩
def exergueref10_Sign.f (a0:Int):Option (Int):=if a0=45 then (some 1) else (if a0=43 then (some 2) else (if a0=37 then (some 3) else (if a0=164 then (some 4) else (some 0))))
set_option maxHeartbeats 8000000 in
set_option maxRecDepth 100000 in
theorem exergueref10_Sign.calls (a0:Int)(r:Int)(w:World)(h:exergueref10_Sign.f a0=some r) :
  Calls Tryz.prog 130 #[.int .i32 a0] w fun e w'=>e = .returned (.int .i64 r)∧Drawn0 w w':=by
 have H:(if a0=45 then (some 1) else (if a0=43 then (some 2) else (if a0=37 then (some 3) else (if a0=164 then (some 4) else (some 0)))))=some r:=h
 clear h
 by_cases c2:a0=45
 ·rw [if_pos c2] at H
  have bM:(a0 == 45)=true:=zH c2
  have bN:(a0 != 45)=false:=zG c2
  clear c2
  obtain rfl:=zE H
  go_enter Tryz.func130,Tryz.ntmps130
  go_wp2
  go_ret
  exact ⟨by first|rfl|(simp;done)|(simp [*];done),by repeat (first|exact Drawn0.refl _|apply Drawn0.step)⟩
 rw [if_neg c2] at H
 have bM:(a0 == 45)=false:=zF c2
 have bN:(a0 != 45)=true:=zI c2
 by_cases c3:a0=43
 ·rw [if_pos c3] at H
  have am:(a0 == 43)=true:=zH c3
  have a5:(a0 != 43)=false:=zG c3
  clear c3
  obtain rfl:=zE H
  go_enter Tryz.func130,Tryz.ntmps130
  go_wp2
  go_ret
  exact ⟨by first|rfl|(simp;done)|(simp [*];done),by repeat (first|exact Drawn0.refl _|apply Drawn0.step)⟩
 rw [if_neg c3] at H
 have am:(a0 == 43)=false:=zF c3
 have a5:(a0 != 43)=true:=zI c3
 by_cases c4:a0=37
 ·rw [if_pos c4] at H
  have aC:(a0 == 37)=true:=zH c4
  have br:(a0 != 37)=false:=zG c4
  clear c4
  obtain rfl:=zE H
  go_enter Tryz.func130,Tryz.ntmps130
  go_wp2
  go_ret
  exact ⟨by first|rfl|(simp;done)|(simp [*];done),by repeat (first|exact Drawn0.refl _|apply Drawn0.step)⟩
 rw [if_neg c4] at H
 have aC:(a0 == 37)=false:=zF c4
 have br:(a0 != 37)=true:=zI c4
 by_cases c5:a0=164
 ·rw [if_pos c5] at H
  have a6:(a0 == 164)=true:=zH c5
  have bi:(a0 != 164)=false:=zG c5
  clear c5
  obtain rfl:=zE H
  go_enter Tryz.func130,Tryz.ntmps130
  go_wp2
  go_ret
  exact ⟨by first|rfl|(simp;done)|(simp [*];done),by repeat (first|exact Drawn0.refl _|apply Drawn0.step)⟩
 rw [if_neg c5] at H
 have a6:(a0 == 164)=false:=zF c5
 have bi:(a0 != 164)=true:=zI c5
 obtain rfl:=zE H
 go_enter Tryz.func130,Tryz.ntmps130
 go_wp2
 go_ret
 exact ⟨by first|rfl|(simp;done)|(simp [*];done),by repeat (first|exact Drawn0.refl _|apply Drawn0.step)⟩
mutual
def exergueref10_affix.l0:Nat→List Int→Int→List (S114)→Option ((List (S114))×Int×Bool)
 | 0,_,_,_=>none
 | k+1,x0,x1,x7=>if x1<(x0.length:Int) then (if 0≤x1 then ((exergueref10_Sign.f (rd x0 x1)).bind fun al=>((exergueref10_Special.f k (rd x0 x1)).bind fun aQ=>(if al>0 then (if x7.length<8796093022208 then (exergueref10_affix.l0 k x0 (wrap64 (x1+1)) (x7 ++ [(⟨al,0⟩:S114)])) else (none)) else (if (rd x0 x1)=39 then ((exergueref10_at.f x0 (wrap64 (x1+1))).bind fun ap=>(if ap=39 then (if x7.length<8796093022208 then (exergueref10_affix.l0 k x0 (wrap64 (x1+2)) (x7 ++ [(⟨0,39⟩:S114)])) else (none)) else (exergueref10_affix.l1 k x0 (wrap64 (x1+1)) x7 x1))) else (if aQ=true then (some (x7,x1,true)) else (if x7.length<8796093022208 then (exergueref10_affix.l0 k x0 (wrap64 (x1+1)) (x7 ++ [(⟨0,rd x0 x1⟩:S114)])) else (none))))))) else (none)) else (some (x7,x1,true))
def exergueref10_affix.l1:Nat→List Int→Int→List (S114)→Int→Option ((List (S114))×Int×Bool)
 | 0,_,_,_,_=>none
 | k+1,x0,x1,x7,x11=>if x1<(x0.length:Int) then (if 0≤x1 then (if (rd x0 x1)=39 then ((exergueref10_at.f x0 (wrap64 (x1+1))).bind fun bb=>(exergueref10_affix.j2 k x0 x1 x7 x11 (bb == 39))) else (exergueref10_affix.j2 k x0 x1 x7 x11 true)) else (none)) else (exergueref10_affix.j2 k x0 x1 x7 x11 false)
def exergueref10_affix.j2:Nat→List Int→Int→List (S114)→Int→Bool→Option ((List (S114))×Int×Bool)
 | 0,_,_,_,_,_=>none
 | k+1,x0,x1,x7,x11,x76=>if x76=true then (if 0≤x1 then (if x1<(x0.length:Int) then (if x7.length<8796093022208 then ((some (x7 ++ [(⟨0,rd x0 x1⟩:S114)]:List (S114))).bind fun aI=>(if (rd x0 x1)=39 then (exergueref10_affix.l1 k x0 (wrap64 ((wrap64 (x1+1))+1)) aI x11) else (exergueref10_affix.l1 k x0 (wrap64 (x1+1)) aI x11))) else (none)) else (none)) else (none)) else (if x1≥(x0.length:Int) then (some (([]:List (S114)),x11,false)) else (exergueref10_affix.l0 k x0 (wrap64 (x1+1)) x7))
end
def exergueref10_affix.f (k:Nat)(l0:List Int)(a1:Int):Option ((List (S114))×Int×Bool):=exergueref10_affix.l0 k l0 a1 ([]:List (S114))
theorem exergueref10_affix.mono_l:∀ k,(∀ y0 y1 y2,LeO (exergueref10_affix.l0 k y0 y1 y2) (exergueref10_affix.l0 (k+1) y0 y1 y2))∧(∀ y0 y1 y2 y3,LeO (exergueref10_affix.l1 k y0 y1 y2 y3) (exergueref10_affix.l1 (k+1) y0 y1 y2 y3))∧(∀ y0 y1 y2 y3 y4,LeO (exergueref10_affix.j2 k y0 y1 y2 y3 y4) (exergueref10_affix.j2 (k+1) y0 y1 y2 y3 y4))
 | 0=>⟨fun _ _ _ r h=>by simp [exergueref10_affix.l0] at h,fun _ _ _ _ r h=>by simp [exergueref10_affix.l1] at h,fun _ _ _ _ _ r h=>by simp [exergueref10_affix.j2] at h⟩
 | k+1=>by
  obtain ⟨ih0,ih1,ih2⟩:=exergueref10_affix.mono_l k
  refine ⟨?_,?_,?_⟩
  ·intro y0 y1 y2
   unfold exergueref10_affix.l0
   repeat' first|(with_reducible first|apply ih0|apply ih1|apply ih2|apply exergueref10_Special.mono|apply LeO.refl|apply LeO.none|refine LeO.ite ?_ ?_|refine LeO.bind ?_ (fun _=>?_))|apply ih0|apply ih1|apply ih2|apply exergueref10_Special.mono|apply LeO.none
  ·intro y0 y1 y2 y3
   unfold exergueref10_affix.l1
   repeat' first|(with_reducible first|apply ih0|apply ih1|apply ih2|apply exergueref10_Special.mono|apply LeO.refl|apply LeO.none|refine LeO.ite ?_ ?_|refine LeO.bind ?_ (fun _=>?_))|apply ih0|apply ih1|apply ih2|apply exergueref10_Special.mono|apply LeO.none
  ·intro y0 y1 y2 y3 y4
   unfold exergueref10_affix.j2
   repeat' first|(with_reducible first|apply ih0|apply ih1|apply ih2|apply exergueref10_Special.mono|apply LeO.refl|apply LeO.none|refine LeO.ite ?_ ?_|refine LeO.bind ?_ (fun _=>?_))|apply ih0|apply ih1|apply ih2|apply exergueref10_Special.mono|apply LeO.none
theorem exergueref10_affix.mono:∀ a0 a1 k,LeO (exergueref10_affix.f k a0 a1) (exergueref10_affix.f (k+1) a0 a1):=by
 intro a0 a1 k
 obtain ⟨ih0,ih1,ih2⟩:=exergueref10_affix.mono_l k
 unfold exergueref10_affix.f
 repeat' first|(with_reducible first|apply ih0|apply ih1|apply ih2|apply exergueref10_Special.mono|apply LeO.refl|apply LeO.none|refine LeO.ite ?_ ?_|refine LeO.bind ?_ (fun _=>?_))|apply ih0|apply ih1|apply ih2|apply exergueref10_Special.mono|apply LeO.none
set_option maxHeartbeats 8000000 in
set_option maxRecDepth 100000 in
theorem exergueref10_affix.calls (k:Nat)(A0:Option Addr)(c0:Nat)(l0:List Int)(a1:Int)(r1:List (S114))(r2:Int)(r3:Bool)(w:World)(hr0:Kd.C (Kd.int .i32) w A0 l0.length l0)(hc0:l0.length≤c0)(h:exergueref10_affix.f k l0 a1=some (r1,r2,r3)) :
  Calls Tryz.prog 113 #[.slice A0 l0.length c0,.int .i64 a1] w fun e w'=>∃ v0_:Value,e = .returned (.tuple #[v0_,.int .i64 r2,.bool r3])∧Kd.R k114 114 w' w.heap.size (fun _=>True) v0_ r1∧Below w.heap.size w w':=by
 have hu114:=Tryz.underlying114
 have HR0:=zS hr0
 have HC0:=zS hc0
 clear hr0 hc0
 have HB:=zS (Below.refl w.heap.size w)
 have H:(exergueref10_affix.l0 k l0 a1 ([]:List (S114)))=some (r1,r2,r3):=h
 clear h
 have H':=zS H
 clear H
 go_enter Tryz.func113,Tryz.ntmps113
 go_wp2
 go_loopg [1,7] k (fun kq v1 v7 w'=>∃ (aa:Int) (ae:List (S114)),v1 = .int .i64 aa∧Sd (exergueref10_affix.l0 kq l0 aa ae=some (r1,r2,r3))∧Sd (kq≤k)∧Sd (Kd.R k114 114 w' w.heap.size (fun _=>True) v7 ae)∧Sd (Below w.heap.size w w'))
 case atStart=>exact ⟨(a1),(([]:List (S114))),(by first|rfl|(simp;done)|(simp [*];done)),H',⟨Nat.le_refl _⟩,⟨by first|exact Kd.R_nil _ _ _ _ _|exact Kd.N_nil _ _ _ _ _|exact Kd.V_nil _ _ _ _ _|exact Kd.Q_nil _ _ _ _ _|exact Kd.S_nil _ _ _ _ _⟩,⟨bl HB⟩⟩
 case round=>
  clear H'
  try clear c1
  try clear p2
  obtain ⟨aa,ae,rfl,HA,HK1,HO_7,HB⟩:=hrel
  cases gk with
  | zero=>exact absurd HA.out (by simp [exergueref10_affix.l0])
  | succ k1=>
   have H:=HA.out
   clear HA
   simp only [exergueref10_affix.l0] at H
   by_cases c3:aa<(l0.length:Int)
   rotate_left
   ·rw [if_neg c3] at H
    have am:=zD c3
    clear c3
    simp only [Option.some.injEq,Prod.mk.injEq] at H
    obtain ⟨rfl,rfl,rfl⟩:=H
    go_wp2
    go_ret3
    exact ⟨_,by first|rfl|(simp <;> rfl)|(simp [*] <;> rfl),by (with_reducible repeat (first|apply Kd.R_alloc|apply Kd.R_drewN|apply Kd.R_drew));exact HO_7.out,bl HB⟩
   rw [if_pos c3] at H
   have am:=zC c3
   clear c3
   by_cases c4:0≤aa
   rotate_left
   ·rw [if_neg c4] at H
    exact absurd H (by simp)
   rw [if_pos c4] at H
   have aC:=zC c4
   clear c4
   replace H:=Option.bind_eq_some_iff.mp H
   obtain ⟨al,A50,H⟩:=H
   try dsimp only at H
   have A5:=zS A50
   clear A50
   replace H:=Option.bind_eq_some_iff.mp H
   obtain ⟨aQ,A60,H⟩:=H
   try dsimp only at H
   have A6:=zS A60
   clear A60
   by_cases c7:al>0
   ·rw [if_pos c7] at H
    have aR:decide (0<al)=true:=zC c7
    clear c7
    by_cases c8:ae.length<8796093022208
    rotate_left
    ·rw [if_neg c8] at H
     exact absurd H (by simp)
    rw [if_pos c8] at H
    have LMc8:=zS c8
    clear c8
    obtain ⟨bu,av⟩:∃ y_:List (S114),y_=(ae ++ [(⟨al,0⟩:S114)]):=⟨_,rfl⟩
    replace H:(exergueref10_affix.l0 k1 l0 (wrap64 (aa+1)) bu)=some (r1,r2,r3):=by first|(rw [av];with_reducible exact H)|(have H2_:=(Option.bind_some _ _).symm.trans H;rw [av];with_reducible exact H2_)|(have H2_:=(Option.bind_some _ _).symm.trans H;with_reducible exact H2_)|with_reducible exact H|(rw [av];exact H)|exact H
    have bv:=zS av
    clear av
    have H':=zS H
    clear H
    have ag:0≤(aa:Int):=zB (by first|(with_reducible assumption)|assumption)
    have ah:aa<(l0.length:Int):=zB (by first|(with_reducible assumption)|assumption)
    obtain ⟨ak,aq,ab⟩:=Kd.at_int HR0.out aa ag ah
    cases aq
    replace ab:=(HB.out.cell (World.block_lt_of_cell? w _ ab)).trans ab
    replace ag:=eq_true ag
    replace ah:=eq_true ah
    go_wp2_with (first|((with_reducible refine gate_callee (f:=130) rfl ?_);refine gL (some 21) Tryz.func130 #[.int .i32 (rd l0 aa)] ?_;(with_reducible refine (exergueref10_Sign.calls (rd l0 aa) al _ A5.out).mono ?_);rintro e w' ⟨rfl,⟨nd,rfl⟩⟩;refine ⟨_,rfl,?_⟩)|((with_reducible refine gate_callee (f:=116) rfl ?_);refine gL (some 23) Tryz.func116 #[.int .i32 (rd l0 aa)] ?_;(with_reducible refine (exergueref10_Special.calls k1 (rd l0 aa) aQ _ A6.out).mono ?_);rintro e w' ⟨rfl,⟨nd,rfl⟩⟩;refine ⟨_,rfl,?_⟩)|((with_reducible refine gate_builtin (b:=.append) (xs:=#[.tmp 26,.tmp 29]) rfl ?_);at_builtin;refine Kd.R_append k114 (w0:=w) w.heap.size rfl (.tmp 26) (.tmp 29) 24 114 (.agg #[(.int .i64 0),(.int .i32 0)]) 16 rfl Tryz.underlying24 info114 rfl (by decide) (by omega) u7 ae (⟨al,0⟩:S114) [.int .i64 al,.int .i32 0] (fun _=>True) (fun _=>False) rfl rfl ?aP (fun _ hk=>hk.elim) ?aF ?aO ?aB ?aS ?aL ?_;(case aP=>exact k114_mkM _ _ _ (⟨al,0⟩:S114));(case aB=>exact (bl HB));(case aF=>exact (fun _ _=>trivial));(case aO=>exact (ro HO_7));(case aS=>exact (bz HB));(case aL=>have:=LMc8.out;omega);intro bS w9 ho hb hg hat;rw [← bv.out] at ho;replace HB:=zS (hb);have bw:=zS (ho);clear HO_7;clear ho hb hg hat))
    go_roundg k1
    case measure=>have:=HK1.out;omega
    case rel=>exact ⟨(wrap64 (aa+1)),(bu),(by first|rfl|(simp;done)|(simp [*];done)),H',⟨by have:=HK1.out;omega⟩,⟨ro bw⟩,⟨bl HB⟩⟩
   rw [if_neg c7] at H
   have aR:decide (0<al)=false:=zD c7
   clear c7
   by_cases c10:(rd l0 aa)=39
   rotate_left
   ·rw [if_neg c10] at H
    have aT:((rd l0 aa) == 39)=false:=zF c10
    have aU:((rd l0 aa) != 39)=true:=zI c10
    by_cases c28:aQ=true
    ·subst c28
     rw [if_pos rfl] at H
     simp only [Option.some.injEq,Prod.mk.injEq] at H
     obtain ⟨rfl,rfl,rfl⟩:=H
     have ag:0≤(aa:Int):=zB (by first|(with_reducible assumption)|assumption)
     have ah:aa<(l0.length:Int):=zB (by first|(with_reducible assumption)|assumption)
     obtain ⟨ak,aq,ab⟩:=Kd.at_int HR0.out aa ag ah
     cases aq
     replace ab:=(HB.out.cell (World.block_lt_of_cell? w _ ab)).trans ab
     replace ag:=eq_true ag
     replace ah:=eq_true ah
     go_wp2_with (first|((with_reducible refine gate_callee (f:=130) rfl ?_);refine gL (some 21) Tryz.func130 #[.int .i32 (rd l0 aa)] ?_;(with_reducible refine (exergueref10_Sign.calls (rd l0 aa) al _ A5.out).mono ?_);rintro e w' ⟨rfl,⟨nd,rfl⟩⟩;refine ⟨_,rfl,?_⟩)|((with_reducible refine gate_callee (f:=116) rfl ?_);refine gL (some 23) Tryz.func116 #[.int .i32 (rd l0 aa)] ?_;(with_reducible refine (exergueref10_Special.calls k1 (rd l0 aa) true _ A6.out).mono ?_);rintro e w' ⟨rfl,⟨nd,rfl⟩⟩;refine ⟨_,rfl,?_⟩))
     go_ret3
     exact ⟨_,by first|rfl|(simp <;> rfl)|(simp [*] <;> rfl),by (with_reducible repeat (first|apply Kd.R_alloc|apply Kd.R_drewN|apply Kd.R_drew));exact HO_7.out,bl HB⟩
    replace c28:=Bool.eq_false_iff.mpr c28
    subst c28
    rw [if_neg (show ¬ (false=true) by decide)] at H
    by_cases c29:ae.length<8796093022208
    rotate_left
    ·rw [if_neg c29] at H
     exact absurd H (by simp)
    rw [if_pos c29] at H
    have LMc29:=zS c29
    clear c29
    obtain ⟨bx,aw⟩:∃ y_:List (S114),y_=(ae ++ [(⟨0,rd l0 aa⟩:S114)]):=⟨_,rfl⟩
    replace H:(exergueref10_affix.l0 k1 l0 (wrap64 (aa+1)) bx)=some (r1,r2,r3):=by first|(rw [aw];with_reducible exact H)|(have H2_:=(Option.bind_some _ _).symm.trans H;rw [aw];with_reducible exact H2_)|(have H2_:=(Option.bind_some _ _).symm.trans H;with_reducible exact H2_)|with_reducible exact H|(rw [aw];exact H)|exact H
    have bA:=zS aw
    clear aw
    have H':=zS H
    clear H
    have ag:0≤(aa:Int):=zB (by first|(with_reducible assumption)|assumption)
    have ah:aa<(l0.length:Int):=zB (by first|(with_reducible assumption)|assumption)
    obtain ⟨ak,aq,ab⟩:=Kd.at_int HR0.out aa ag ah
    cases aq
    replace ab:=(HB.out.cell (World.block_lt_of_cell? w _ ab)).trans ab
    replace ag:=eq_true ag
    replace ah:=eq_true ah
    go_wp2_with (first|((with_reducible refine gate_callee (f:=130) rfl ?_);refine gL (some 21) Tryz.func130 #[.int .i32 (rd l0 aa)] ?_;(with_reducible refine (exergueref10_Sign.calls (rd l0 aa) al _ A5.out).mono ?_);rintro e w' ⟨rfl,⟨nd,rfl⟩⟩;refine ⟨_,rfl,?_⟩)|((with_reducible refine gate_callee (f:=116) rfl ?_);refine gL (some 23) Tryz.func116 #[.int .i32 (rd l0 aa)] ?_;(with_reducible refine (exergueref10_Special.calls k1 (rd l0 aa) false _ A6.out).mono ?_);rintro e w' ⟨rfl,⟨nd,rfl⟩⟩;refine ⟨_,rfl,?_⟩)|((with_reducible refine gate_builtin (b:=.append) (xs:=#[.tmp 38,.tmp 41]) rfl ?_);at_builtin;refine Kd.R_append k114 (w0:=w) w.heap.size rfl (.tmp 38) (.tmp 41) 24 114 (.agg #[(.int .i64 0),(.int .i32 0)]) 16 rfl Tryz.underlying24 info114 rfl (by decide) (by omega) u7 ae (⟨0,rd l0 aa⟩:S114) [.int .i64 0,.int .i32 (rd l0 aa)] (fun _=>True) (fun _=>False) rfl rfl ?aP (fun _ hk=>hk.elim) ?aF ?aO ?aB ?aS ?aL ?_;(case aP=>exact k114_mkM _ _ _ (⟨0,rd l0 aa⟩:S114));(case aB=>exact (bl HB));(case aF=>exact (fun _ _=>trivial));(case aO=>exact (ro HO_7));(case aS=>exact (bz HB));(case aL=>have:=LMc29.out;omega);intro bT w30 ho hb hg hat;rw [← bA.out] at ho;replace HB:=zS (hb);have bB:=zS (ho);clear HO_7;clear ho hb hg hat))
    go_roundg k1
    case measure=>have:=HK1.out;omega
    case rel=>exact ⟨(wrap64 (aa+1)),(bx),(by first|rfl|(simp;done)|(simp [*];done)),H',⟨by have:=HK1.out;omega⟩,⟨ro bB⟩,⟨bl HB⟩⟩
   rw [if_pos c10] at H
   have aT:((rd l0 aa) == 39)=true:=zH c10
   have aU:((rd l0 aa) != 39)=false:=zG c10
   clear c10
   replace H:=Option.bind_eq_some_iff.mp H
   obtain ⟨ap,bC,H⟩:=H
   try dsimp only at H
   have A11:=zS bC
   clear bC
   by_cases c12:ap=39
   ·rw [if_pos c12] at H
    have aV:(ap == 39)=true:=zH c12
    have aW:(ap != 39)=false:=zG c12
    clear c12
    by_cases c13:ae.length<8796093022208
    rotate_left
    ·rw [if_neg c13] at H
     exact absurd H (by simp)
    rw [if_pos c13] at H
    have LMc13:=zS c13
    clear c13
    obtain ⟨bD,ax⟩:∃ y_:List (S114),y_=(ae ++ [(⟨0,39⟩:S114)]):=⟨_,rfl⟩
    replace H:(exergueref10_affix.l0 k1 l0 (wrap64 (aa+2)) bD)=some (r1,r2,r3):=by first|(rw [ax];with_reducible exact H)|(have H2_:=(Option.bind_some _ _).symm.trans H;rw [ax];with_reducible exact H2_)|(have H2_:=(Option.bind_some _ _).symm.trans H;with_reducible exact H2_)|with_reducible exact H|(rw [ax];exact H)|exact H
    have bE:=zS ax
    clear ax
    have H':=zS H
    clear H
    have ag:0≤(aa:Int):=zB (by first|(with_reducible assumption)|assumption)
    have ah:aa<(l0.length:Int):=zB (by first|(with_reducible assumption)|assumption)
    obtain ⟨ak,aq,ab⟩:=Kd.at_int HR0.out aa ag ah
    cases aq
    replace ab:=(HB.out.cell (World.block_lt_of_cell? w _ ab)).trans ab
    replace ag:=eq_true ag
    replace ah:=eq_true ah
    go_wp2_with (first|((with_reducible refine gate_callee (f:=130) rfl ?_);refine gL (some 21) Tryz.func130 #[.int .i32 (rd l0 aa)] ?_;(with_reducible refine (exergueref10_Sign.calls (rd l0 aa) al _ A5.out).mono ?_);rintro e w' ⟨rfl,⟨nd,rfl⟩⟩;refine ⟨_,rfl,?_⟩)|((with_reducible refine gate_callee (f:=116) rfl ?_);refine gL (some 23) Tryz.func116 #[.int .i32 (rd l0 aa)] ?_;(with_reducible refine (exergueref10_Special.calls k1 (rd l0 aa) aQ _ A6.out).mono ?_);rintro e w' ⟨rfl,⟨nd,rfl⟩⟩;refine ⟨_,rfl,?_⟩)|((with_reducible refine gate_callee (f:=88) rfl ?_);refine gL (some 48) Tryz.func88 #[.slice (some ak) l0.length c0,.int .i64 (wrap64 (aa+1))] ?_;(with_reducible refine (exergueref10_at.calls _ _ l0 (wrap64 (aa+1)) ap _ ?side1 HC0.out A11.out).mono ?_);(case side1=>repeat (first|exact (Kd.C_below HR0.out (bl HB))|(with_reducible refine Kd.C_alloc ?_ _)|(with_reducible refine Kd.C_drewN ?_ _)|(with_reducible refine Kd.C_drew ?_)));rintro e w' ⟨rfl,⟨nd,rfl⟩⟩;refine ⟨_,rfl,?_⟩)|((with_reducible refine gate_builtin (b:=.append) (xs:=#[.tmp 50,.tmp 52]) rfl ?_);at_builtin;refine Kd.R_append k114 (w0:=w) w.heap.size rfl (.tmp 50) (.tmp 52) 24 114 (.agg #[(.int .i64 0),(.int .i32 0)]) 16 rfl Tryz.underlying24 info114 rfl (by decide) (by omega) u7 ae (⟨0,39⟩:S114) [.int .i64 0,.int .i32 39] (fun _=>True) (fun _=>False) rfl rfl ?aP (fun _ hk=>hk.elim) ?aF ?aO ?aB ?aS ?aL ?_;(case aP=>exact k114_mkM _ _ _ (⟨0,39⟩:S114));(case aB=>exact (bl HB));(case aF=>exact (fun _ _=>trivial));(case aO=>exact (ro HO_7));(case aS=>exact (bz HB));(case aL=>have:=LMc13.out;omega);intro bU w14 ho hb hg hat;rw [← bE.out] at ho;replace HB:=zS (hb);have bF:=zS (ho);clear HO_7;clear ho hb hg hat))
    go_roundg k1
    case measure=>have:=HK1.out;omega
    case rel=>exact ⟨(wrap64 (aa+2)),(bD),(by first|rfl|(simp;done)|(simp [*];done)),H',⟨by have:=HK1.out;omega⟩,⟨ro bF⟩,⟨bl HB⟩⟩
   rw [if_neg c12] at H
   have aV:(ap == 39)=false:=zF c12
   have aW:(ap != 39)=true:=zI c12
   have H':=zS H
   clear H
   have ag:0≤(aa:Int):=zB (by first|(with_reducible assumption)|assumption)
   have ah:aa<(l0.length:Int):=zB (by first|(with_reducible assumption)|assumption)
   obtain ⟨ak,aq,ab⟩:=Kd.at_int HR0.out aa ag ah
   cases aq
   replace ab:=(HB.out.cell (World.block_lt_of_cell? w _ ab)).trans ab
   replace ag:=eq_true ag
   replace ah:=eq_true ah
   go_wp2_with (first|((with_reducible refine gate_callee (f:=130) rfl ?_);refine gL (some 21) Tryz.func130 #[.int .i32 (rd l0 aa)] ?_;(with_reducible refine (exergueref10_Sign.calls (rd l0 aa) al _ A5.out).mono ?_);rintro e w' ⟨rfl,⟨nd,rfl⟩⟩;refine ⟨_,rfl,?_⟩)|((with_reducible refine gate_callee (f:=116) rfl ?_);refine gL (some 23) Tryz.func116 #[.int .i32 (rd l0 aa)] ?_;(with_reducible refine (exergueref10_Special.calls k1 (rd l0 aa) aQ _ A6.out).mono ?_);rintro e w' ⟨rfl,⟨nd,rfl⟩⟩;refine ⟨_,rfl,?_⟩)|((with_reducible refine gate_callee (f:=88) rfl ?_);refine gL (some 48) Tryz.func88 #[.slice (some ak) l0.length c0,.int .i64 (wrap64 (aa+1))] ?_;(with_reducible refine (exergueref10_at.calls _ _ l0 (wrap64 (aa+1)) ap _ ?side1 HC0.out A11.out).mono ?_);(case side1=>repeat (first|exact (Kd.C_below HR0.out (bl HB))|(with_reducible refine Kd.C_alloc ?_ _)|(with_reducible refine Kd.C_drewN ?_ _)|(with_reducible refine Kd.C_drew ?_)));rintro e w' ⟨rfl,⟨nd,rfl⟩⟩;refine ⟨_,rfl,?_⟩))
   go_loopg [1,7] k1 (fun kq v1 v7 w'=>∃ (ac:Int) (an:List (S114)),v1 = .int .i64 ac∧Sd (exergueref10_affix.l1 kq l0 ac an aa=some (r1,r2,r3))∧Sd (kq≤k1)∧Sd (Kd.R k114 114 w' w.heap.size (fun _=>True) v7 an)∧Sd (Below w.heap.size w w'))
   case atStart=>exact ⟨(wrap64 (aa+1)),(ae),(by first|rfl|(simp;done)|(simp [*];done)),H',⟨Nat.le_refl _⟩,⟨ro HO_7⟩,⟨bl HB⟩⟩
   case round=>
    clear H'
    try clear c1
    try clear p2
    try clear c3
    try clear am
    try clear c4
    try clear aC
    try clear p4
    try clear q4
    try clear hx4
    try clear p6
    try clear c7
    try clear aR
    try clear c8
    try clear c10
    try clear aT
    try clear aU
    try clear c11
    try clear c12
    try clear aV
    try clear aW
    try clear c13
    try clear ab
    try clear p2
    try clear ag
    try clear ah
    obtain ⟨ac,an,rfl,HA,HK2,HO_7,HB⟩:=hrel
    cases gk with
    | zero=>exact absurd HA.out (by simp [exergueref10_affix.l1])
    | succ k2=>
     have H:=HA.out
     clear HA
     simp only [exergueref10_affix.l1] at H
     have bj:=zS H
     clear H
     go_upto_region 19 with (fail)
     go_cut [76] (fun v76 wc=>∃ (kq:Nat) (ar:Bool),v76 = .bool ar∧Sd (exergueref10_affix.j2 kq l0 ac an aa ar=some (r1,r2,r3))∧Sd (kq≤k2)∧Sd (Kd.R k114 114 wc w.heap.size (fun _=>True) u7 an)∧Sd (Below w.heap.size w wc))
     case first=>
      have H:=bj.out
      clear bj
      by_cases c16:ac<(l0.length:Int)
      rotate_left
      ·rw [if_neg c16] at H
       have ao:=zD c16
       clear c16
       (first|rw [ao]|(simp only [i64_w,i32_w];rw [ao])|rw [bG]|skip)
       have H':=zS H
       clear H
       go_wp2
       go_meet
       case rel=>exact ⟨_,(false),(by first|rfl|(simp;done)|(simp [*];done)),H',⟨by have:=HK1.out;have:=HK2.out;first|omega|exact Nat.le_refl _⟩,⟨ro HO_7⟩,⟨bl HB⟩⟩
      rw [if_pos c16] at H
      have ao:=zC c16
      clear c16
      (first|rw [ao]|(simp only [i64_w,i32_w];rw [ao])|rw [bG]|skip)
      by_cases c17:0≤ac
      rotate_left
      ·rw [if_neg c17] at H
       exact absurd H (by simp)
      rw [if_pos c17] at H
      have bH:=zC c17
      clear c17
      by_cases c18:(rd l0 ac)=39
      ·rw [if_pos c18] at H
       have bc:((rd l0 ac) == 39)=true:=zH c18
       have bd:((rd l0 ac) != 39)=false:=zG c18
       clear c18
       replace H:=Option.bind_eq_some_iff.mp H
       obtain ⟨bb,bI,H⟩:=H
       try dsimp only at H
       have A19:=zS bI
       clear bI
       have H':=zS H
       clear H
       have ay:0≤(ac:Int):=zB (by first|(with_reducible assumption)|assumption)
       have az:ac<(l0.length:Int):=zB (by first|(with_reducible assumption)|assumption)
       obtain ⟨aX,bk,af⟩:=Kd.at_int HR0.out ac ay az
       obtain rfl:ak=aX:=(by injection bk)
       replace af:=(HB.out.cell (World.block_lt_of_cell? w _ af)).trans af
       replace ay:=eq_true ay
       replace az:=eq_true az
       go_wp2_with (first|(go_at_call 88;(with_reducible refine (exergueref10_at.calls _ _ l0 (wrap64 (ac+1)) bb _ (cb HR0 HB) HC0.out A19.out).mono ?_);rintro e w' ⟨rfl,⟨nd,rfl⟩⟩))
       go_meet
       case rel=>exact ⟨_,((bb == 39)),(by first|rfl|(simp;done)|(simp [*];done)),H',⟨by have:=HK1.out;have:=HK2.out;first|omega|exact Nat.le_refl _⟩,⟨ro HO_7⟩,⟨bl HB⟩⟩
      rw [if_neg c18] at H
      have bc:((rd l0 ac) == 39)=false:=zF c18
      have bd:((rd l0 ac) != 39)=true:=zI c18
      have H':=zS H
      clear H
      have ay:0≤(ac:Int):=zB (by first|(with_reducible assumption)|assumption)
      have az:ac<(l0.length:Int):=zB (by first|(with_reducible assumption)|assumption)
      obtain ⟨aX,bk,af⟩:=Kd.at_int HR0.out ac ay az
      obtain rfl:ak=aX:=(by injection bk)
      replace af:=(HB.out.cell (World.block_lt_of_cell? w _ af)).trans af
      replace ay:=eq_true ay
      replace az:=eq_true az
      go_wp2
      go_meet
      case rel=>exact ⟨_,(true),(by first|rfl|(simp;done)|(simp [*];done)),H',⟨by have:=HK1.out;have:=HK2.out;first|omega|exact Nat.le_refl _⟩,⟨ro HO_7⟩,⟨bl HB⟩⟩
     case rest=>
      clear bj
      try clear c1
      try clear p2
      try clear c3
      try clear am
      try clear c4
      try clear aC
      try clear p4
      try clear q4
      try clear hx4
      try clear p5
      try clear q5
      try clear hx5
      try clear p6
      try clear c7
      try clear aR
      try clear c8
      try clear c10
      try clear aT
      try clear aU
      try clear c11
      try clear c12
      try clear aV
      try clear aW
      try clear c13
      try clear c16
      try clear ao
      try clear c17
      try clear bH
      try clear c18
      try clear bc
      try clear bd
      try clear ab
      try clear af
      try clear p2
      try clear p4
      try clear ag
      try clear ay
      try clear p6
      try clear q4
      try clear ah
      try clear az
      obtain ⟨kq,ar,rfl,HA,HJ14,HO_7,HB⟩:=hcut
      cases kq with
      | zero=>exact absurd HA.out (by simp [exergueref10_affix.j2])
      | succ kj14=>
       have H:=HA.out
       clear HA
       simp only [exergueref10_affix.j2] at H
       by_cases c20:ar=true
       rotate_left
       ·replace c20:=Bool.eq_false_iff.mpr c20
        subst c20
        rw [if_neg (show ¬ (false=true) by decide)] at H
        by_cases c27:ac≥(l0.length:Int)
        ·rw [if_pos c27] at H
         have bJ:decide ((l0.length:Int)≤ac)=true:=zC c27
         clear c27
         simp only [Option.some.injEq,Prod.mk.injEq] at H
         obtain ⟨rfl,rfl,rfl⟩:=H
         go_wp2
         go_ret3
         exact ⟨_,by first|rfl|(simp <;> rfl)|(simp [*] <;> rfl),by first|exact Kd.R_nil _ _ _ _ _|exact Kd.N_nil _ _ _ _ _|exact Kd.V_nil _ _ _ _ _|exact Kd.Q_nil _ _ _ _ _|exact Kd.S_nil _ _ _ _ _,bl HB⟩
        rw [if_neg c27] at H
        have bJ:decide ((l0.length:Int)≤ac)=false:=zD c27
        clear c27
        have H':=zS H
        clear H
        go_wp2
        go_roundg kj14
        case measure=>have:=HK1.out;have:=HK2.out;have:=HJ14.out;omega
        case rel=>exact ⟨(wrap64 (ac+1)),(an),(by first|rfl|(simp;done)|(simp [*];done)),H',⟨by have:=HK1.out;have:=HK2.out;have:=HJ14.out;omega⟩,⟨ro HO_7⟩,⟨bl HB⟩⟩
       subst c20
       rw [if_pos rfl] at H
       by_cases c21:0≤ac
       rotate_left
       ·rw [if_neg c21] at H
        exact absurd H (by simp)
       rw [if_pos c21] at H
       have bP:=zC c21
       clear c21
       by_cases c22:ac<(l0.length:Int)
       rotate_left
       ·rw [if_neg c22] at H
        exact absurd H (by simp)
       rw [if_pos c22] at H
       have bQ:=zC c22
       clear c22
       by_cases c23:an.length<8796093022208
       rotate_left
       ·rw [if_neg c23] at H
        exact absurd H (by simp)
       rw [if_pos c23] at H
       have LMc23:=zS c23
       clear c23
       obtain ⟨aI,aA⟩:∃ y_:List (S114),y_=(an ++ [(⟨0,rd l0 ac⟩:S114)]):=⟨_,rfl⟩
       replace H:(if (rd l0 ac)=39 then (exergueref10_affix.l1 kj14 l0 (wrap64 ((wrap64 (ac+1))+1)) aI aa) else (exergueref10_affix.l1 kj14 l0 (wrap64 (ac+1)) aI aa))=some (r1,r2,r3):=by first|(rw [aA];with_reducible exact H)|(have H2_:=(Option.bind_some _ _).symm.trans H;rw [aA];with_reducible exact H2_)|(have H2_:=(Option.bind_some _ _).symm.trans H;with_reducible exact H2_)|with_reducible exact H|(rw [aA];exact H)|exact H
       have be:=zS aA
       clear aA
       by_cases c24:(rd l0 ac)=39
       ·rw [if_pos c24] at H
        have bK:((rd l0 ac) == 39)=true:=zH c24
        have bL:((rd l0 ac) != 39)=false:=zG c24
        clear c24
        have H':=zS H
        clear H
        have aJ:0≤(ac:Int):=zB (by first|(with_reducible assumption)|assumption)
        have aK:ac<(l0.length:Int):=zB (by first|(with_reducible assumption)|assumption)
        obtain ⟨aY,bm,ai⟩:=Kd.at_int HR0.out ac aJ aK
        obtain rfl:ak=aY:=(by injection bm)
        replace ai:=(HB.out.cell (World.block_lt_of_cell? w _ ai)).trans ai
        replace aJ:=eq_true aJ
        replace aK:=eq_true aK
        go_wp2_with (first|((with_reducible refine gate_builtin (b:=.append) (xs:=#[.tmp 77,.tmp 83]) rfl ?_);at_builtin;refine Kd.R_append k114 (w0:=w) w.heap.size rfl (.tmp 77) (.tmp 83) 24 114 (.agg #[(.int .i64 0),(.int .i32 0)]) 16 rfl Tryz.underlying24 info114 rfl (by decide) (by omega) u7 an (⟨0,rd l0 ac⟩:S114) [.int .i64 0,.int .i32 (rd l0 ac)] (fun _=>True) (fun _=>False) rfl rfl ?aP (fun _ hk=>hk.elim) ?aF ?aO ?aB ?aS ?aL ?_;(case aP=>exact k114_mkM _ _ _ (⟨0,rd l0 ac⟩:S114));(case aB=>exact (bl HB));(case aF=>exact (fun _ _=>trivial));(case aO=>exact (ro HO_7));(case aS=>exact (bz HB));(case aL=>have:=LMc23.out;omega);intro bO w25 ho hb hg hat;rw [← be.out] at ho;replace HB:=zS (hb);have aZ:=zS (ho);clear HO_7;clear ho hb hg hat;have aM:0≤(ac:Int):=zB (by first|(with_reducible assumption)|assumption);have aN:ac<(l0.length:Int):=zB (by first|(with_reducible assumption)|assumption);obtain ⟨a3,bn,aj⟩:=Kd.at_int HR0.out ac aM aN;obtain rfl:ak=a3:=(by injection bn);replace aj:=(HB.out.cell (World.block_lt_of_cell? w _ aj)).trans aj;replace aM:=eq_true aM;replace aN:=eq_true aN))
        go_roundg kj14
        case measure=>have:=HK1.out;have:=HK2.out;have:=HJ14.out;omega
        case rel=>exact ⟨(wrap64 ((wrap64 (ac+1))+1)),(aI),(by first|rfl|(simp;done)|(simp [*];done)),H',⟨by have:=HK1.out;have:=HK2.out;have:=HJ14.out;omega⟩,⟨ro aZ⟩,⟨bl HB⟩⟩
       rw [if_neg c24] at H
       have bK:((rd l0 ac) == 39)=false:=zF c24
       have bL:((rd l0 ac) != 39)=true:=zI c24
       have H':=zS H
       clear H
       have aJ:0≤(ac:Int):=zB (by first|(with_reducible assumption)|assumption)
       have aK:ac<(l0.length:Int):=zB (by first|(with_reducible assumption)|assumption)
       obtain ⟨aY,bm,ai⟩:=Kd.at_int HR0.out ac aJ aK
       obtain rfl:ak=aY:=(by injection bm)
       replace ai:=(HB.out.cell (World.block_lt_of_cell? w _ ai)).trans ai
       replace aJ:=eq_true aJ
       replace aK:=eq_true aK
       go_wp2_with (first|((with_reducible refine gate_builtin (b:=.append) (xs:=#[.tmp 77,.tmp 83]) rfl ?_);at_builtin;refine Kd.R_append k114 (w0:=w) w.heap.size rfl (.tmp 77) (.tmp 83) 24 114 (.agg #[(.int .i64 0),(.int .i32 0)]) 16 rfl Tryz.underlying24 info114 rfl (by decide) (by omega) u7 an (⟨0,rd l0 ac⟩:S114) [.int .i64 0,.int .i32 (rd l0 ac)] (fun _=>True) (fun _=>False) rfl rfl ?aP (fun _ hk=>hk.elim) ?aF ?aO ?aB ?aS ?aL ?_;(case aP=>exact k114_mkM _ _ _ (⟨0,rd l0 ac⟩:S114));(case aB=>exact (bl HB));(case aF=>exact (fun _ _=>trivial));(case aO=>exact (ro HO_7));(case aS=>exact (bz HB));(case aL=>have:=LMc23.out;omega);intro bO w26 ho hb hg hat;rw [← be.out] at ho;replace HB:=zS (hb);have aZ:=zS (ho);clear HO_7;clear ho hb hg hat;have aM:0≤(ac:Int):=zB (by first|(with_reducible assumption)|assumption);have aN:ac<(l0.length:Int):=zB (by first|(with_reducible assumption)|assumption);obtain ⟨a3,bn,aj⟩:=Kd.at_int HR0.out ac aM aN;obtain rfl:ak=a3:=(by injection bn);replace aj:=(HB.out.cell (World.block_lt_of_cell? w _ aj)).trans aj;replace aM:=eq_true aM;replace aN:=eq_true aN))
       go_roundg kj14
       case measure=>have:=HK1.out;have:=HK2.out;have:=HJ14.out;omega
       case rel=>exact ⟨(wrap64 (ac+1)),(aI),(by first|rfl|(simp;done)|(simp [*];done)),H',⟨by have:=HK1.out;have:=HK2.out;have:=HJ14.out;omega⟩,⟨ro aZ⟩,⟨bl HB⟩⟩
def exergueref10_times.l0:Nat→ByteArray→Int→ByteArray→Int→Option (ByteArray)
 | 0,_,_,_,_=>none
 | k+1,x0,x1,x5,x6=>if x6<x1 then (if x5.size+x0.size≤9223372036854775807 then (exergueref10_times.l0 k x0 x1 (x5 ++ x0) (wrap64 (x6+1))) else (none)) else (some x5)
def exergueref10_times.f (k:Nat)(a0:ByteArray)(a1:Int):Option (ByteArray):=exergueref10_times.l0 k a0 a1 (⟨#[]⟩:ByteArray) 0
theorem exergueref10_times.mono_l:∀ k,(∀ y0 y1 y2 y3,LeO (exergueref10_times.l0 k y0 y1 y2 y3) (exergueref10_times.l0 (k+1) y0 y1 y2 y3))
 | 0=>fun _ _ _ _ r h=>by simp [exergueref10_times.l0] at h
 | k+1=>by
  have ih0:=exergueref10_times.mono_l k
  ·intro y0 y1 y2 y3
   unfold exergueref10_times.l0
   repeat' first|(with_reducible first|apply ih0|apply LeO.refl|apply LeO.none|refine LeO.ite ?_ ?_|refine LeO.bind ?_ (fun _=>?_))|apply ih0|apply LeO.none
theorem exergueref10_times.mono:∀ a0 a1 k,LeO (exergueref10_times.f k a0 a1) (exergueref10_times.f (k+1) a0 a1):=by
 intro a0 a1 k
 have ih0:=exergueref10_times.mono_l k
 unfold exergueref10_times.f
 repeat' first|(with_reducible first|apply ih0|apply LeO.refl|apply LeO.none|refine LeO.ite ?_ ?_|refine LeO.bind ?_ (fun _=>?_))|apply ih0|apply LeO.none
set_option maxHeartbeats 8000000 in
set_option maxRecDepth 100000 in
theorem exergueref10_times.calls (k:Nat)(a0:ByteArray)(a1:Int)(r:ByteArray)(w:World)(h:exergueref10_times.f k a0 a1=some r) :
  Calls Tryz.prog 117 #[.string a0,.int .i64 a1] w fun e w'=>e = .returned (.string r)∧Drawn0 w w':=by
 have H:(exergueref10_times.l0 k a0 a1 (⟨#[]⟩:ByteArray) 0)=some r:=h
 clear h
 have H':=zS H
 clear H
 go_enter Tryz.func117,Tryz.ntmps117
 go_wp2
 go_loopg [5,6] k (fun kq v5 v6 w'=>∃ (ad:ByteArray) (a4:Int),v5 = .string ad∧v6 = .int .i64 a4∧Sd (exergueref10_times.l0 kq a0 a1 ad a4=some r)∧Sd (kq≤k)∧Drawn0 w w')
 case atStart=>exact ⟨((⟨#[]⟩:ByteArray)),(0),(by first|rfl|(simp;done)|(simp [*];done)),(by first|rfl|(simp;done)|(simp [*];done)),H',⟨Nat.le_refl _⟩,by repeat (first|exact Drawn0.refl _|apply Drawn0.step)⟩
 case round=>
  clear H'
  try clear c1
  try clear p2
  obtain ⟨ad,a4,rfl,rfl,HA,HK1,⟨m1,rfl⟩⟩:=hrel
  cases gk with
  | zero=>exact absurd HA.out (by simp [exergueref10_times.l0])
  | succ k1=>
   have H:=HA.out
   clear HA
   simp only [exergueref10_times.l0] at H
   by_cases c3:a4<a1
   ·rw [if_pos c3] at H
    have am:=zC c3
    clear c3
    by_cases c4:ad.size+a0.size≤9223372036854775807
    ·rw [if_pos c4] at H
     have aC:=eq_true c4
     have br:=zC c4
     try have bV:(9223372036854775807<ad.size+a0.size)=False:=eq_false (Nat.not_lt.2 c4)
     have H':=zS H
     clear H
     go_wp2
     go_roundg k1
     case measure=>have:=HK1.out;omega
     case rel=>exact ⟨(ad ++ a0),(wrap64 (a4+1)),(by first|rfl|(simp;done)|(simp [*];done)),(by first|rfl|(simp;done)|(simp [*];done)),H',⟨by have:=HK1.out;omega⟩,by repeat (first|exact Drawn0.refl _|apply Drawn0.step)⟩
    rw [if_neg c4] at H
    exact absurd H (by simp)
   rw [if_neg c3] at H
   have am:=zD c3
   clear c3
   obtain rfl:=zE H
   go_wp2
   go_ret
   exact ⟨by first|rfl|(simp;done)|(simp [*];done),by repeat (first|exact Drawn0.refl _|apply Drawn0.step)⟩
def exergueref10_many.l0:Nat→List Int→Int→Int→Int→Option (Int)
 | 0,_,_,_,_=>none
 | k+1,x0,x1,x2,x7=>(exergueref10_at.f x0 (wrap64 (x1+x7))).bind fun au=>(if au=x2 then (exergueref10_many.l0 k x0 x1 x2 (wrap64 (x7+1))) else (some x7))
def exergueref10_many.f (k:Nat)(l0:List Int)(a1:Int)(a2:Int):Option (Int):=exergueref10_many.l0 k l0 a1 a2 0
theorem exergueref10_many.mono_l:∀ k,(∀ y0 y1 y2 y3,LeO (exergueref10_many.l0 k y0 y1 y2 y3) (exergueref10_many.l0 (k+1) y0 y1 y2 y3))
 | 0=>fun _ _ _ _ r h=>by simp [exergueref10_many.l0] at h
 | k+1=>by
  have ih0:=exergueref10_many.mono_l k
  ·intro y0 y1 y2 y3
   unfold exergueref10_many.l0
   repeat' first|(with_reducible first|apply ih0|apply LeO.refl|apply LeO.none|refine LeO.ite ?_ ?_|refine LeO.bind ?_ (fun _=>?_))|apply ih0|apply LeO.none
theorem exergueref10_many.mono:∀ a0 a1 a2 k,LeO (exergueref10_many.f k a0 a1 a2) (exergueref10_many.f (k+1) a0 a1 a2):=by
 intro a0 a1 a2 k
 have ih0:=exergueref10_many.mono_l k
 unfold exergueref10_many.f
 repeat' first|(with_reducible first|apply ih0|apply LeO.refl|apply LeO.none|refine LeO.ite ?_ ?_|refine LeO.bind ?_ (fun _=>?_))|apply ih0|apply LeO.none
set_option maxHeartbeats 8000000 in
set_option maxRecDepth 100000 in
theorem exergueref10_many.calls (k:Nat)(A0:Option Addr)(c0:Nat)(l0:List Int)(a1:Int)(a2:Int)(r:Int)(w:World)(hr0:Kd.C (Kd.int .i32) w A0 l0.length l0)(hc0:l0.length≤c0)(h:exergueref10_many.f k l0 a1 a2=some r) :
  Calls Tryz.prog 131 #[.slice A0 l0.length c0,.int .i64 a1,.int .i32 a2] w fun e w'=>e = .returned (.int .i64 r)∧Drawn0 w w':=by
 have HR0:=zS hr0
 have HC0:=zS hc0
 clear hr0 hc0
 have H:(exergueref10_many.l0 k l0 a1 a2 0)=some r:=h
 clear h
 have H':=zS H
 clear H
 go_enter Tryz.func131,Tryz.ntmps131
 go_wp2
 go_loopg [7] k (fun kq v7 w'=>∃ (ae:Int),v7 = .int .i64 ae∧Sd (exergueref10_many.l0 kq l0 a1 a2 ae=some r)∧Sd (kq≤k)∧Drawn0 w w')
 case atStart=>exact ⟨(0),(by first|rfl|(simp;done)|(simp [*];done)),H',⟨Nat.le_refl _⟩,by repeat (first|exact Drawn0.refl _|apply Drawn0.step)⟩
 case round=>
  clear H'
  try clear c1
  try clear p2
  obtain ⟨ae,rfl,HA,HK1,⟨m1,rfl⟩⟩:=hrel
  cases gk with
  | zero=>exact absurd HA.out (by simp [exergueref10_many.l0])
  | succ k1=>
   have H:=HA.out
   clear HA
   simp only [exergueref10_many.l0] at H
   replace H:=Option.bind_eq_some_iff.mp H
   obtain ⟨au,A40,H⟩:=H
   try dsimp only at H
   have A4:=zS A40
   clear A40
   by_cases c5:au=a2
   ·rw [if_pos c5] at H
    have a6:(au == a2)=true:=zH c5
    have bi:(au != a2)=false:=zG c5
    clear c5
    have H':=zS H
    clear H
    go_wp2_with (first|((with_reducible refine gate_callee (f:=88) rfl ?_);refine gL (some 12) Tryz.func88 #[.slice A0 l0.length c0,.int .i64 (wrap64 (a1+ae))] ?_;(with_reducible refine (exergueref10_at.calls _ _ l0 (wrap64 (a1+ae)) au _ ?side1 HC0.out A4.out).mono ?_);(case side1=>repeat (first|exact HR0.out|(with_reducible refine Kd.C_alloc ?_ _)|(with_reducible refine Kd.C_drewN ?_ _)|(with_reducible refine Kd.C_drew ?_)));rintro e w' ⟨rfl,⟨nd,rfl⟩⟩;refine ⟨_,rfl,?_⟩))
    go_roundg k1
    case measure=>have:=HK1.out;omega
    case rel=>exact ⟨(wrap64 (ae+1)),(by first|rfl|(simp;done)|(simp [*];done)),H',⟨by have:=HK1.out;omega⟩,by repeat (first|exact Drawn0.refl _|apply Drawn0.step)⟩
   rw [if_neg c5] at H
   have a6:(au == a2)=false:=zF c5
   have bi:(au != a2)=true:=zI c5
   obtain rfl:=zE H
   go_wp2_with (first|((with_reducible refine gate_callee (f:=88) rfl ?_);refine gL (some 12) Tryz.func88 #[.slice A0 l0.length c0,.int .i64 (wrap64 (a1+ae))] ?_;(with_reducible refine (exergueref10_at.calls _ _ l0 (wrap64 (a1+ae)) au _ ?side1 HC0.out A4.out).mono ?_);(case side1=>repeat (first|exact HR0.out|(with_reducible refine Kd.C_alloc ?_ _)|(with_reducible refine Kd.C_drewN ?_ _)|(with_reducible refine Kd.C_drew ?_)));rintro e w' ⟨rfl,⟨nd,rfl⟩⟩;refine ⟨_,rfl,?_⟩))
   go_ret
   exact ⟨by first|rfl|(simp;done)|(simp [*];done),by repeat (first|exact Drawn0.refl _|apply Drawn0.step)⟩
end Go.Proofs.YtklebhlanidloaaGreatDoor.PZ
end
end
section
set_option maxRecDepth 100000
namespace Go.Proofs.YtklebhlanidloaaGreatDoor.PZ
open Go.RowKit Go.Shelf Go.Lib Go.Proofs.YtklebhlanidloaaGreatDoorW.PrintWords Go.Proofs.YtklebhlanidloaaGreatDoorW.PrintLast
theorem byteSize (w:World):(Go.sizeOf 5).run Tryz.prog w = .ok 1 w:=by
 obtain ⟨i,hi,_,hsz,_⟩:=info_parts zerosByteInfo
 simp [Go.sizeOf,typeInfo,hi,hsz]
set_option maxHeartbeats 4000000 in
set_option maxRecDepth 100000 in
theorem insert_shift (b off n c i vb voff m vc:Nat)(cs vs:List Value)(w:World)(hi:i<n)(hm:0<m)(hroom:n+m≤c)(hc63:c≤9223372036854775807)(hvb:vb≠b)
    (hcl:cs.length=n) (hvl:vs.length=m)
    (hcs:∀ j v,cs[j]?=some v→w.cell? ⟨b,off+j,none⟩=some v) (hsp:∀ j,j<n+m→(w.cell? ⟨b,off+j,none⟩).isSome=true) (hfz:∀ j,j<n+m→w.frozen? ⟨b,off+j,none⟩=false)
    (hvs:∀ j v,vs[j]?=some v→w.cell? ⟨vb,voff+j,none⟩=some v) (h1c:∀ v ∈ cs,v.oneCell'=true) (h1v:∀ v ∈ vs,v.oneCell'=true)
    (tA tB:TypeId) (kA kB:Nat) (hsa:w.shape? vb=some (tA,kA)) (hsb:w.shape? b=some (tB,kB)) (hkB:kB≠0) (hfa:w.frozen? ⟨vb,voff,none⟩=false) (hfe:w.frozen? ⟨vb,kA,none⟩=false) :
    Calls Tryz.prog 124 #[.slice (some ⟨b,off,none⟩) n c,.int .i64 i,.slice (some ⟨vb,voff,none⟩) m vc] w fun e w'=>
      e = .returned (.slice (some ⟨b,off,none⟩) (n+m) c)∧w'=(w.drew.setCells b (off+(i+m)) (cs.drop i)).setCells b (off+i) vs:=by
 have hz1:¬ ((m:Int)=0):=by omega
 have hz2:¬ ((i:Int)=(n:Int)):=by omega
 have hsz:(Tryz.prog.info? 5).map (·.size)=some 1:=by
  obtain ⟨i0,hi0,h0,h1,h2⟩:=info_parts zerosByteInfo
  rw [hi0];simp [h1]
 have hov:∀ lb cb,(callFunc 136 #[.slice (some ⟨vb,voff,none⟩) m vc,.slice (some ⟨b,off+(i+m),none⟩) lb cb]).run Tryz.prog w = .ok (.value (.bool false)) w:=fun lb cb=>by
  rw [run_callFunc_extern Tryz.func136 (by kernel_rfl) (by kernel_rfl) (by kernel_rfl) (e:=Extern.SlicesOverlaps.overlaps #[27,27] #[4]) (by kernel_rfl),
   Lib.run_overlaps_apart w 27 4 5 Tryz.underlying27 1 byteSize ⟨vb,voff,none⟩ ⟨b,off+(i+m),none⟩ m vc lb cb hvb tA tB kA kB hsa hsb hkB hfa hfe]
  rfl
 have hdl:(cs.drop i).length=n - i:=by rw [List.length_drop,hcl]
 have mixed:Tryz.prog.follows .mixedOrders=true:=by kernel_rfl
 have hw1:IntKind.i64.wrap ((i:Int)+(m:Int))=(i:Int)+(m:Int):=by rw [IntKind.wrap_i64];omega
 have hb1:(0:Int)≤(i:Int)+(m:Int):=by omega
 have hin:i≤n:=by omega
 have htn:((i:Int)+(m:Int)).toNat=i+m:=by omega
 have hb2:¬ (c=i+m):=by omega
 have hb3:(i:Int)≤(n:Int)+(m:Int):=by omega
 have hb4:¬ (c=i):=by omega
 have hcp1:∀ ty dc sc,(Builtin.copy_ #[27,27] ty #[.slice (some ⟨b,off+(i+m),none⟩) (n+m - (i+m)) dc,.slice (some ⟨b,off+i,none⟩) (n+m - i) sc]).run Tryz.prog w.drew = .ok (goInt (cs.drop i).length) (w.drew.setCells b (off+(i+m)) (cs.drop i)):=fun ty dc sc=>
  run_copy_cells w.drew _ _ ty 5 b (off+(i+m)) (n+m - (i+m)) dc ⟨b,off+i,none⟩ (n+m - i) sc (cs.drop i) Tryz.underlying27 hsz (by rw [hdl];simp only [Nat.min_def];split <;> omega)
   (fun j v hj=>by rw [Addr.add_lit,Nat.add_assoc];exact hcs (i+j) v (by rwa [List.getElem?_drop] at hj))
   (fun j hj=>by rw [Nat.add_assoc];exact hsp _ (by omega)) (fun j hj=>by rw [Nat.add_assoc];exact hfz _ (by omega)) (fun v hv=>h1c v (List.mem_of_mem_drop hv))
 obtain ⟨W1,hW1⟩:∃ W1,W1=w.drew.setCells b (off+(i+m)) (cs.drop i):=⟨_,rfl⟩
 have hsp1:∀ k,k<n+m→(W1.cell? ⟨b,off+k,none⟩).isSome=true:=fun k hk=>by
  rw [hW1]
  exact isSome_setCells b _ _ _ (fun j hj=>by rw [Nat.add_assoc];exact hsp _ (by omega)) _ (hsp k hk)
 have hcp2:∀ (W:World),(∀ x,W.cell? x=W1.cell? x)→(∀ x,W.frozen? x=W1.frozen? x)→∀ ty dc,(Builtin.copy_ #[27,27] ty #[.slice (some ⟨b,off+i,none⟩) (n+m - i) dc,.slice (some ⟨vb,voff,none⟩) m vc]).run Tryz.prog W = .ok (goInt vs.length) (W.setCells b (off+i) vs):=fun W hWc hWf ty dc=>
  run_copy_cells W _ _ ty 5 b (off+i) (n+m - i) dc ⟨vb,voff,none⟩ m vc vs Tryz.underlying27 hsz (by rw [hvl];simp only [Nat.min_def];split <;> omega)
   (fun j v hj=>by
     rw [Addr.add_lit,hWc,hW1,World.cell?_setCells_out b _ _ _ _ (fun h _=>absurd h hvb)]
     exact hvs j v hj)
   (fun j hj=>by rw [hWc,Nat.add_assoc];exact hsp1 _ (by omega)) (fun j hj=>by rw [hWf,hW1,World.frozen?_setCells,Nat.add_assoc];exact hfz _ (by omega)) h1v
 rw [← hW1] at hcp1
 go_enter Tryz.func124,Tryz.ntmps124
 go_wp2_with (simp only [hov])
 go_region_law_o (refine step_copy_runI rfl _ _ 27 27 rfl _ _ (by simp [Act.eval,Act.put]) (by simp [Act.eval,Act.put]) (hcp1 _ _ _) ?_)
 go_wp2_with (at_builtin;refine wpList_copy_runI _ rfl _ _ 27 27 rfl _ _ rfl rfl (hcp2 _ (fun _=>rfl) (fun _=>rfl) _ _) ?_)
 go_ret
 first|exact ⟨rfl,rfl⟩|exact ⟨rfl,by rw [hW1]⟩
set_option maxHeartbeats 4000000 in
set_option maxRecDepth 100000 in
theorem insert_grow (b off n c i vb voff m vc:Nat)(cs vs:List Value)(w:World)(hi:i<n)(hm:0<m)(hnc:n≤c)(hroom:c<n+m)(hbig:(n+m) * 1≤140737488355328)
    (hcl:cs.length=n) (hvl:vs.length=m)
    (hcs:∀ j v,cs[j]?=some v→w.cell? ⟨b,off+j,none⟩=some v)
    (hvs:∀ j v,vs[j]?=some v→w.cell? ⟨vb,voff+j,none⟩=some v) (h1c:∀ v ∈ cs,v.oneCell'=true) (h1v:∀ v ∈ vs,v.oneCell'=true) :
    Calls Tryz.prog 124 #[.slice (some ⟨b,off,none⟩) n c,.int .i64 i,.slice (some ⟨vb,voff,none⟩) m vc] w fun e w'=>
      e = .returned (.slice (some ⟨w.heap.size,0,none⟩) (n+m) (grownCap w (n+m) c 5)) ∧
      w'=(((w.alloc (.cells ((cs.take i).toArray ++ Builtin.zeroCells (Value.int .u8 0).cells (n+m - i) ++ Builtin.zeroCells (Value.int .u8 0).cells (grownCap w (n+m) c 5 - (n+m))) 5)).drew.setCells w.heap.size i vs).drew).setCells w.heap.size (i+m) (cs.drop i):=by
 have mixed:Tryz.prog.follows .mixedOrders=true:=by kernel_rfl
 obtain ⟨i0,hi0,hz0,hzs,hzb⟩:=info_parts zerosByteInfo
 have hz1:¬ ((m:Int)=0):=by omega
 have hz2:¬ ((i:Int)=(n:Int)):=by omega
 have hz3:(c:Int)<(n:Int)+(m:Int):=by omega
 have hsz:(Tryz.prog.info? 5).map (·.size)=some 1:=by rw [hi0];simp [hzs]
 have hbw:b<w.heap.size:=block_lt_of_cell (hcs 0 _ (List.getElem?_eq_getElem (by omega)))
 have hvw:vb<w.heap.size:=block_lt_of_cell (hvs 0 _ (List.getElem?_eq_getElem (by omega)))
 have hkk:(n:Int)+(m:Int) - (i:Int)=((n+m - i:Nat):Int):=by omega
 have hik:i+(n+m - i)=n+m:=by omega
 have hold:(Builtin.firstCells i0.size i (.slice (some ⟨b,off,none⟩) i c)).run Tryz.prog w.drew = .ok (cs.take i).toArray w.drew:=by
  rw [hzs]
  exact run_firstCells_some w.drew 1 i ⟨b,off,none⟩ i c (cs.take i) (by rw [List.length_take];omega) (fun j v hj=>by
   rw [Addr.add_lit]
   rw [List.getElem?_take] at hj
   split at hj
   · exact hcs j v hj
   cases hj)
 have hrz:∀ ty,(Builtin.append_ #[27,3] ty #[.slice (some ⟨b,off,none⟩) i c,.int .i64 ((n:Int)+(m:Int) - (i:Int))]).run Tryz.prog w =
    .ok (.slice (some ⟨w.heap.size,0,none⟩) (n+m) (grownCap w (n+m) c 5)) (w.drew.alloc (.cells ((cs.take i).toArray ++ Builtin.zeroCells (Value.int .u8 0).cells (n+m - i) ++ Builtin.zeroCells (Value.int .u8 0).cells (grownCap w (n+m) c 5 - (n+m))) 5)):=fun ty=>by
  have h:=Lib.run_append_grow_zeros w 27 3 ty 5 i0 _ .i64 .i64 Tryz.underlying27 Tryz.underlying3 hi0 hz0 (some ⟨b,off,none⟩) i c (cs.take i) hold (n+m - i) (by omega) (by omega) (by omega) (by omega) (by rw [hzb];omega) (by rw [hzb,hik];exact growslice_fits hroom hbig)
  rw [hik] at h
  rw [hkk]
  exact h
 obtain ⟨G,hG⟩:∃ G,G=grownCap w (n+m) c 5:=⟨_,rfl⟩
 obtain ⟨ROW,hROW⟩:∃ ROW:Array Value,ROW=(cs.take i).toArray ++ Builtin.zeroCells (Value.int .u8 0).cells (n+m - i) ++ Builtin.zeroCells (Value.int .u8 0).cells (G - (n+m)):=⟨_,rfl⟩
 rw [← hG] at hrz ⊢
 rw [← hROW] at hrz ⊢
 have hRl:n+m≤ROW.size:=by
  rw [hROW]
  simp [Builtin.zeroCells,Value.cells]
  omega
 obtain ⟨W1,hW1⟩:∃ W1,W1=w.drew.alloc (.cells ROW 5):=⟨_,rfl⟩
 rw [← hW1] at hrz
 have hN:∀ j,j<n+m→(W1.cell? ⟨w.heap.size,j,none⟩).isSome=true:=fun j hj=>by
  rw [hW1,World.cell?_alloc_at (w:=w.drew) ROW _ w.heap.size j rfl,Array.getElem?_eq_getElem (by omega)];rfl
 have hNf:∀ j,W1.frozen? ⟨w.heap.size,j,none⟩=false:=fun j=>by rw [hW1];exact World.frozen?_alloc_at (w:=w.drew) ROW _ w.heap.size j rfl
 have hOb:∀ j v,w.cell? ⟨b,j,none⟩=some v→W1.cell? ⟨b,j,none⟩=some v:=fun j v h=>by rw [hW1,World.cell?_alloc_past (w:=w.drew) _ b j hbw];exact h
 have hOv:∀ j v,w.cell? ⟨vb,j,none⟩=some v→W1.cell? ⟨vb,j,none⟩=some v:=fun j v h=>by rw [hW1,World.cell?_alloc_past (w:=w.drew) _ vb j hvw];exact h
 have hcpA:∀ (W:World),(∀ x,W.cell? x=W1.cell? x)→(∀ x,W.frozen? x=W1.frozen? x)→∀ ty dc,(Builtin.copy_ #[27,27] ty #[.slice (some ⟨w.heap.size,i,none⟩) (n+m - i) dc,.slice (some ⟨vb,voff,none⟩) m vc]).run Tryz.prog W = .ok (goInt vs.length) (W.setCells w.heap.size i vs):=fun W hWc hWf ty dc=>
  run_copy_cells W _ _ ty 5 w.heap.size i (n+m - i) dc ⟨vb,voff,none⟩ m vc vs Tryz.underlying27 hsz (by rw [hvl];simp only [Nat.min_def];split <;> omega)
   (fun j v hj=>by rw [Addr.add_lit,hWc];exact hOv _ v (hvs j v hj))
   (fun j hj=>by rw [hWc];exact hN _ (by omega)) (fun j hj=>by rw [hWf];exact hNf _) h1v
 have hGn:n+m≤G:=by rw [hG];exact grownCap_ge w _ _ _
 have hG63:G≤9223372036854775807:=by
  have:=grownCap_le_maxLen w (n+m) c 5 (by unfold maxLen;omega)
  rw [← hG] at this
  unfold maxLen at this
  omega
 have hGi:¬ (G=i):=by omega
 have hGim:¬ (G=i+m):=by omega
 have hci:¬ (c=i):=by omega
 have hbN:b≠w.heap.size:=by omega
 have hdl:(cs.drop i).length=n - i:=by rw [List.length_drop,hcl]
 have hcpB:∀ (W:World),(∀ x,W.cell? x=(W1.setCells w.heap.size i vs).cell? x)→(∀ x,W.frozen? x=(W1.setCells w.heap.size i vs).frozen? x)→∀ ty dc sc,(Builtin.copy_ #[27,27] ty #[.slice (some ⟨w.heap.size,i+m,none⟩) (n+m - (i+m)) dc,.slice (some ⟨b,off+i,none⟩) (n - i) sc]).run Tryz.prog W = .ok (goInt (cs.drop i).length) (W.setCells w.heap.size (i+m) (cs.drop i)):=fun W hWc hWf ty dc sc=>
  run_copy_cells W _ _ ty 5 w.heap.size (i+m) (n+m - (i+m)) dc ⟨b,off+i,none⟩ (n - i) sc (cs.drop i) Tryz.underlying27 hsz (by rw [hdl];simp only [Nat.min_def];split <;> omega)
   (fun j v hj=>by
     rw [Addr.add_lit,hWc,World.cell?_setCells_out _ _ _ _ _ (fun h _=>absurd h hbN),Nat.add_assoc]
     exact hOb _ v (hcs (i+j) v (by rwa [List.getElem?_drop] at hj)))
   (fun j hj=>by rw [hWc];exact isSome_setCells _ _ _ _ (fun t ht=>hN _ (by omega)) _ (hN _ (by omega)))
   (fun j hj=>by rw [hWf,World.frozen?_setCells];exact hNf _) (fun v hv=>h1c v (List.mem_of_mem_drop hv))
 subst hW1
 have hE1:∀ x,((w.alloc (.cells ROW 5)).drew).cell? x=(w.drew.alloc (.cells ROW 5)).cell? x:=fun x=>rfl
 have hE2:∀ x,((w.alloc (.cells ROW 5)).drew).frozen? x=(w.drew.alloc (.cells ROW 5)).frozen? x:=fun x=>rfl
 have hF1:∀ x,(((w.alloc (.cells ROW 5)).drew.setCells w.heap.size i vs).drew).cell? x=((w.drew.alloc (.cells ROW 5)).setCells w.heap.size i vs).cell? x:=fun x=>rfl
 have hF2:∀ x,(((w.alloc (.cells ROW 5)).drew.setCells w.heap.size i vs).drew).frozen? x=((w.drew.alloc (.cells ROW 5)).setCells w.heap.size i vs).frozen? x:=fun x=>rfl
 have hw1:IntKind.i64.wrap ((i:Int)+(m:Int))=(i:Int)+(m:Int):=by rw [IntKind.wrap_i64];omega
 have hb1:(0:Int)≤(i:Int)+(m:Int):=by omega
 have hin:i≤n:=by omega
 have htn:((i:Int)+(m:Int)).toNat=i+m:=by omega
 have hb3:(i:Int)≤(n:Int):=by omega
 clear hkk hik hold hROW hG hRl
 go_enter Tryz.func124,Tryz.ntmps124
 go_wp2_with (first
  | (at_builtin;refine Lib.wpList_append_run _ rfl _ _ _ _ rfl _ _ rfl rfl _ _ (hrz _) ?_)
  | (at_builtin;refine wpList_copy_runI _ rfl _ _ 27 27 rfl _ _ rfl rfl (hcpA _ hE1 hE2 _ _) ?_)
  | (at_builtin;refine wpList_copy_runI _ rfl _ _ 27 27 rfl _ _ rfl rfl (hcpB _ (fun _=>rfl) (fun _=>rfl) _ _ _) ?_))
 go_region_law_o (refine step_copy_runI rfl _ _ 27 27 rfl (.slice (some ⟨w.heap.size,i+m,none⟩) (n+m - (i+m)) (G - (i+m))) (.slice (some ⟨b,off+i,none⟩) (n - i) (c - i)) (by simp [Act.eval,Act.put]) (by simp [Act.eval,Act.put]) (hcpB _ hF1 hF2 3 (G - (i+m)) (c - i)) ?_)
 go_wp2
 go_ret
 exact ⟨rfl,rfl⟩
end Go.Proofs.YtklebhlanidloaaGreatDoor.PZ
end
section
noncomputable section
namespace Go.Proofs.YtklebhlanidloaaGreatDoor.PZ
open Go.RowKit Go.Proofs.YtklebhlanidloaaGreatDoorW.PrintWords Go.Proofs.YtklebhlanidloaaGreatDoorW.PrintLast Go.Proofs.YtklebhlanidloaaGreatDoorW.PrintMore
attribute [local go_sem] max2_int min2_int max_two min_two max_three min_three max_four min_four   -- for this text's walks alone
end Go.Proofs.YtklebhlanidloaaGreatDoor.PZ
end
end
