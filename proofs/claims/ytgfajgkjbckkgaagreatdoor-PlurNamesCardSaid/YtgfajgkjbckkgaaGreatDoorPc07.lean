/- Texts of this seat, joined. Conditions: none beyond each statement's own. -/
import Derived.Test.YtgfajgkjbckkgaaGreatDoorPc04
set_option linter.all false
section
set_option maxRecDepth 100000
namespace Go.Proofs.YtgfajgkjbckkgaaGreatDoor.PZ
open Go.RowKit Go.Proofs.YtgfajgkjbckkgaaGreatDoorW.PrintWords Go.Proofs.YtgfajgkjbckkgaaGreatDoorW.PrintLast
abbrev Rg:=S57
abbrev Rl:=S60
deriving instance DecidableEq for S57
deriving instance DecidableEq for S60
def runL (p:Int→Bool)(t:List Int):Nat:=(t.takeWhile p).length
def isBl (c:Int):Bool:=c == 32
def isLo (c:Int):Bool:=decide (97≤c) && decide (c≤122)
def isDi (c:Int):Bool:=decide (48≤c) && decide (c≤57)
def isOp (c:Int):Bool:=c == 110 || c == 105 || c == 118 || c == 119 || c == 102 || c == 116 || c == 99 || c == 101
def bl (t:List Int):Nat:=runL isBl t
def decv (l:List Int):Int:=l.foldl (fun n c=>n * 10+(c - 48)) 0
def numP (least:Int)(t:List Int):Option Int×Nat:=
  let u:=t.drop (bl t)
  let d:=runL isDi u
  if d=0∨9<d∨(rd u 0=48∧1<d)∨decv (u.take d)<least then (none,bl t) else (some (decv (u.take d)),bl t+d)
def signP (x t:List Int):Bool:=x.isPrefixOf (t.drop (bl t))
def oneP (t:List Int):Option Rg×Nat:=
  match numP 0 t with
  | (none,n)=>(none,n)
  | (some a,n)=>
    if signP [46,46] (t.drop n) then
      match numP (a+1) (t.drop (n+(bl (t.drop n)+2))) with
      | (none,m)=>(none,n+(bl (t.drop n)+2)+m)
      | (some b,m)=>(some ⟨a,b⟩,n+(bl (t.drop n)+2)+m)
    else (some ⟨a,a⟩,n)
def rngF:Nat→List Int→Option (List Rg)×Nat
  | 0,_=>(none,0)
  | k+1,t=>
    match oneP t with
    | (none,n)=>(none,n)
    | (some r,n)=>
      if signP [44] (t.drop n) then
        match rngF k (t.drop (n+(bl (t.drop n)+1))) with
        | (none,j)=>(none,n+(bl (t.drop n)+1)+j)
        | (some l,j)=>(some (r :: l),n+(bl (t.drop n)+1)+j)
      else (some [r],n)
def rngP (t:List Int):Option (List Rg)×Nat:=rngF (t.length+1) t
def opP (t:List Int):Option Int×Nat:=
  if runL isLo (t.drop (bl t))=1∧isOp (rd (t.drop (bl t)) 0)=true then (some (rd (t.drop (bl t)) 0),bl t+1) else (none,bl t)
def modP (t:List Int):Option Int×Nat:=
  if signP [37] t then
    match numP 1 (t.drop (bl t+1)) with
    | (none,m)=>(none,bl t+1+m)
    | (some v,m)=>(some v,bl t+1+m)
  else (some 0,0)
def notP (t:List Int):Option Bool×Nat:=
  if signP [33,61] t then (some true,bl t+2) else if signP [61] t then (some false,bl t+1) else (none,bl t)
def relP (t:List Int):Option Rl×Nat:=
  match opP t with
  | (none,n)=>(none,n)
  | (some c,n)=>
    match modP (t.drop n) with
    | (none,m)=>(none,n+m)
    | (some v,m)=>
      match notP (t.drop (n+m)) with
      | (none,j)=>(none,n+m+j)
      | (some b,j)=>
        match rngP (t.drop (n+m+j)) with
        | (none,i)=>(none,n+m+j+i)
        | (some l,i)=>(some ⟨c,v,b,l⟩,n+m+j+i)
def wordOr:List Int:=[111,114]
def wordAnd:List Int:=[97,110,100]
def wordP (t:List Int):List Int:=t.take (runL isLo t)
def relsF:Nat→List Int→Option (List (Rl×Bool))×Nat
  | 0,_=>(none,0)
  | k+1,t=>
    match relP t with
    | (none,n)=>(none,n)
    | (some x,n)=>
      if t.drop (n+bl (t.drop n))=[] then (some [(x,false)],n+bl (t.drop n))
      else if wordP (t.drop (n+bl (t.drop n)))=wordOr then
        match relsF k (t.drop (n+bl (t.drop n)+2)) with
        | (none,j)=>(none,n+bl (t.drop n)+2+j)
        | (some l,j)=>(some ((x,true) :: l),n+bl (t.drop n)+2+j)
      else if wordP (t.drop (n+bl (t.drop n)))=wordAnd then
        match relsF k (t.drop (n+bl (t.drop n)+3)) with
        | (none,j)=>(none,n+bl (t.drop n)+3+j)
        | (some l,j)=>(some ((x,false) :: l),n+bl (t.drop n)+3+j)
      else (none,n+bl (t.drop n))
def relsP (t:List Int):Option (List (Rl×Bool))×Nat:=relsF (t.length+1) t
def rowsOf (l:List Rl):List (Rl×Bool)→List (List Rl)
  | []=>[l]
  | (x,true) :: r=>(l ++ [x]) :: rowsOf [] r
  | (x,false) :: r=>rowsOf (l ++ [x]) r
def fullP (r:List (Rl×Bool)):Bool:=decide (20<r.length) || r.any fun x=>decide (20<x.1.f3.length)
def parseP (t:List Int):List (List Rl)×Int×Int:=
  if 400<t.length then ([],0,11) else
    match relsP t with
    | (none,n)=>([],(n:Int),2)
    | (some r,_)=>if fullP r then ([],0,11) else (rowsOf [] r,0,0)
def joinT (sep:List Int):List (List Int)→List Int
  | []=>[]
  | x :: l=>x ++ l.flatMap fun y=>sep ++ y
def rgT (r:Rg):List Int:=if r.f1≠r.f0 then pw r.f0 ++ [46,46] ++ pw r.f1 else pw r.f0
def relT (sp:List Int)(x:Rl):List Int:=
  [x.f0] ++ ((if x.f1≠0 then sp ++ [37] ++ sp ++ pw x.f1 else []) ++ (sp ++ ((if x.f2 then [33,61] else [61]) ++ (sp ++ joinT [44] (x.f3.map rgT)))))
def rowT (sp:List Int)(r:List Rl):List Int:=joinT (sp ++ wordAnd ++ sp) (r.map (relT sp))
def condT (sp:List Int)(c:List (List Rl)):List Int:=joinT (sp ++ wordOr ++ sp) (c.map (rowT sp))
def rightP (c:List (List Rl)):Bool:=decide ((parseP (condT [32] c)).2.2=0) && decide (c=(parseP (condT [32] c)).1)
def runT (sp:List Int):List (Rl×Bool)→List Int
  | []=>[]
  | [(x,_)]=>relT sp x
  | (x,o) :: r=>relT sp x ++ (sp ++ ((if o then wordOr else wordAnd) ++ (sp ++ runT sp r)))
end Go.Proofs.YtgfajgkjbckkgaaGreatDoor.PZ
end
section
noncomputable section
namespace Go.Proofs.YtgfajgkjbckkgaaGreatDoor.PZ
open Go.RowKit Go.Proofs.YtgfajgkjbckkgaaGreatDoorW.PrintWords Go.Proofs.YtgfajgkjbckkgaaGreatDoorW.PrintLast Go.Proofs.YtgfajgkjbckkgaaGreatDoorW.PrintMore
attribute [local go_sem] max2_int min2_int max_two min_two max_three min_three max_four min_four   -- for this text's walks alone
def exergueref07_Mod.l0:Nat→List Int→Int→Int→Int→Int→Option (Int)
 | 0,_,_,_,_,_=>none
 | k+1,x0,x1,x5,x6,x7=>if x7≥0 then (if 0≤x7 then (if x7<(x0.length:Int) then (if x1=0 then (none) else (exergueref07_Mod.l0 k x0 x1 (Int.tmod (wrap64 (x5+(wrap64 ((wrap64 (rd x0 x7)) * x6)))) x1) (Int.tmod (wrap64 (x6 * 10)) x1) (wrap64 (x7 - 1)))) else (none)) else (none)) else (some x5)
def exergueref07_Mod.f (k:Nat)(l0:List Int)(a1:Int):Option (Int):=if a1=0 then (none) else (exergueref07_Mod.l0 k l0 a1 0 ((1:Int) % a1) (wrap64 ((l0.length:Int) - 1)))
theorem exergueref07_Mod.mono_l:∀ k,(∀ y0 y1 y2 y3 y4,LeO (exergueref07_Mod.l0 k y0 y1 y2 y3 y4) (exergueref07_Mod.l0 (k+1) y0 y1 y2 y3 y4))
 | 0=>fun _ _ _ _ _ r h=>by simp [exergueref07_Mod.l0] at h
 | k+1=>by
  have ih0:=exergueref07_Mod.mono_l k
  ·intro y0 y1 y2 y3 y4
   unfold exergueref07_Mod.l0
   repeat' first|(with_reducible first|apply ih0|apply LeO.refl|apply LeO.none|refine LeO.ite ?_ ?_|refine LeO.bind ?_ (fun _=>?_))|apply ih0|apply LeO.none
theorem exergueref07_Mod.mono:∀ a0 a1 k,LeO (exergueref07_Mod.f k a0 a1) (exergueref07_Mod.f (k+1) a0 a1):=by
 intro a0 a1 k
 have ih0:=exergueref07_Mod.mono_l k
 unfold exergueref07_Mod.f
 repeat' first|(with_reducible first|apply ih0|apply LeO.refl|apply LeO.none|refine LeO.ite ?_ ?_|refine LeO.bind ?_ (fun _=>?_))|apply ih0|apply LeO.none
set_option maxHeartbeats 8000000 in
set_option maxRecDepth 100000 in
theorem exergueref07_Mod.calls (k:Nat)(A0:Option Addr)(c0:Nat)(l0:List Int)(a1:Int)(r:Int)(w:World)(hr0:Kd.C (Kd.int .u8) w A0 l0.length l0)(hc0:l0.length≤c0)(h:exergueref07_Mod.f k l0 a1=some r) :
  Calls Tryz.prog 41 #[.slice A0 l0.length c0,.int .i64 a1] w fun e w'=>e = .returned (.int .i64 r)∧Drawn0 w w':=by
 have HR0:=zS hr0
 have HC0:=zS hc0
 clear hr0 hc0
 have H:(if a1=0 then (none) else (exergueref07_Mod.l0 k l0 a1 0 ((1:Int) % a1) (wrap64 ((l0.length:Int) - 1))))=some r:=h
 clear h
 by_cases c3:a1=0
 ·rw [if_pos c3] at H
  exact absurd H (by simp)
 rw [if_neg c3] at H
 have ag:(a1 == 0)=false:=zF c3
 have ah:(a1 != 0)=true:=zI c3
 have H':=zS H
 clear H
 go_enter Tryz.func41,Tryz.ntmps41
 go_wp2
 go_loopg [5,6,7] k (fun kq v5 v6 v7 w'=>∃ (ac:Int) (ab:Int) (aa:Int),v5 = .int .i64 ac∧v6 = .int .i64 ab∧v7 = .int .i64 aa∧Sd (exergueref07_Mod.l0 kq l0 a1 ac ab aa=some r)∧Sd (kq≤k)∧Drawn0 w w')
 case atStart=>exact ⟨(0),((1:Int) % a1),(wrap64 ((l0.length:Int) - 1)),(by first|rfl|(simp;done)|(simp [*];done)),(by first|rfl|(simp;done)|(simp [*];done)),(by first|rfl|(simp;done)|(simp [*];done)),H',⟨Nat.le_refl _⟩,by repeat (first|exact Drawn0.refl _|apply Drawn0.step)⟩
 case round=>
  clear H'
  try clear p2
  try clear c3
  try clear ag
  try clear ah
  obtain ⟨ac,ab,aa,rfl,rfl,rfl,HA,HK1,⟨m1,rfl⟩⟩:=hrel
  cases gk with
  | zero=>exact absurd HA.out (by simp [exergueref07_Mod.l0])
  | succ k1=>
   have H:=HA.out
   clear HA
   simp only [exergueref07_Mod.l0] at H
   by_cases c4:aa≥0
   rotate_left
   ·rw [if_neg c4] at H
    have ai:decide (0≤aa)=false:=zD c4
    clear c4
    obtain rfl:=zE H
    go_wp2
    go_ret
    exact ⟨by first|rfl|(simp;done)|(simp [*];done),by repeat (first|exact Drawn0.refl _|apply Drawn0.step)⟩
   rw [if_pos c4] at H
   have ai:decide (0≤aa)=true:=zC c4
   clear c4
   by_cases c5:0≤aa
   rotate_left
   ·rw [if_neg c5] at H
    exact absurd H (by simp)
   rw [if_pos c5] at H
   have al:=zC c5
   clear c5
   by_cases c6:aa<(l0.length:Int)
   rotate_left
   ·rw [if_neg c6] at H
    exact absurd H (by simp)
   rw [if_pos c6] at H
   have am:=zC c6
   clear c6
   by_cases c7:a1=0
   ·rw [if_pos c7] at H
    exact absurd H (by simp)
   rw [if_neg c7] at H
   have an:(a1 == 0)=false:=zF c7
   have ao:(a1 != 0)=true:=zI c7
   have H':=zS H
   clear H
   have ad:0≤(aa:Int):=zB (by first|(with_reducible assumption)|assumption)
   have ae:aa<(l0.length:Int):=zB (by first|(with_reducible assumption)|assumption)
   obtain ⟨ak,aj,af⟩:=Kd.at_int HR0.out aa ad ae
   cases aj
   replace ad:=eq_true ad
   replace ae:=eq_true ae
   go_wp2
   go_roundg k1
   case measure=>have:=HK1.out;omega
   case rel=>exact ⟨(Int.tmod (wrap64 (ac+(wrap64 ((wrap64 (rd l0 aa)) * ab)))) a1),(Int.tmod (wrap64 (ab * 10)) a1),(wrap64 (aa - 1)),(by first|rfl|(simp;done)|(simp [*];done)),(by first|rfl|(simp;done)|(simp [*];done)),(by first|rfl|(simp;done)|(simp [*];done)),H',⟨by have:=HK1.out;omega⟩,by repeat (first|exact Drawn0.refl _|apply Drawn0.step)⟩
end Go.Proofs.YtgfajgkjbckkgaaGreatDoor.PZ
end
end
section
noncomputable section
namespace Go.Proofs.YtgfajgkjbckkgaaGreatDoor.PZ
open Go.RowKit Go.Proofs.YtgfajgkjbckkgaaGreatDoorW.PrintWords Go.Proofs.YtgfajgkjbckkgaaGreatDoorW.PrintLast Go.Proofs.YtgfajgkjbckkgaaGreatDoorW.PrintMore
attribute [local go_sem] max2_int min2_int max_two min_two max_three min_three max_four min_four   -- for this text's walks alone
def exergueref07_Full.l0:Nat→List Int→Int→Int→Option (Int)
 | 0,_,_,_=>none
 | k+1,x0,x3,x4=>if x4<(x0.length:Int) then (if 0≤x4 then (if (rd x0 x4)=0 then (exergueref07_Full.l0 k x0 x3 (wrap64 (x4+1))) else (exergueref07_Full.l0 k x0 (wrap64 (x4+1)) (wrap64 (x4+1)))) else (none)) else (some x3)
def exergueref07_Full.f (k:Nat)(l0:List Int):Option (Int):=exergueref07_Full.l0 k l0 0 0
theorem exergueref07_Full.mono_l:∀ k,(∀ y0 y1 y2,LeO (exergueref07_Full.l0 k y0 y1 y2) (exergueref07_Full.l0 (k+1) y0 y1 y2))
 | 0=>fun _ _ _ r h=>by simp [exergueref07_Full.l0] at h
 | k+1=>by
  have ih0:=exergueref07_Full.mono_l k
  ·intro y0 y1 y2
   unfold exergueref07_Full.l0
   repeat' first|(with_reducible first|apply ih0|apply LeO.refl|apply LeO.none|refine LeO.ite ?_ ?_|refine LeO.bind ?_ (fun _=>?_))|apply ih0|apply LeO.none
theorem exergueref07_Full.mono:∀ a0 k,LeO (exergueref07_Full.f k a0) (exergueref07_Full.f (k+1) a0):=by
 intro a0 k
 have ih0:=exergueref07_Full.mono_l k
 unfold exergueref07_Full.f
 repeat' first|(with_reducible first|apply ih0|apply LeO.refl|apply LeO.none|refine LeO.ite ?_ ?_|refine LeO.bind ?_ (fun _=>?_))|apply ih0|apply LeO.none
set_option maxHeartbeats 8000000 in
set_option maxRecDepth 100000 in
theorem exergueref07_Full.calls (k:Nat)(A0:Option Addr)(c0:Nat)(l0:List Int)(r:Int)(w:World)(hr0:Kd.C (Kd.int .u8) w A0 l0.length l0)(hc0:l0.length≤c0)(h:exergueref07_Full.f k l0=some r) :
  Calls Tryz.prog 49 #[.slice A0 l0.length c0] w fun e w'=>e = .returned (.int .i64 r)∧Drawn0 w w':=by
 have HR0:=zS hr0
 have HC0:=zS hc0
 clear hr0 hc0
 have H:(exergueref07_Full.l0 k l0 0 0)=some r:=h
 clear h
 have H':=zS H
 clear H
 go_enter Tryz.func49,Tryz.ntmps49
 go_wp2
 go_loopg [3,4] k (fun kq v3 v4 w'=>∃ (ad:Int) (aa:Int),v3 = .int .i64 ad∧v4 = .int .i64 aa∧Sd (exergueref07_Full.l0 kq l0 ad aa=some r)∧Sd (kq≤k)∧Drawn0 w w')
 case atStart=>exact ⟨(0),(0),(by first|rfl|(simp;done)|(simp [*];done)),(by first|rfl|(simp;done)|(simp [*];done)),H',⟨Nat.le_refl _⟩,by repeat (first|exact Drawn0.refl _|apply Drawn0.step)⟩
 case round=>
  clear H'
  obtain ⟨ad,aa,rfl,rfl,HA,HK1,⟨m1,rfl⟩⟩:=hrel
  cases gk with
  | zero=>exact absurd HA.out (by simp [exergueref07_Full.l0])
  | succ k1=>
   have H:=HA.out
   clear HA
   simp only [exergueref07_Full.l0] at H
   by_cases c2:aa<(l0.length:Int)
   rotate_left
   ·rw [if_neg c2] at H
    have ah:=zD c2
    clear c2
    obtain rfl:=zE H
    go_wp2
    go_ret
    exact ⟨by first|rfl|(simp;done)|(simp [*];done),by repeat (first|exact Drawn0.refl _|apply Drawn0.step)⟩
   rw [if_pos c2] at H
   have ah:=zC c2
   clear c2
   by_cases c3:0≤aa
   rotate_left
   ·rw [if_neg c3] at H
    exact absurd H (by simp)
   rw [if_pos c3] at H
   have ak:=zC c3
   clear c3
   by_cases c4:(rd l0 aa)=0
   ·rw [if_pos c4] at H
    have ai:((rd l0 aa) == 0)=true:=zH c4
    have aj:((rd l0 aa) != 0)=false:=zG c4
    clear c4
    have H':=zS H
    clear H
    have ab:0≤(aa:Int):=zB (by first|(with_reducible assumption)|assumption)
    have ac:aa<(l0.length:Int):=zB (by first|(with_reducible assumption)|assumption)
    obtain ⟨ag,af,ae⟩:=Kd.at_int HR0.out aa ab ac
    cases af
    replace ab:=eq_true ab
    replace ac:=eq_true ac
    go_wp2
    go_roundg k1
    case measure=>have:=HK1.out;omega
    case rel=>exact ⟨(ad),(wrap64 (aa+1)),(by first|rfl|(simp;done)|(simp [*];done)),(by first|rfl|(simp;done)|(simp [*];done)),H',⟨by have:=HK1.out;omega⟩,by repeat (first|exact Drawn0.refl _|apply Drawn0.step)⟩
   rw [if_neg c4] at H
   have ai:((rd l0 aa) == 0)=false:=zF c4
   have aj:((rd l0 aa) != 0)=true:=zI c4
   have H':=zS H
   clear H
   have ab:0≤(aa:Int):=zB (by first|(with_reducible assumption)|assumption)
   have ac:aa<(l0.length:Int):=zB (by first|(with_reducible assumption)|assumption)
   obtain ⟨ag,af,ae⟩:=Kd.at_int HR0.out aa ab ac
   cases af
   replace ab:=eq_true ab
   replace ac:=eq_true ac
   go_wp2
   go_roundg k1
   case measure=>have:=HK1.out;omega
   case rel=>exact ⟨(wrap64 (aa+1)),(wrap64 (aa+1)),(by first|rfl|(simp;done)|(simp [*];done)),(by first|rfl|(simp;done)|(simp [*];done)),H',⟨by have:=HK1.out;omega⟩,by repeat (first|exact Drawn0.refl _|apply Drawn0.step)⟩
end Go.Proofs.YtgfajgkjbckkgaaGreatDoor.PZ
end
end
section
noncomputable section
namespace Go.Proofs.YtgfajgkjbckkgaaGreatDoor.PZ
open Go.RowKit Go.Proofs.YtgfajgkjbckkgaaGreatDoorW.PrintWords Go.Proofs.YtgfajgkjbckkgaaGreatDoorW.PrintLast Go.Proofs.YtgfajgkjbckkgaaGreatDoorW.PrintMore
attribute [local go_sem] max2_int min2_int max_two min_two max_three min_three max_four min_four   -- for this text's walks alone
def exergueref07_Figures.l0:Nat→List Int→Int→Option (Bool)
 | 0,_,_=>none
 | k+1,x0,x3=>if x3<(x0.length:Int) then (if 0≤x3 then (if (rd x0 x3)>9 then (some false) else (exergueref07_Figures.l0 k x0 (wrap64 (x3+1)))) else (none)) else (some true)
def exergueref07_Figures.f (k:Nat)(l0:List Int):Option (Bool):=exergueref07_Figures.l0 k l0 0
theorem exergueref07_Figures.mono_l:∀ k,(∀ y0 y1,LeO (exergueref07_Figures.l0 k y0 y1) (exergueref07_Figures.l0 (k+1) y0 y1))
 | 0=>fun _ _ r h=>by simp [exergueref07_Figures.l0] at h
 | k+1=>by
  have ih0:=exergueref07_Figures.mono_l k
  ·intro y0 y1
   unfold exergueref07_Figures.l0
   repeat' first|(with_reducible first|apply ih0|apply LeO.refl|apply LeO.none|refine LeO.ite ?_ ?_|refine LeO.bind ?_ (fun _=>?_))|apply ih0|apply LeO.none
theorem exergueref07_Figures.mono:∀ a0 k,LeO (exergueref07_Figures.f k a0) (exergueref07_Figures.f (k+1) a0):=by
 intro a0 k
 have ih0:=exergueref07_Figures.mono_l k
 unfold exergueref07_Figures.f
 repeat' first|(with_reducible first|apply ih0|apply LeO.refl|apply LeO.none|refine LeO.ite ?_ ?_|refine LeO.bind ?_ (fun _=>?_))|apply ih0|apply LeO.none
set_option maxHeartbeats 8000000 in
set_option maxRecDepth 100000 in
theorem exergueref07_Figures.calls (k:Nat)(A0:Option Addr)(c0:Nat)(l0:List Int)(r:Bool)(w:World)(hr0:Kd.C (Kd.int .u8) w A0 l0.length l0)(hc0:l0.length≤c0)(h:exergueref07_Figures.f k l0=some r) :
  Calls Tryz.prog 48 #[.slice A0 l0.length c0] w fun e w'=>e = .returned (.bool r)∧Drawn0 w w':=by
 have HR0:=zS hr0
 have HC0:=zS hc0
 clear hr0 hc0
 have H:(exergueref07_Figures.l0 k l0 0)=some r:=h
 clear h
 have H':=zS H
 clear H
 go_enter Tryz.func48,Tryz.ntmps48
 go_wp2
 go_loopg [3] k (fun kq v3 w'=>∃ (aa:Int),v3 = .int .i64 aa∧Sd (exergueref07_Figures.l0 kq l0 aa=some r)∧Sd (kq≤k)∧Drawn0 w w')
 case atStart=>exact ⟨(0),(by first|rfl|(simp;done)|(simp [*];done)),H',⟨Nat.le_refl _⟩,by repeat (first|exact Drawn0.refl _|apply Drawn0.step)⟩
 case round=>
  clear H'
  obtain ⟨aa,rfl,HA,HK1,⟨m1,rfl⟩⟩:=hrel
  cases gk with
  | zero=>exact absurd HA.out (by simp [exergueref07_Figures.l0])
  | succ k1=>
   have H:=HA.out
   clear HA
   simp only [exergueref07_Figures.l0] at H
   by_cases c2:aa<(l0.length:Int)
   rotate_left
   ·rw [if_neg c2] at H
    have ag:=zD c2
    clear c2
    obtain rfl:=zE H
    go_wp2
    go_ret
    exact ⟨by first|rfl|(simp;done)|(simp [*];done),by repeat (first|exact Drawn0.refl _|apply Drawn0.step)⟩
   rw [if_pos c2] at H
   have ag:=zC c2
   clear c2
   by_cases c3:0≤aa
   rotate_left
   ·rw [if_neg c3] at H
    exact absurd H (by simp)
   rw [if_pos c3] at H
   have ai:=zC c3
   clear c3
   by_cases c4:(rd l0 aa)>9
   ·rw [if_pos c4] at H
    have ah:decide (9<(rd l0 aa))=true:=zC c4
    clear c4
    obtain rfl:=zE H
    have ab:0≤(aa:Int):=zB (by first|(with_reducible assumption)|assumption)
    have ac:aa<(l0.length:Int):=zB (by first|(with_reducible assumption)|assumption)
    obtain ⟨af,ae,ad⟩:=Kd.at_int HR0.out aa ab ac
    cases ae
    replace ab:=eq_true ab
    replace ac:=eq_true ac
    go_wp2
    go_ret
    exact ⟨by first|rfl|(simp;done)|(simp [*];done),by repeat (first|exact Drawn0.refl _|apply Drawn0.step)⟩
   rw [if_neg c4] at H
   have ah:decide (9<(rd l0 aa))=false:=zD c4
   clear c4
   have H':=zS H
   clear H
   have ab:0≤(aa:Int):=zB (by first|(with_reducible assumption)|assumption)
   have ac:aa<(l0.length:Int):=zB (by first|(with_reducible assumption)|assumption)
   obtain ⟨af,ae,ad⟩:=Kd.at_int HR0.out aa ab ac
   cases ae
   replace ab:=eq_true ab
   replace ac:=eq_true ac
   go_wp2
   go_roundg k1
   case measure=>have:=HK1.out;omega
   case rel=>exact ⟨(wrap64 (aa+1)),(by first|rfl|(simp;done)|(simp [*];done)),H',⟨by have:=HK1.out;omega⟩,by repeat (first|exact Drawn0.refl _|apply Drawn0.step)⟩
end Go.Proofs.YtgfajgkjbckkgaaGreatDoor.PZ
end
end
section
noncomputable section
namespace Go.Proofs.YtgfajgkjbckkgaaGreatDoor.PZ
open Go.RowKit Go.Proofs.YtgfajgkjbckkgaaGreatDoorW.PrintWords Go.Proofs.YtgfajgkjbckkgaaGreatDoorW.PrintLast Go.Proofs.YtgfajgkjbckkgaaGreatDoorW.PrintMore
attribute [local go_sem] max2_int min2_int max_two min_two max_three min_three max_four min_four   -- for this text's walks alone
def oper_Mod.l0:Nat→Int→Int→List Int→Int→Int→Option (Int)
 | 0,_,_,_,_,_=>none
 | k+1,x1,x5,x8,x9,x10=>if x10<x9 then (if 0≤x10 then (if x10<(x8.length:Int) then (if x1=0 then (none) else (oper_Mod.l0 k x1 (Int.tmod (wrap64 ((wrap64 (x5 * 10))+(wrap64 (rd x8 x10)))) x1) x8 x9 (wrap64 (x10+1)))) else (none)) else (none)) else (some x5)
def oper_Mod.f (k:Nat)(l0:List Int)(a1:Int):Option (Int):=oper_Mod.l0 k a1 0 l0 (l0.length:Int) 0
theorem oper_Mod.mono_l:∀ k,(∀ y0 y1 y2 y3 y4,LeO (oper_Mod.l0 k y0 y1 y2 y3 y4) (oper_Mod.l0 (k+1) y0 y1 y2 y3 y4))
 | 0=>fun _ _ _ _ _ r h=>by simp [oper_Mod.l0] at h
 | k+1=>by
  have ih0:=oper_Mod.mono_l k
  ·intro y0 y1 y2 y3 y4
   unfold oper_Mod.l0
   repeat' first|(with_reducible first|apply ih0|apply LeO.refl|apply LeO.none|refine LeO.ite ?_ ?_|refine LeO.bind ?_ (fun _=>?_))|apply ih0|apply LeO.none
theorem oper_Mod.mono:∀ a0 a1 k,LeO (oper_Mod.f k a0 a1) (oper_Mod.f (k+1) a0 a1):=by
 intro a0 a1 k
 have ih0:=oper_Mod.mono_l k
 unfold oper_Mod.f
 repeat' first|(with_reducible first|apply ih0|apply LeO.refl|apply LeO.none|refine LeO.ite ?_ ?_|refine LeO.bind ?_ (fun _=>?_))|apply ih0|apply LeO.none
set_option maxHeartbeats 8000000 in
set_option maxRecDepth 100000 in
theorem oper_Mod.calls (k:Nat)(A0:Option Addr)(c0:Nat)(l0:List Int)(a1:Int)(r:Int)(w:World)(hr0:Kd.C (Kd.int .u8) w A0 l0.length l0)(hc0:l0.length≤c0)(h:oper_Mod.f k l0 a1=some r) :
  Calls Tryz.prog 81 #[.slice A0 l0.length c0,.int .i64 a1] w fun e w'=>e = .returned (.int .i64 r)∧Drawn0 w w':=by
 have HR0:=zS hr0
 have HC0:=zS hc0
 clear hr0 hc0
 have H:(oper_Mod.l0 k a1 0 l0 (l0.length:Int) 0)=some r:=h
 clear h
 have H':=zS H
 clear H
 go_enter Tryz.func81,Tryz.ntmps81
 go_wp2
 go_loopg [5,10] k (fun kq v5 v10 w'=>∃ (ab:Int) (aa:Int),v5 = .int .i64 ab∧v10 = .int .i64 aa∧Sd (oper_Mod.l0 kq a1 ab l0 (l0.length:Int) aa=some r)∧Sd (kq≤k)∧Drawn0 w w')
 case atStart=>exact ⟨(0),(0),(by first|rfl|(simp;done)|(simp [*];done)),(by first|rfl|(simp;done)|(simp [*];done)),H',⟨Nat.le_refl _⟩,by repeat (first|exact Drawn0.refl _|apply Drawn0.step)⟩
 case round=>
  clear H'
  try clear p2
  obtain ⟨ab,aa,rfl,rfl,HA,HK1,⟨m1,rfl⟩⟩:=hrel
  cases gk with
  | zero=>exact absurd HA.out (by simp [oper_Mod.l0])
  | succ k1=>
   have H:=HA.out
   clear HA
   simp only [oper_Mod.l0] at H
   by_cases c3:aa<(l0.length:Int)
   rotate_left
   ·rw [if_neg c3] at H
    have af:=zD c3
    clear c3
    obtain rfl:=zE H
    go_wp2
    go_ret
    exact ⟨by first|rfl|(simp;done)|(simp [*];done),by repeat (first|exact Drawn0.refl _|apply Drawn0.step)⟩
   rw [if_pos c3] at H
   have af:=zC c3
   clear c3
   by_cases c4:0≤aa
   rotate_left
   ·rw [if_neg c4] at H
    exact absurd H (by simp)
   rw [if_pos c4] at H
   have ai:=zC c4
   clear c4
   by_cases c5:aa<(l0.length:Int)
   rotate_left
   ·rw [if_neg c5] at H
    exact absurd H (by simp)
   rw [if_pos c5] at H
   have aj:=zC c5
   clear c5
   by_cases c6:a1=0
   ·rw [if_pos c6] at H
    exact absurd H (by simp)
   rw [if_neg c6] at H
   have ak:(a1 == 0)=false:=zF c6
   have al:(a1 != 0)=true:=zI c6
   have H':=zS H
   clear H
   have ac:0≤(aa:Int):=zB (by first|(with_reducible assumption)|assumption)
   have ad:aa<(l0.length:Int):=zB (by first|(with_reducible assumption)|assumption)
   obtain ⟨ah,ag,ae⟩:=Kd.at_int HR0.out aa ac ad
   cases ag
   replace ac:=eq_true ac
   replace ad:=eq_true ad
   go_wp2
   go_roundg k1
   case measure=>have:=HK1.out;omega
   case rel=>exact ⟨(Int.tmod (wrap64 ((wrap64 (ab * 10))+(wrap64 (rd l0 aa)))) a1),(wrap64 (aa+1)),(by first|rfl|(simp;done)|(simp [*];done)),(by first|rfl|(simp;done)|(simp [*];done)),H',⟨by have:=HK1.out;omega⟩,by repeat (first|exact Drawn0.refl _|apply Drawn0.step)⟩
end Go.Proofs.YtgfajgkjbckkgaaGreatDoor.PZ
end
end
section
noncomputable section
namespace Go.Proofs.YtgfajgkjbckkgaaGreatDoor.PZ
open Go.RowKit Go.Proofs.YtgfajgkjbckkgaaGreatDoorW.PrintWords Go.Proofs.YtgfajgkjbckkgaaGreatDoorW.PrintLast Go.Proofs.YtgfajgkjbckkgaaGreatDoorW.PrintMore
attribute [local go_sem] max2_int min2_int max_two min_two max_three min_three max_four min_four   -- for this text's walks alone
def exergueref11_over.l0:Nat→ByteArray→Int→Option (Int)
 | 0,_,_=>none
 | k+1,x0,x1=>if x1<(x0.size:Int) then (if 0≤x1 then (if (bt x0 x1)=32 then (exergueref11_over.l0 k x0 (wrap64 (x1+1))) else (some x1)) else (none)) else (some x1)
def exergueref11_over.f (k:Nat)(a0:ByteArray)(a1:Int):Option (Int):=exergueref11_over.l0 k a0 a1
theorem exergueref11_over.mono_l:∀ k,(∀ y0 y1,LeO (exergueref11_over.l0 k y0 y1) (exergueref11_over.l0 (k+1) y0 y1))
 | 0=>fun _ _ r h=>by simp [exergueref11_over.l0] at h
 | k+1=>by
  have ih0:=exergueref11_over.mono_l k
  ·intro y0 y1
   unfold exergueref11_over.l0
   repeat' first|(with_reducible first|apply ih0|apply LeO.refl|apply LeO.none|refine LeO.ite ?_ ?_|refine LeO.bind ?_ (fun _=>?_))|apply ih0|apply LeO.none
theorem exergueref11_over.mono:∀ a0 a1 k,LeO (exergueref11_over.f k a0 a1) (exergueref11_over.f (k+1) a0 a1):=by
 intro a0 a1 k
 have ih0:=exergueref11_over.mono_l k
 unfold exergueref11_over.f
 repeat' first|(with_reducible first|apply ih0|apply LeO.refl|apply LeO.none|refine LeO.ite ?_ ?_|refine LeO.bind ?_ (fun _=>?_))|apply ih0|apply LeO.none
set_option maxHeartbeats 8000000 in
set_option maxRecDepth 100000 in
theorem exergueref11_over.calls (k:Nat)(a0:ByteArray)(a1:Int)(r:Int)(w:World)(h:exergueref11_over.f k a0 a1=some r) :
  Calls Tryz.prog 72 #[.string a0,.int .i64 a1] w fun e w'=>e = .returned (.int .i64 r)∧Drawn0 w w':=by
 have H:(exergueref11_over.l0 k a0 a1)=some r:=h
 clear h
 have H':=zS H
 clear H
 go_enter Tryz.func72,Tryz.ntmps72
 go_wp2
 go_loopg [1] k (fun kq v1 w'=>∃ (aa:Int),v1 = .int .i64 aa∧Sd (exergueref11_over.l0 kq a0 aa=some r)∧Sd (kq≤k)∧Drawn0 w w')
 case atStart=>exact ⟨(a1),(by first|rfl|(simp;done)|(simp [*];done)),H',⟨Nat.le_refl _⟩,by repeat (first|exact Drawn0.refl _|apply Drawn0.step)⟩
 case round=>
  clear H'
  try clear p2
  obtain ⟨aa,rfl,HA,HK1,⟨m1,rfl⟩⟩:=hrel
  cases gk with
  | zero=>exact absurd HA.out (by simp [exergueref11_over.l0])
  | succ k1=>
   have H:=HA.out
   clear HA
   simp only [exergueref11_over.l0] at H
   by_cases c3:aa<(a0.size:Int)
   rotate_left
   ·rw [if_neg c3] at H
    have ab:=zD c3
    clear c3
    obtain rfl:=zE H
    go_wp2
    go_ret
    exact ⟨by first|rfl|(simp;done)|(simp [*];done),by repeat (first|exact Drawn0.refl _|apply Drawn0.step)⟩
   rw [if_pos c3] at H
   have ab:=zC c3
   clear c3
   by_cases c4:0≤aa
   rotate_left
   ·rw [if_neg c4] at H
    exact absurd H (by simp)
   rw [if_pos c4] at H
   have ae:=zC c4
   clear c4
   by_cases c6:(bt a0 aa)=32
   ·rw [if_pos c6] at H
    have ac:((bt a0 aa) == 32)=true:=zH c6
    have ad:((bt a0 aa) != 32)=false:=zG c6
    clear c6
    have H':=zS H
    clear H
    have p5:0≤(aa:Int):=zB (by first|(with_reducible assumption)|assumption)
    have q5:aa<(a0.size:Int):=zB (by first|(with_reducible assumption)|assumption)
    have hx5:=bt_at a0 aa
    replace p5:=eq_true p5
    replace q5:=eq_true q5
    go_wp2
    go_roundg k1
    case measure=>have:=HK1.out;omega
    case rel=>exact ⟨(wrap64 (aa+1)),(by first|rfl|(simp;done)|(simp [*];done)),H',⟨by have:=HK1.out;omega⟩,by repeat (first|exact Drawn0.refl _|apply Drawn0.step)⟩
   rw [if_neg c6] at H
   have ac:((bt a0 aa) == 32)=false:=zF c6
   have ad:((bt a0 aa) != 32)=true:=zI c6
   obtain rfl:=zE H
   have p5:0≤(aa:Int):=zB (by first|(with_reducible assumption)|assumption)
   have q5:aa<(a0.size:Int):=zB (by first|(with_reducible assumption)|assumption)
   have hx5:=bt_at a0 aa
   replace p5:=eq_true p5
   replace q5:=eq_true q5
   go_wp2
   go_ret
   exact ⟨by first|rfl|(simp;done)|(simp [*];done),by repeat (first|exact Drawn0.refl _|apply Drawn0.step)⟩
end Go.Proofs.YtgfajgkjbckkgaaGreatDoor.PZ
end
end
section
set_option maxRecDepth 100000
set_option linter.unusedVariables false
namespace Go.Proofs.YtgfajgkjbckkgaaGreatDoor.PZ
open Go.RowKit Go.Proofs.YtgfajgkjbckkgaaGreatDoorW.PrintWords Go.Proofs.YtgfajgkjbckkgaaGreatDoorW.PrintLast Go.Proofs.YtgfajgkjbckkgaaGreatDoorW.PrintMore
section
def bZ (n m:Nat):Array Bool:=((List.range n).map m.testBit).toArray
section
variable {P:Program}{ops:Array Oper}{Q:Exit→Act→World→Prop}{md:Region.Mode}{S:World→Prop}{ds:List Nat}{T:Bool×List (List Nat×List Nat)}{B:List Nat}{oi:Oper}{fuel n0 m0:Nat}{a:Act}{w:World}
theorem p1 (i n m:Nat)(hT:Aside0 (rtab md ops=T)){v:Value}(hy:∀ w,(execOp a.eval oi).run P w = .ok (.value v) w){a':Act}(ha:a.put (some n) v=a')(h:wpAnyLast P md ops Q S ds fuel (bZ n0 m) a' w)
    (hi:ops[i]?=some oi:=by rfl) (hN:oi.dst=some n:=by rfl) (hk:anyT T (bZ n0 m0).toList (bZ n0 m).toList i=true:=by kernel_rfl) (hQ:∀ c a w,Q (.panic c) (a.put oi.dst v) w→Q (.panic c) a w:=by exact fun _ _ _ h=>h) (hw:Region.wanted oi (yielded ops a.tmps)=true:=by rfl) :
    wpAnyLast P md ops Q S ds (fuel+1) (bZ n0 m0) a w:=pu i n (bZ n0 m) hi hN hT hk hQ hw hy ha h
theorem p2 (i n m:Nat)(hT:Aside0 (rtab md ops=T))(hB:Aside0 (waitsOk T.2 B=true)){v:Value}(hy:∀ w,S w→(execOp a.eval oi).run P w = .ok (.value v) w)(hS:S w){a':Act}(ha:a.put (some n) v=a')(h:wpAnyLast P md ops Q S ds fuel (bZ n0 m) a' w)
    (hi:ops[i]?=some oi:=by rfl) (hN:oi.dst=some n:=by rfl) (hk:takeW T B ds (bZ n0 m0).toList (bZ n0 m).toList i=true:=by kernel_rfl) (hQ:∀ c a w,Q (.panic c) (a.put oi.dst v) w→Q (.panic c) a w:=by exact fun _ _ _ h=>h) (hw:Region.wanted oi (yielded ops a.tmps)=true:=by rfl) :
    wpAnyLast P md ops Q S ds (fuel+1) (bZ n0 m0) a w:=ta i n (bZ n0 m) hi hN hT hB hk hQ hw hy hS ha h
theorem q1 (i n m:Nat)(hT:Aside0 (rtab md ops=T)){v:Value}{a':Act}(h:wpAnyLast P md ops Q S ds fuel (bZ n0 m) a' w)
    (hi:ops[i]?=some oi:=by rfl) (hN:oi.dst=some n:=by rfl) (hy:∀ w,(execOp a.eval oi).run P w = .ok (.value v) w:=by intro w';go_simp;with_reducible rfl) (ha:a.put (some n) v=a':=by simp only [Act.put,sA,sB,sC,i64_w,i32_w];rfl)
    (hk:anyT T (bZ n0 m0).toList (bZ n0 m).toList i=true:=by kernel_rfl) (hQ:∀ c a w,Q (.panic c) (a.put oi.dst v) w→Q (.panic c) a w:=by exact fun _ _ _ h=>h) (hw:Region.wanted oi (yielded ops a.tmps)=true:=by rfl) :
    wpAnyLast P md ops Q S ds (fuel+1) (bZ n0 m0) a w:=pu i n (bZ n0 m) hi hN hT hk hQ hw hy ha h
theorem q2 (i n m:Nat)(hT:Aside0 (rtab md ops=T))(hB:Aside0 (waitsOk T.2 B=true))(hS:S w){v:Value}{a':Act}(h:wpAnyLast P md ops Q S ds fuel (bZ n0 m) a' w)
    (hi:ops[i]?=some oi:=by rfl) (hN:oi.dst=some n:=by rfl) (hy:∀ w,S w→(execOp a.eval oi).run P w = .ok (.value v) w) (ha:a.put (some n) v=a':=by simp only [Act.put,sA,sB,sC,i64_w,i32_w];rfl)
    (hk:takeW T B ds (bZ n0 m0).toList (bZ n0 m).toList i=true:=by kernel_rfl) (hQ:∀ c a w,Q (.panic c) (a.put oi.dst v) w→Q (.panic c) a w:=by exact fun _ _ _ h=>h) (hw:Region.wanted oi (yielded ops a.tmps)=true:=by rfl) :
    wpAnyLast P md ops Q S ds (fuel+1) (bZ n0 m0) a w:=ta i n (bZ n0 m) hi hN hT hB hk hQ hw hy hS ha h
theorem gL {rest:List Oper}(N:Option Tmp){f:FuncId}{fn:Func}{xs:Array Operand}{ts:Array TypeId}(hf:P.funcs[f]?=some fn)(args:Array Value)(h:Calls P f args w fun e w'=>∃ v,e = .returned v∧wpList P ops Q rest (a.put N v) w')
    (hd : oi.dst = N := by rfl) (hg : oi.guard = none := by rfl) (hname : (fn.name == "runtime.NumGoroutine") = false := by kernel_rfl) (hb : fn.body.isSome = true := by rfl) (hop : oi.op = .call { callee := .value (.func f), args := xs, argTypes := ts } := by rfl)
    (hargs:xs.map a.eval=args:=by (try simp only [mA,mB,mC]);first|done|rfl|(simp only [lD,lT];rfl)):wpList P ops Q (oi :: rest) a w:=goesL_ N hd hg hf hname hb args hop hargs h
theorem bX {α β:Type}{o:Option α}{f:α→Option β}{r:β}(h:o.bind f=some r):∃ a,Sd (o=some a)∧f a=some r:=by
 obtain ⟨a,h1,h2⟩:=Option.bind_eq_some_iff.mp h
 exact ⟨a,⟨h1⟩,h2⟩
end
end
end Go.Proofs.YtgfajgkjbckkgaaGreatDoor.PZ
end
section
noncomputable section
namespace Go.Proofs.YtgfajgkjbckkgaaGreatDoor.PZ
open Go.RowKit Go.Proofs.YtgfajgkjbckkgaaGreatDoorW.PrintWords Go.Proofs.YtgfajgkjbckkgaaGreatDoorW.PrintLast Go.Proofs.YtgfajgkjbckkgaaGreatDoorW.PrintMore
attribute [local go_sem] max2_int min2_int max_two min_two max_three min_three max_four min_four   -- for this text's walks alone
def oper_told_i.f (aa:List Int)(ab:List Int)(ae:Int)(af:Int):Option (List Int):=some aa
set_option maxHeartbeats 8000000 in
set_option maxRecDepth 100000 in
theorem oper_told_i.calls (ac:Nat→Prop)(ag:Option Addr)(ah:Nat)(aa:List Int)(al:Option Addr)(am:Nat)(ab:List Int)(ae:Int)(af:Int)(r:List Int)(w:World)(an:Kd.V (Kd.int .u8) 5 w w.heap.size (fun k_=>ac k_) (.slice ag aa.length ah) aa)(ai:Kd.C (Kd.int .u8) w al ab.length ab)(aj:ab.length≤am)(h:oper_told_i.f aa ab ae af=some r) :
  Calls Tryz.prog 101 #[.agg #[.slice ag aa.length ah,.slice al ab.length am,.int .i64 ae,.int .i64 af]] w fun e w'=>∃ v0_:Value,e = .returned (v0_)∧Kd.V (Kd.int .u8) 5 w' w.heap.size (fun k_=>(ac k_∨w.heap.size≤k_)) v0_ r∧Below w.heap.size w w':=by
 have hu136:=Tryz.underlying136
 have ad:=zS (show Kd.V (Kd.int .u8) 5 w w.heap.size (fun k_=>(ac k_∨w.heap.size≤k_)) (.slice ag aa.length ah) aa from Kd.V_mono an (fun k_ hk=>.inl hk))
 have ap:=zS ai
 have aq:=zS aj
 clear ai aj
 have HB:=zS (Below.refl w.heap.size w)
 have H:(some aa)=some r:=h
 clear h
 obtain rfl:=zE H
 go_enter Tryz.func101,Tryz.ntmps101
 go_wp2_with (first|((with_reducible refine gate_dst (N:=1) rfl ?_);refine box_event ?hg (N:=1) ?hd (cs:=#[.slice ag aa.length ah,.slice al ab.length am,.int .i64 ae,.int .i64 af]) (t:=136) ?hr ?_;(case hd=>rfl);(case hg=>rfl);(case hr=>first|(go_simp;done)|(go_simp;rfl));intro ao hg w2 hbox hb;replace ad:=zS (Kd.V_below (Kd.V_elderB (vo ad) ao (Nat.le_of_eq hg.symm)) hb);have ak:=zS (hbox);have ar:=bg HB hg;replace HB:=bs HB hb;clear hb hbox hg;have au:=blkc4 ak.out;have av:=blkf4 ak.out))
 go_ret
 exact ⟨_,by first|rfl|(simp <;> rfl)|(simp [*] <;> rfl),by (with_reducible repeat (first|apply Kd.V_alloc|apply Kd.V_drewN|apply Kd.V_drew));exact Kd.V_mono ad.out (fun _ hk=>hk.1),bQ HB⟩
end Go.Proofs.YtgfajgkjbckkgaaGreatDoor.PZ
end
end
section
set_option maxRecDepth 100000
namespace Go.Proofs.YtgfajgkjbckkgaaGreatDoor.PZ
open Go.RowKit Go.Proofs.YtgfajgkjbckkgaaGreatDoorW.PrintWords Go.Proofs.YtgfajgkjbckkgaaGreatDoorW.PrintLast
theorem u8_lt {x y:Int}(hx:0≤x∧x≤9)(hy:0≤y∧y≤9):x.toNat.toUInt8<y.toNat.toUInt8 ↔ x<y:=by
 rw [UInt8.lt_iff_toNat_lt]
 simp
 omega
theorem compare_num:∀ (a b:List Int),Figs a→Figs b→a.length=b.length→Lib.compareBytes (Lib.bytesOf a) (Lib.bytesOf b)=sg (num a - num b)
  | [],[],_,_,_=>rfl
  | [],_ :: _,_,_,h=>by simp at h
  | _ :: _,[],_,_,h=>by simp at h
  | x :: a,y :: b,ha,hb,hl=>by
    have hl':a.length=b.length:=by simpa using hl
    have ih:=compare_num a b ha.tail hb.tail hl'
    have na:=num_lt ha.tail
    have nb:=num_lt hb.tail
    rw [hl'] at na
    have l1:=u8_lt ha.head hb.head
    have l2:=u8_lt hb.head ha.head
    rw [num_cons,num_cons,hl']
    show Lib.compareBytes (x.toNat.toUInt8 :: Lib.bytesOf a) (y.toNat.toUInt8 :: Lib.bytesOf b)=_
    unfold Lib.compareBytes
    by_cases h1:x<y
    · rw [if_pos (l1.2 h1),sg_ahead na nb (by omega),sg_of_neg (by omega)]
    · rw [if_neg (fun z=>h1 (l1.1 z))]
      by_cases h2:y<x
      · rw [if_pos (l2.2 h2),sg_ahead na nb (by omega),sg_of_pos (by omega)]
      · have:x=y:=by omega
        subst this
        rw [if_neg (fun z=>h2 (l2.1 z)),ih]
        congr 1
        omega
def figsB (l:List Int):Bool:=!(l.any fun c=>decide (c>9))
theorem quiet_addO {P:Program}{f:FuncId}{args:Array Value}{w:World}{a n:Nat}{v:Value}
    (h:Calls P f args (w.drewN (a+n)) fun e w'=>e = .returned v∧∃ m,w'=(w.drewN (a+n)).drewN m) :
    Calls P f args (w.drewN (a+n)) fun e w''=>e = .returned v∧∃ m,w''=w.drewN (a+m):=
  h.mono fun _ _ ⟨he,m,hm⟩=>⟨he,n+m,by rw [hm,World.drewN_drewN,Nat.add_assoc]⟩
def RPost (w:World)(r:Bool)(e:Ending)(w':World):Prop:=e = .returned (.bool r)∧Below w.heap.size w w'
end Go.Proofs.YtgfajgkjbckkgaaGreatDoor.PZ
end
