/- Texts of this seat, joined. Conditions: none beyond each statement's own. -/
import Derived.Test.YtgfajgkjbckkgaaGreatDoorPc18
set_option linter.all false
section
set_option maxRecDepth 100000
namespace Go.Proofs.YtgfajgkjbckkgaaGreatDoor.PZ
open Go.RowKit Go.Proofs.YtgfajgkjbckkgaaGreatDoorW.PrintWords Go.Proofs.YtgfajgkjbckkgaaGreatDoorW.PrintLast
section
theorem ev_const {α:Type}{a:Option α}{r:α}(h:Ev (fun _=>a) r):a=some r:=by
 obtain ⟨K,hk⟩:=h
 exact hk K (Nat.le_refl _)
theorem any_congr' {α:Type}{l:List α}{p q:α→Bool}(h:∀ x ∈ l,p x=q x):l.any p=l.any q:=by
 induction l with
 | nil=>rfl
 | cons a l ih=>rw [List.any_cons,List.any_cons,h a (by simp),ih (fun x hx=>h x (by simp [hx]))]
theorem not_any' {α:Type}{l:List α}{p q:α→Bool}(h:∀ x ∈ l,p x = !q x):(!l.any p)=l.all q:=by
 induction l with
 | nil=>rfl
 | cons a l ih=>rw [List.any_cons,List.all_cons,Bool.not_or,h a (by simp),ih (fun x hx=>h x (by simp [hx])),Bool.not_not]
def inV (v a b:Int):Bool:=decide (0≤b∧(0≤a→a≤v)∧v≤b)
def relV (i f:List Int)(w c:Int)(x:Rl):Int:=if x.f1>0 then num (operandR i f w c x.f0).1 % x.f1 else num (operandR i f w c x.f0).1
def relX (i f:List Int)(w c:Int)(x:Rl):Bool:=((operandR i f w c x.f0).2 && x.f3.any fun r=>inV (relV i f w c x) r.f0 r.f1) != x.f2
def condX (i f:List Int)(w c:Int)(l:List (List Rl)):Bool:=l.any fun row=>row.all fun x=>relX i f w c x
structure NumX (x:Rl):Prop where
  m0:0≤x.f1
  m1:x.f1≤1000000000
  rg:∀ r ∈ x.f3,(-9223372036854775808≤r.f0∧r.f0≤9223372036854775807)∧(-9223372036854775808≤r.f1∧r.f1≤9223372036854775807)∧(x.f1>0→0≤r.f0)
theorem GoodX.numX {x:Rl}(h:GoodX x):NumX x:=by
 obtain ⟨_,h1,h2,_,h3⟩:=h
 refine ⟨h1,by omega,fun r hr=>?_⟩
 obtain ⟨g0,g1,g2⟩:=h3 r hr
 exact ⟨by omega,by omega,fun _=>g0⟩
structure OpOk (i f:List Int)(w c:Int):Prop where
  r:RightO i f w c
  bi:∀ b_ ∈ i,(Lit.int .u8 b_).wf=true
  bf:∀ b_ ∈ f,(Lit.int .u8 b_).wf=true
  li:i.length≤1000
  lf:f.length≤1000
section
variable {i f:List Int}{w c:Int}(h:OpOk i f w c)
include h
theorem OpOk.wc:(0≤w∧w≤f.length)∧0≤c∧c≤1000:=by
 obtain ⟨_,_,_,h4,h5,h6⟩:=h.r
 have:=fullN_le f
 omega
theorem operandR_ok (name:Int):Figs (operandR i f w c name).1∧(operandR i f w c name).1.length≤1000:=by
 obtain ⟨h1,h2,_,h4,h5,h6⟩:=h.r
 have f1:=(figsB_iff h.bi).1 h1
 have f2:=(figsB_iff h.bf).1 h2
 have hn:∀ n:Int,0≤n→n≤1000→(ndL n).length≤1000:=fun n q0 q1=>by have:=ndL_len q0 (by omega);omega
 have hw:=h.wc
 have lf:=h.lf
 have li:=h.li
 unfold operandR
 repeat' split
 all_goals first
  | exact ⟨Figs.nil,by simp⟩
  | exact ⟨f1,li⟩
  | exact ⟨ndL_figs _,hn _ (by omega) (by omega)⟩
  | exact ⟨bareL_figs f2,by have:=bareL_len f;simp only [];omega⟩
  | exact ⟨bareL_figs (f2.take _),by have:=bareL_len (f.take w.toNat);simp only [List.length_take] at this ⊢;omega⟩
theorem relN_eq {x:Rl}(hx:NumX x):relN i f w c x=some (!relX i f w c x):=by
 have hw:=h.wc
 have lf:=h.lf
 have e1:oper_Operand.f i f w c x.f0=some (operandR i f w c x.f0):=ev_const (operand_ev i f w c x.f0 (by omega) hw.1 hw.2)
 obtain ⟨hF,hL⟩:=operandR_ok h x.f0
 unfold relN relX relV
 rw [e1]
 generalize operandR i f w c x.f0=q at hF hL ⊢
 obtain ⟨l,wh⟩:=q
 simp only [Option.bind_some] at hF hL ⊢
 have hb:∀ a b:Bool,some (a == b)=some (!(a != b)):=by decide
 unfold rngO
 by_cases hm:wh=true∧x.f1>0
 ·have e2:oper_Mod.f (l.length+2) l x.f1=some (num l % x.f1):=by
   have h1:=mod_l0 hF (by omega) (m:=x.f1) ⟨by omega,hx.m1⟩ l.length 0 (by omega)
   have h2:=oper_Mod.mono_l (l.length+1) x.f1 (num (l.take 0) % x.f1) l (l.length:Int) ((0:Nat):Int) _ h1
   unfold oper_Mod.f
   simpa [num_nil] using h2
  rw [if_pos hm,e2]
  simp only [Option.bind_some,if_pos hm.2,hm.1,Bool.true_and]
  rw [hb]
  congr 3
  have hp:=Int.emod_nonneg (num l) (show x.f1≠0 by omega)
  refine any_congr' (fun r hr=>?_)
  obtain ⟨_,_,g⟩:=hx.rg r hr
  have:=g hm.2
  unfold inV
  rw [Bool.eq_iff_iff]
  simp
  omega
 rw [if_neg hm]
 have hin:∀ r ∈ x.f3,oper_In.f l r.f0 r.f1=some (inD l r.f0 r.f1):=fun r hr=>by
  obtain ⟨g1,g2,_⟩:=hx.rg r hr
  exact ev_const (in_ev hF (by omega) r.f0 r.f1 g1 g2)
 rw [if_neg (by rintro ⟨_,h2⟩;exact h2 (fun g hg=>by rw [hin g hg];rfl))]
 simp only [Option.bind_some]
 rw [hb]
 congr 3
 cases wh with
 | false=>simp
 | true=>
  simp only [Bool.true_and,true_and] at hm ⊢
  rw [if_neg hm]
  refine any_congr' (fun r hr=>?_)
  rw [hin r hr]
  unfold inV inD
  simp
theorem holds_f {l:List (List Rl)}(hx:∀ row ∈ l,∀ x ∈ row,NumX x):rule_Holds.f l i f w c=some (condX i f w c l):=by
 unfold rule_Holds.f
 rw [if_pos (fun row hrow x hxr=>by rw [relN_eq h (hx row hrow x hxr)];rfl)]
 congr 1
 unfold condX
 refine any_congr' (fun row hrow=>?_)
 refine not_any' (fun x hxr=>?_)
 rw [relN_eq h (hx row hrow x hxr)]
 simp
end
theorem condX_append (i f:List Int)(w c:Int)(a b:List (List Rl)):condX i f w c (a ++ b)=(condX i f w c a || condX i f w c b):=by unfold condX;rw [List.any_append]
theorem condX_row (i f:List Int)(w c:Int)(a b:List Rl):condX i f w c [a ++ b]=(condX i f w c [a] && condX i f w c [b]):=by unfold condX;simp [List.all_append]
end
end Go.Proofs.YtgfajgkjbckkgaaGreatDoor.PZ
end
