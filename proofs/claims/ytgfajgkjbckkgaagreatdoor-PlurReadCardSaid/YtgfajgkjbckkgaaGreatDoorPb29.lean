/- Texts of this seat, joined. Conditions: none beyond each statement's own. -/
import Derived.Test.YtgfajgkjbckkgaaGreatDoorPb28
set_option linter.all false
section
set_option maxRecDepth 100000
namespace Go.Proofs.YtgfajgkjbckkgaaGreatDoor.PZ
open Go.RowKit Go.Proofs.YtgfajgkjbckkgaaGreatDoorW.PrintWords Go.Proofs.YtgfajgkjbckkgaaGreatDoorW.PrintLast
def prevR (l:List Ru)(i:Nat):Int:=if i=0 then 0 else (l.getD (i - 1) ⟨0,[]⟩).f0
theorem refRight12_l0 {l:List Ru}(ht:∀ x ∈ l,TxtOk x.f1)(hl:∀ x ∈ l,LenOk x.f1)(hn:l.length≤140737488355328)(n:Nat):∀ i:Nat,i+n=l.length→0≤prevR l i→Ev (fun k=>exergueref12_Right.l0 k l (i:Int)) (rightR (prevR l i) (l.drop i)):=by
 induction n with
 | zero=>
  intro i hi _
  have q1:¬ ((i:Nat):Int)<(l.length:Int):=by omega
  refine Ev_shift ?_
  simp only [exergueref12_Right.l0,if_neg q1]
  rw [List.drop_of_length_le (by omega)]
  exact Ev.now _
 | succ n ih=>
  intro i hi hp
  have hlt:i<l.length:=by omega
  have q1:((i:Nat):Int)<(l.length:Int):=by omega
  have q2:(0:Int)≤(i:Int):=by omega
  have wi:wrap64 ((i:Int)+1)=((i+1:Nat):Int):=by rw [w64 _ (by omega) (by omega)];omega
  have hpn:prevR l (i+1)=(l[i]).f0:=by unfold prevR;rw [if_neg (by omega)];simp [List.getD_eq_getElem?_getD,hlt]
  have hm:=List.getElem_mem hlt
  rw [drop_get hlt]
  simp only [rightR]
  refine Ev_shift ?_
  simp only [exergueref12_Right.l0,if_pos q1,if_pos q2,rd65 hlt,wi]
  refine Ev.bind (refRight11 (ht _ hm) (hl _ hm)) ?_
  cases hr:rightP (l[i]).f1 with
  | false=>simp only [Bool.false_eq_true,if_false,Bool.false_and,Bool.and_false];exact Ev.now _
  | true=>
   simp only [if_true,Bool.true_and]
   have on_:1≤(l[i]).f0→Ev (fun k=>exergueref12_Right.l0 k l ((i+1:Nat):Int)) (rightR (l[i]).f0 (l.drop (i+1))):=fun h=>by
    have:=ih (i+1) (by omega) (by rw [hpn];omega)
    rw [hpn] at this
    exact this
   by_cases h1:(l[i]).f0<1
   ·have hb:nextB (prevR l i) (l[i]).f0=false:=by unfold nextB;rw [zD (by omega)];rfl
    simp only [if_pos h1,hb,Bool.false_and]
    exact Ev.now _
   by_cases h5:(l[i]).f0>5
   ·have hb:nextB (prevR l i) (l[i]).f0=false:=by unfold nextB;rw [zD (show ¬ (l[i]).f0≤5 by omega),Bool.and_false]
    simp only [if_neg h1,if_pos h5,hb,Bool.false_and]
    exact Ev.now _
   simp only [if_neg h1,if_neg h5]
   by_cases h0:i=0
   ·subst h0
    have q4:¬ ((0:Nat):Int)>0:=by omega
    have hb:nextB (prevR l 0) (l[0]).f0=true:=by unfold nextB prevR;simp;omega
    simp only [if_neg q4,hb,Bool.true_and]
    exact on_ (by omega)
   have q4:((i:Nat):Int)>0:=by omega
   have w1:wrap64 ((i:Int) - 1)=((i - 1:Nat):Int):=by rw [w64 _ (by omega) (by omega)];omega
   have q5:(0:Int)≤((i - 1:Nat):Int):=by omega
   have q6:((i - 1:Nat):Int)<(l.length:Int):=by omega
   have hpv:(l[i - 1]).f0=prevR l i:=by unfold prevR;rw [if_neg h0];simp [List.getD_eq_getElem?_getD,show i - 1<l.length by omega]
   simp only [if_pos q4,w1,if_pos q5,if_pos q6,rd65 (show i - 1<l.length by omega),hpv]
   by_cases hle:(l[i]).f0≤prevR l i
   ·have hb:nextB (prevR l i) (l[i]).f0=false:=by unfold nextB;rw [zD (by omega)];rfl
    simp only [if_pos hle,hb,Bool.false_and]
    exact Ev.now _
   have hb:nextB (prevR l i) (l[i]).f0=true:=by unfold nextB;rw [zC (by omega),zC (by omega)];rfl
   simp only [if_neg hle,hb,Bool.true_and]
   exact on_ (by omega)
theorem refRight12_ev {l:List Ru}(ht:∀ x ∈ l,TxtOk x.f1)(hl:∀ x ∈ l,LenOk x.f1)(hn:l.length≤140737488355328):Ev (fun k=>exergueref12_Right.f k l) (rightR 0 l):=by
 unfold exergueref12_Right.f
 have:=refRight12_l0 ht hl hn l.length 0 (by omega) (by simp [prevR])
 rw [List.drop_zero] at this
 exact this
theorem shortR_ev {l:List Ru}(hl:∀ x ∈ l,LenOk x.f1)(hn:l.length≤140737488355328):∃ R,Ev (fun k=>exergueref12_Short.f k l) R∧(R=true→l.length≤8∧∀ x ∈ l,ShortC x.f1):=by
 unfold exergueref12_Short.f
 have:∀ (n i:Nat),i+n=l.length→i≤8→(∀ x ∈ l.take i,ShortC x.f1)→∃ R,Ev (fun k=>exergueref12_Short.l0 k l (i:Int)) R∧(R=true→l.length≤8∧∀ x ∈ l,ShortC x.f1):=by
  intro n
  induction n with
  | zero=>
   intro i hi h8 hs
   have q1:¬ ((i:Nat):Int)<(l.length:Int):=by omega
   rw [List.take_of_length_le (by omega)] at hs
   refine ⟨true,Ev_shift ?_,fun _=>⟨by omega,hs⟩⟩
   simp only [exergueref12_Short.l0,if_neg q1]
   exact Ev.now _
  | succ n ih=>
   intro i hi h8 hs
   have hlt:i<l.length:=by omega
   have q1:((i:Nat):Int)<(l.length:Int):=by omega
   have q2:(0:Int)≤(i:Int):=by omega
   have wi:wrap64 ((i:Int)+1)=((i+1:Nat):Int):=by rw [w64 _ (by omega) (by omega)];omega
   obtain ⟨b,S,P⟩:=short_ev (hl _ (List.getElem_mem hlt))
   by_cases h9:(i:Int)≥8
   ·refine ⟨false,Ev_shift ?_,fun h=>by cases h⟩
    simp only [exergueref12_Short.l0,if_pos q1,if_pos q2,rd65 hlt]
    refine Ev.bind S ?_
    simp only [if_pos h9]
    exact Ev.now _
   cases b with
   | false=>
    refine ⟨false,Ev_shift ?_,fun h=>by cases h⟩
    simp only [exergueref12_Short.l0,if_pos q1,if_pos q2,rd65 hlt]
    refine Ev.bind S ?_
    simp only [if_neg h9,Bool.false_eq_true,if_false]
    exact Ev.now _
   | true=>
    obtain ⟨R,hR1,hR2⟩:=ih (i+1) (by omega) (by omega) (fun x hx=>by
     rw [List.take_succ_eq_append_getElem hlt] at hx
     rcases List.mem_append.1 hx with hx|hx
     · exact hs x hx
     rw [List.mem_singleton.1 hx];exact P rfl)
    refine ⟨R,Ev_shift ?_,hR2⟩
    simp only [exergueref12_Short.l0,if_pos q1,if_pos q2,rd65 hlt,wi]
    refine Ev.bind S ?_
    simp only [if_neg h9,if_true]
    exact hR1
 exact this l.length 0 (by omega) (by omega) (by simp)
theorem refOf_l0 {i f:List Int}{w c:Int}(h:OpOk i f w c){l:List Ru}(hx:∀ x ∈ l,GoodC x.f1)(hn:l.length≤140737488355328)(n:Nat):∀ j:Nat,j+n=l.length→Ev (fun k=>exergueref12_Of.l0 k l (j:Int) i f w c) (catX i f w c (l.drop j)):=by
 induction n with
 | zero=>
  intro j hj
  have q1:¬ ((j:Nat):Int)<(l.length:Int):=by omega
  refine Ev_shift ?_
  simp only [exergueref12_Of.l0,if_neg q1]
  rw [List.drop_of_length_le (by omega)]
  exact Ev.now _
 | succ n ih=>
  intro j hj
  have hlt:j<l.length:=by omega
  have q1:((j:Nat):Int)<(l.length:Int):=by omega
  have q2:(0:Int)≤(j:Int):=by omega
  have wj:wrap64 ((j:Int)+1)=((j+1:Nat):Int):=by rw [w64 _ (by omega) (by omega)];omega
  have hg:=hx _ (List.getElem_mem hlt)
  rw [drop_get hlt,catX_cons]
  refine Ev_shift ?_
  simp only [exergueref12_Of.l0,if_pos q1,if_pos q2,rd65 hlt,wj]
  refine Ev.bind (holds_ev11 h hg.len hg.num) ?_
  by_cases hc:condX i f w c (l[j]).f1=true
  · simp only [if_pos hc];exact Ev.now _
  simp only [if_neg hc];exact ih (j+1) (by omega)
theorem refOf12_ev {i f:List Int}{w c:Int}(h:OpOk i f w c){l:List Ru}(hx:∀ x ∈ l,GoodC x.f1)(hn:l.length≤140737488355328):Ev (fun k=>exergueref12_Of.f k l i f w c) (catX i f w c l):=by
 unfold exergueref12_Of.f
 have:=refOf_l0 h hx hn l.length 0 (by omega)
 rw [List.drop_zero] at this
 exact this
theorem name_same (a:Int):exergueref12_Name.f a=plur_Name.f a:=by
 unfold exergueref12_Name.f plur_Name.f
 by_cases h:0≤a∧a<6
 ·obtain ⟨h0,h1⟩:=h
  have:a=0∨a=1∨a=2∨a=3∨a=4∨a=5:=by omega
  rcases this with rfl|rfl|rfl|rfl|rfl|rfl <;> rfl
 rw [if_neg h]
 repeat' (split;· omega)
 rfl
theorem cat_same (s:ByteArray):Ev (fun k=>exergueref12_Cat.f k s) (max (ixL plNames s 0) 0,decide (0≤ixL plNames s 0)):=by
 unfold exergueref12_Cat.f
 have step:∀ (n i:Nat),i+n=6→Ev (fun k=>exergueref12_Cat.l0 k s (i:Int)) (max (ixL (plNames.drop i) s i) 0,decide (0≤ixL (plNames.drop i) s i)):=by
  intro n
  induction n with
  | zero=>
   intro i hi
   obtain rfl:i=6:=by omega
   have q1:¬ ((6:Nat):Int)<6:=by omega
   refine Ev_shift ?_
   simp only [exergueref12_Cat.l0,if_neg q1]
   exact Ev.now _
  | succ n ih=>
   intro i hi
   have hlt:i<plNames.length:=by show i<6;omega
   have q1:((i:Nat):Int)<6:=by omega
   have wi:wrap64 ((i:Int)+1)=((i+1:Nat):Int):=by rw [w64 _ (by omega) (by omega)];omega
   have hnm:exergueref12_Name.f (i:Int)=some (plNames.getD i ByteArray.empty):=by
    rw [name_same]
    unfold plur_Name.f
    rw [if_pos (by omega)]
    rfl
   rw [ixL_at hlt]
   refine Ev_shift ?_
   simp only [exergueref12_Cat.l0,if_pos q1,hnm,Option.bind_some,wi]
   by_cases h:s=plNames.getD i ByteArray.empty
   ·have h2:(plNames.getD i ByteArray.empty).toList=s.toList:=by rw [h]
    simp only [if_pos h2,if_pos h]
    rw [Int.max_eq_left (by omega),zC (by omega)]
    exact Ev.now _
   have h2:¬ (plNames.getD i ByteArray.empty).toList=s.toList:=by
    intro z
    apply h
    have:=bytes_ext2 (plNames.getD i ByteArray.empty) s
    rw [z] at this
    simp at this
    exact this.symm
   simp only [if_neg h2,if_neg h]
   exact ih (i+1) (by omega)
 exact step 6 0 rfl
section
theorem OkRus.len {l:List Ru}(h:OkRus l):(∀ x ∈ l,LenOk x.f1)∧l.length≤140737488355328:=⟨fun x hx=>(h.2 x hx).2.len,by have:=h.1;omega⟩
section
variable (i f:List Int)(w c:Int)
theorem cat_facts:∀ (l:List Ru) (last:Int),rightR last l=true→0≤last →
    (catX i f w c l=0∨(last<catX i f w c l∧catX i f w c l≤5))∧(∀ x ∈ l,last<x.f0∧x.f0≤5) ∧
    (∀ x ∈ l,condX i f w c x.f1=true→catX i f w c l≠0∧catX i f w c l≤x.f0)∧(∀ x ∈ l,x.f0=catX i f w c l→condX i f w c x.f1=true)
  | [],last,_,_=>⟨.inl rfl,by simp,by simp,by simp⟩
  | x :: l,last,h,h0=>by
    simp only [rightR,Bool.and_eq_true] at h
    obtain ⟨h1,_,h3⟩:=h
    have hb:last<x.f0∧x.f0≤5:=by unfold nextB at h1;simpa using h1
    obtain ⟨a1,a2,a3,a4⟩:=cat_facts l x.f0 h3 (by omega)
    rw [catX_cons]
    by_cases hc:condX i f w c x.f1=true
    · simp only [if_pos hc]
      refine ⟨.inr hb,fun y hy=>?_,fun y hy _=>?_,fun y hy e=>?_⟩
      · rcases List.mem_cons.1 hy with rfl|hy
        · exact hb
        · have:=a2 y hy;omega
      · rcases List.mem_cons.1 hy with rfl|hy
        · omega
        · have:=a2 y hy;omega
      · rcases List.mem_cons.1 hy with rfl|hy
        · exact hc
        · have:=a2 y hy;omega
    · simp only [if_neg hc]
      refine ⟨?_,fun y hy=>?_,fun y hy hy2=>?_,fun y hy e=>?_⟩
      · rcases a1 with h|h
        · exact .inl h
        · exact .inr ⟨by omega,h.2⟩
      · rcases List.mem_cons.1 hy with rfl|hy
        · exact hb
        · have:=a2 y hy;omega
      · rcases List.mem_cons.1 hy with rfl|hy
        · exact absurd hy2 hc
        · exact a3 y hy hy2
      · rcases List.mem_cons.1 hy with rfl|hy
        · rcases a1 with h|h
          · omega
          · omega
        · exact a4 y hy e
theorem catX_snoc:∀ (m:List Ru) (x:Ru) (last:Int),rightR last (m ++ [x])=true→0≤last →
    (catX i f w c m≠0→catX i f w c (m ++ [x])=catX i f w c m∧catX i f w c m<x.f0)∧(catX i f w c m=0→catX i f w c (m ++ [x])=if condX i f w c x.f1=true then x.f0 else 0)
  | [],x,last,_,_=>⟨fun h=>absurd (catX_nil i f w c) h,fun _=>by rw [List.nil_append,catX_cons,catX_nil]⟩
  | y :: m,x,last,h,h0=>by
    rw [List.cons_append] at h ⊢
    simp only [rightR,Bool.and_eq_true] at h
    obtain ⟨h1,_,h3⟩:=h
    have hb:last<y.f0∧y.f0≤5:=by unfold nextB at h1;simpa using h1
    obtain ⟨b1,b2⟩:=catX_snoc m x y.f0 h3 (by omega)
    have hx:=(cat_facts i f w c (m ++ [x]) y.f0 h3 (by omega)).2.1 x (by simp)
    rw [catX_cons,catX_cons]
    by_cases hc:condX i f w c y.f1=true
    · simp only [if_pos hc]
      exact ⟨fun _=>⟨trivial,by omega⟩,fun e=>by omega⟩
    · simp only [if_neg hc]
      exact ⟨b1,b2⟩
theorem catX_mem:∀ (l:List Ru),catX i f w c l=0∨∃ x ∈ l,x.f0=catX i f w c l
  | []=>.inl rfl
  | x :: l=>by
    rw [catX_cons]
    by_cases hc:condX i f w c x.f1=true
    · simp only [if_pos hc]
      exact .inr ⟨x,by simp,rfl⟩
    · simp only [if_neg hc]
      rcases catX_mem l with h|⟨y,hy,e⟩
      · exact .inl h
      · exact .inr ⟨y,by simp [hy],e⟩
end
end
end Go.Proofs.YtgfajgkjbckkgaaGreatDoor.PZ
end
