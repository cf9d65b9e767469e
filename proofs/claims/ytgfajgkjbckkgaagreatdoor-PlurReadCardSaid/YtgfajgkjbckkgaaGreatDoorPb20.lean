/- Texts of this seat, joined. Conditions: none beyond each statement's own. -/
import Derived.Test.YtgfajgkjbckkgaaGreatDoorPb18
set_option linter.all false
section
set_option maxRecDepth 100000
namespace Go.Proofs.YtgfajgkjbckkgaaGreatDoor.PZ
open Go.RowKit Go.Proofs.YtgfajgkjbckkgaaGreatDoorW.PrintWords Go.Proofs.YtgfajgkjbckkgaaGreatDoorW.PrintLast
section
structure LenOk (c:List (List Rl)):Prop where
  lc:c.length≤140737488355328
  lr:∀ row ∈ c,row.length≤140737488355328
  lx:∀ row ∈ c,∀ x ∈ row,x.f3.length≤140737488355328
theorem OkC.len {c:List (List Rl)}(h:OkC c):LenOk c:=by
 obtain ⟨h1,h2⟩:=h
 refine ⟨by omega,fun row hr=>?_,fun row hr x hx=>?_⟩
 · have:=(h2 row hr).1;omega
 have:=((h2 row hr).2 x hx).2.2.1;omega
theorem drop_get {α:Type}{l:List α}{i:Nat}(h:i<l.length):l.drop i=l[i] :: l.drop (i+1):=List.drop_eq_getElem_cons h
section
variable {a b:List (List Rl)}
theorem same_l2 {i j:Int}{x y:Rl}(hx:x.f3.length≤140737488355328)(hl:x.f3.length=y.f3.length)(hj:0≤j∧j≤140737488355328){R:Bool}(hR:Ev (fun k=>exergueref11_Same.l1 k a b i (j+1)) R)(n:Nat):∀ q:Nat,q+n=x.f3.length →
    Ev (fun k=>exergueref11_Same.l2 k a b i j (q:Int) x.f0 x.f1 x.f2 x.f3 y.f0 y.f1 y.f2 y.f3) (decide (x.f3.drop q=y.f3.drop q) && R):=by
 have wj:wrap64 (j+1)=j+1:=w64 _ (by omega) (by omega)
 induction n with
 | zero=>
  intro q hq
  have q1:¬ ((q:Nat):Int)<(x.f3.length:Int):=by omega
  have e:decide (x.f3.drop q=y.f3.drop q)=true:=zC (by rw [List.drop_of_length_le (by omega),List.drop_of_length_le (by omega)])
  refine Ev_shift ?_
  simp only [exergueref11_Same.l2,if_neg q1,wj,e,Bool.true_and]
  exact hR
 | succ n ih=>
  intro q hq
  have hlt:q<x.f3.length:=by omega
  have hlt2:q<y.f3.length:=by omega
  have q1:((q:Nat):Int)<(x.f3.length:Int):=by omega
  have q2:(0:Int)≤(q:Int):=by omega
  have q3:((q:Nat):Int)<(y.f3.length:Int):=by omega
  have wq:wrap64 ((q:Int)+1)=((q+1:Nat):Int):=by rw [w64 _ (by omega) (by omega)];omega
  refine Ev_shift ?_
  simp only [exergueref11_Same.l2,if_pos q1,if_pos q2,if_pos q3,rd57 hlt,rd57 hlt2,wq]
  rw [drop_get hlt,drop_get hlt2]
  by_cases h:x.f3[q]=y.f3[q]
  ·have hc:¬ ((!((x.f3[q]).f0 == (y.f3[q]).f0)) || (!((x.f3[q]).f1 == (y.f3[q]).f1)))=true:=by rw [h];simp
   have e:decide (x.f3[q] :: x.f3.drop (q+1)=y.f3[q] :: y.f3.drop (q+1))=decide (x.f3.drop (q+1)=y.f3.drop (q+1)):=by rw [decide_eq_decide,h,List.cons.injEq];simp only [true_and]
   simp only [if_neg hc,e]
   exact ih (q+1) (by omega)
  have hc:((!((x.f3[q]).f0 == (y.f3[q]).f0)) || (!((x.f3[q]).f1 == (y.f3[q]).f1)))=true:=by
   by_cases h0:(x.f3[q]).f0=(y.f3[q]).f0
   ·have h1:(x.f3[q]).f1≠(y.f3[q]).f1:=by
     intro h1
     apply h
     generalize x.f3[q]=u at *
     generalize y.f3[q]=v at *
     cases u;cases v;simp_all
    simp [h1]
   simp [h0]
  have e:decide (x.f3[q] :: x.f3.drop (q+1)=y.f3[q] :: y.f3.drop (q+1))=false:=zD (by intro z;exact h (List.cons.inj z).1)
  simp only [if_pos hc,e,Bool.false_and]
  exact Ev.now _
theorem same_l1 (ha:LenOk a){i:Nat}(hi:i<a.length)(hi2:i<b.length)(hl:(a[i]).length=(b[i]).length){R:Bool}(hR:Ev (fun k=>exergueref11_Same.l0 k a b ((i+1:Nat):Int)) R)(n:Nat):∀ j:Nat,j+n=(a[i]).length →
    Ev (fun k=>exergueref11_Same.l1 k a b (i:Int) (j:Int)) (decide ((a[i]).drop j=(b[i]).drop j) && R):=by
 have hcl:=ha.lc
 have hrl:=ha.lr _ (List.getElem_mem hi)
 have hxl:=ha.lx _ (List.getElem_mem hi)
 have i1:(0:Int)≤(i:Int):=by omega
 have i2:(i:Int)<(a.length:Int):=by omega
 have i3:(i:Int)<(b.length:Int):=by omega
 have wi:wrap64 ((i:Int)+1)=((i+1:Nat):Int):=by rw [w64 _ (by omega) (by omega)];omega
 have ra:=rdL hi
 have rb:=rdL hi2
 generalize a[i]=r at *
 generalize b[i]=t at *
 induction n with
 | zero=>
  intro j hj
  have q1:¬ ((j:Nat):Int)<(r.length:Int):=by omega
  have e:decide (r.drop j=t.drop j)=true:=zC (by rw [List.drop_of_length_le (by omega),List.drop_of_length_le (by omega)])
  refine Ev_shift ?_
  simp only [exergueref11_Same.l1,if_pos i1,if_pos i2,ra,if_neg q1,wi,e,Bool.true_and]
  exact hR
 | succ n ih=>
  intro j hj
  have hlt:j<r.length:=by omega
  have hlt2:j<t.length:=by omega
  have q1:((j:Nat):Int)<(r.length:Int):=by omega
  have q2:(0:Int)≤(j:Int):=by omega
  have q3:((j:Nat):Int)<(t.length:Int):=by omega
  have hnext:=ih (j+1) (by omega)
  have hx3:=hxl _ (List.getElem_mem hlt)
  have sx:=rd60 hlt
  have sy:=rd60 hlt2
  rw [drop_get hlt,drop_get hlt2]
  generalize r[j]=x at *
  generalize t[j]=y at *
  have e1:decide (x :: r.drop (j+1)=y :: t.drop (j+1))=(decide (x=y) && decide (r.drop (j+1)=t.drop (j+1))):=by
   rw [Bool.eq_iff_iff,Bool.and_eq_true,decide_eq_true_eq,decide_eq_true_eq,decide_eq_true_eq,List.cons.injEq]
  have off:x≠y→Ev (fun k=>exergueref11_Same.j2 k a b (i:Int) (j:Int) true x.f0 x.f1 x.f2 x.f3 y.f0 y.f1 y.f2 y.f3) (decide (x :: r.drop (j+1)=y :: t.drop (j+1)) && R):=by
   intro h
   rw [e1,zD h]
   refine Ev_shift ?_
   simp only [exergueref11_Same.j2,if_true,Bool.false_and]
   exact Ev.now _
  refine Ev_shift ?_
  simp only [exergueref11_Same.l1,if_pos i1,if_pos i2,if_pos i3,ra,rb,if_pos q1,if_pos q2,if_pos q3,sx,sy]
  by_cases h0:x.f0=y.f0
  rotate_left
  ·simp only [if_neg h0]
   exact off (fun h=>h0 (by rw [h]))
  by_cases h1:x.f1=y.f1
  rotate_left
  ·simp only [if_pos h0,if_neg h1]
   exact off (fun h=>h1 (by rw [h]))
  by_cases h2:x.f2=y.f2
  rotate_left
  ·have c2:(x.f2 != y.f2)=true:=by simpa using h2
   simp only [if_pos h0,if_pos h1,if_pos c2]
   exact off (fun h=>h2 (by rw [h]))
  have c2:¬ (x.f2 != y.f2)=true:=by rw [h2];simp
  simp only [if_pos h0,if_pos h1,if_neg c2]
  by_cases h3:x.f3.length=y.f3.length
  ·have c3:((x.f3.length:Int) != (y.f3.length:Int))=false:=by rw [h3];simp
   rw [c3]
   refine Ev_shift ?_
   simp only [exergueref11_Same.j2,Bool.false_eq_true,if_false]
   have:=same_l2 (x:=x) (y:=y) hx3 h3 (j:=(j:Int)) (by omega) hnext x.f3.length 0 (by omega)
   simp only [List.drop_zero] at this
   have e2:(decide (x :: r.drop (j+1)=y :: t.drop (j+1)) && R)=(decide (x.f3=y.f3) && (decide (r.drop (j+1)=t.drop (j+1)) && R)):=by
    rw [e1]
    have:decide (x=y)=decide (x.f3=y.f3):=by
     rw [decide_eq_decide]
     cases x;cases y;simp_all
    rw [this,Bool.and_assoc]
   rw [e2]
   exact this
  have c3:((x.f3.length:Int) != (y.f3.length:Int))=true:=by simp;omega
  rw [c3]
  exact off (fun h=>h3 (by rw [h]))
theorem same_l0 (ha:LenOk a)(hl:a.length=b.length)(n:Nat):∀ i:Nat,i+n=a.length→Ev (fun k=>exergueref11_Same.l0 k a b (i:Int)) (decide (a.drop i=b.drop i)):=by
 have hcl:=ha.lc
 induction n with
 | zero=>
  intro i hi
  have q1:¬ ((i:Nat):Int)<(a.length:Int):=by omega
  have e:decide (a.drop i=b.drop i)=true:=zC (by rw [List.drop_of_length_le (by omega),List.drop_of_length_le (by omega)])
  refine Ev_shift ?_
  simp only [exergueref11_Same.l0,if_neg q1,e]
  exact Ev.now _
 | succ n ih=>
  intro i hi
  have hlt:i<a.length:=by omega
  have hlt2:i<b.length:=by omega
  have q1:((i:Nat):Int)<(a.length:Int):=by omega
  have q2:(0:Int)≤(i:Int):=by omega
  have q3:((i:Nat):Int)<(b.length:Int):=by omega
  have hnext:=ih (i+1) (by omega)
  have e1:decide (a.drop i=b.drop i)=(decide (a[i]=b[i]) && decide (a.drop (i+1)=b.drop (i+1))):=by
   rw [drop_get hlt,drop_get hlt2,Bool.eq_iff_iff,Bool.and_eq_true,decide_eq_true_eq,decide_eq_true_eq,decide_eq_true_eq,List.cons.injEq]
  refine Ev_shift ?_
  simp only [exergueref11_Same.l0,if_pos q1,if_pos q2,if_pos q3,rdL hlt,rdL hlt2]
  rw [e1]
  by_cases h:((a[i]).length:Int)=((b[i]).length:Int)
  ·have:=same_l1 ha hlt hlt2 (by omega) hnext (a[i]).length 0 (by omega)
   simp only [List.drop_zero] at this
   simp only [if_pos h]
   exact this
  have hne:decide (a[i]=b[i])=false:=zD (fun z=>h (by rw [z]))
  simp only [if_neg h,hne,Bool.false_and]
  exact Ev.now _
theorem same_ev11 (ha:LenOk a):Ev (fun k=>exergueref11_Same.f k a b) (decide (a=b)):=by
 unfold exergueref11_Same.f
 by_cases h:(a.length:Int)=(b.length:Int)
 ·simp only [if_pos h]
  exact same_l0 ha (by omega) a.length 0 (by omega)
 have hne:decide (a=b)=false:=zD (fun z=>h (by rw [z]))
 simp only [if_neg h,hne]
 exact Ev.now _
end
def LowX (x:Rl):Prop:=-1000000000000≤x.f1∧∀ r ∈ x.f3,-1000000000000≤r.f0 ∧ -1000000000000≤r.f1
structure ShortC (c:List (List Rl)):Prop where
  w:wC c≤200
  n:∀ row ∈ c,∀ x ∈ row,LowX x
section
variable {c:List (List Rl)}(hc:LenOk c)
include hc
theorem short_l2 {i j:Nat}(hi:i<c.length)(hj:j<(c[i]).length)(m:Nat)(hm:m≤140737488355328+300){P:Bool→Prop}
    (hR:(∀ r ∈ ((c[i])[j]).f3,-1000000000000≤r.f0 ∧ -1000000000000≤r.f1) → -1000000000000≤((c[i])[j]).f1→m≤200→∃ R,Ev (fun k=>exergueref11_Short.l1 k c (m:Int) (i:Int) ((j+1:Nat):Int)) R∧P R) (hP:P false) (n:Nat) :
    ∀ q:Nat,q+n=((c[i])[j]).f3.length→(∀ r ∈ (((c[i])[j]).f3).take q,-1000000000000≤r.f0 ∧ -1000000000000≤r.f1)→∃ R,Ev (fun k=>exergueref11_Short.l2 k c (m:Int) (i:Int) (j:Int) (q:Int)) R∧P R:=by
 have hcl:=hc.lc
 have hrl:=hc.lr _ (List.getElem_mem hi)
 have hxl:=hc.lx _ (List.getElem_mem hi) _ (List.getElem_mem hj)
 have i1:(0:Int)≤(i:Int):=by omega
 have i2:(i:Int)<(c.length:Int):=by omega
 have j1:(0:Int)≤(j:Int):=by omega
 have j2:(j:Int)<((c[i]).length:Int):=by omega
 have wj:wrap64 ((j:Int)+1)=((j+1:Nat):Int):=by rw [w64 _ (by omega) (by omega)];omega
 have ra:=rdL hi
 have sx:=rd60 hj
 generalize c[i]=r at *
 generalize r[j]=x at *
 have off:∀ {g:Nat→Option Bool},(∀ k,g (k+1)=some false)→∃ R,Ev g R∧P R:=fun h=>⟨false,Ev_shift (by simp only [h];exact Ev.now _),hP⟩
 induction n with
 | zero=>
  intro q hq hlow
  have q1:¬ ((q:Nat):Int)<(x.f3.length:Int):=by omega
  rw [List.take_of_length_le (by omega)] at hlow
  by_cases h1:x.f1 < -1000000000000
  · exact off (fun k=>by simp only [exergueref11_Short.l2,if_pos i1,if_pos i2,ra,if_pos j1,if_pos j2,sx,if_neg q1,if_pos h1])
  by_cases h2:(m:Int)>200
  · exact off (fun k=>by simp only [exergueref11_Short.l2,if_pos i1,if_pos i2,ra,if_pos j1,if_pos j2,sx,if_neg q1,if_neg h1,if_pos h2])
  obtain ⟨R,hR1,hR2⟩:=hR hlow (by omega) (by omega)
  refine ⟨R,Ev_shift ?_,hR2⟩
  simp only [exergueref11_Short.l2,if_pos i1,if_pos i2,ra,if_pos j1,if_pos j2,sx,if_neg q1,if_neg h1,if_neg h2,wj]
  exact hR1
 | succ n ih=>
  intro q hq hlow
  have hlt:q<x.f3.length:=by omega
  have q1:((q:Nat):Int)<(x.f3.length:Int):=by omega
  have q2:(0:Int)≤(q:Int):=by omega
  have wq:wrap64 ((q:Int)+1)=((q+1:Nat):Int):=by rw [w64 _ (by omega) (by omega)];omega
  by_cases h1:(x.f3[q]).f0 < -1000000000000
  · exact off (fun k=>by simp only [exergueref11_Short.l2,if_pos i1,if_pos i2,ra,if_pos j1,if_pos j2,sx,if_pos q1,if_pos q2,rd57 hlt,if_pos h1])
  by_cases h2:(x.f3[q]).f1 < -1000000000000
  · exact off (fun k=>by simp only [exergueref11_Short.l2,if_pos i1,if_pos i2,ra,if_pos j1,if_pos j2,sx,if_pos q1,if_pos q2,rd57 hlt,if_neg h1,if_pos h2])
  obtain ⟨R,hR1,hR2⟩:=ih (q+1) (by omega) (fun y hy=>by
   rw [List.take_succ_eq_append_getElem hlt] at hy
   rcases List.mem_append.1 hy with hy|hy
   · exact hlow y hy
   rw [List.mem_singleton.1 hy];omega)
  refine ⟨R,Ev_shift ?_,hR2⟩
  simp only [exergueref11_Short.l2,if_pos i1,if_pos i2,ra,if_pos j1,if_pos j2,sx,if_pos q1,if_pos q2,rd57 hlt,if_neg h1,if_neg h2,wq]
  exact hR1
theorem short_l1 {i:Nat}(hi:i<c.length)(m0:Nat)(hm0:m0≤201){P:Bool→Prop}
    (hR:(∀ x ∈ c[i],LowX x)→m0+((c[i]).map wR).sum≤200→∃ R,Ev (fun k=>exergueref11_Short.l0 k c ((m0+((c[i]).map wR).sum:Nat):Int) ((i+1:Nat):Int)) R∧P R) (hP:P false) (n:Nat) :
    ∀ j:Nat,j+n=(c[i]).length→(m0+(((c[i]).take j).map wR).sum≤200∨(j=0∧m0≤201))→(∀ x ∈ (c[i]).take j,LowX x)→∃ R,Ev (fun k=>exergueref11_Short.l1 k c ((m0+(((c[i]).take j).map wR).sum:Nat):Int) (i:Int) (j:Int)) R∧P R:=by
 have hcl:=hc.lc
 have hrl:=hc.lr _ (List.getElem_mem hi)
 have i1:(0:Int)≤(i:Int):=by omega
 have i2:(i:Int)<(c.length:Int):=by omega
 have wi:wrap64 ((i:Int)+1)=((i+1:Nat):Int):=by rw [w64 _ (by omega) (by omega)];omega
 have ra:=rdL hi
 induction n with
 | zero=>
  intro j hj hm hlow
  have q1:¬ ((j:Nat):Int)<((c[i]).length:Int):=by omega
  rw [List.take_of_length_le (by omega)] at hlow hm ⊢
  by_cases h2:((m0+((c[i]).map wR).sum:Nat):Int)>200
  · exact ⟨false,Ev_shift (by simp only [exergueref11_Short.l1,if_pos i1,if_pos i2,ra,if_neg q1,if_pos h2];exact Ev.now _),hP⟩
  obtain ⟨R,hR1,hR2⟩:=hR hlow (by omega)
  refine ⟨R,Ev_shift ?_,hR2⟩
  simp only [exergueref11_Short.l1,if_pos i1,if_pos i2,ra,if_neg q1,if_neg h2,wi]
  exact hR1
 | succ n ih=>
  intro j hj hm hlow
  have hlt:j<(c[i]).length:=by omega
  have q1:((j:Nat):Int)<((c[i]).length:Int):=by omega
  have q2:(0:Int)≤(j:Int):=by omega
  have hxl:=hc.lx _ (List.getElem_mem hi) _ (List.getElem_mem hlt)
  have hs:(((c[i]).take (j+1)).map wR).sum=(((c[i]).take j).map wR).sum+(1+((c[i])[j]).f3.length):=by
   rw [List.take_succ_eq_append_getElem hlt,List.map_append,List.sum_append]
   simp [wR]
  have hmm:m0+(((c[i]).take j).map wR).sum≤201:=by
   rcases hm with h|⟨h,h2⟩
   · omega
   subst h;simp;omega
  have hmb:m0+(((c[i]).take (j+1)).map wR).sum≤140737488355328+300:=by rw [hs];omega
  have w1:wrap64 (wrap64 (((m0+(((c[i]).take j).map wR).sum:Nat):Int)+1)+(((c[i])[j]).f3.length:Int))=((m0+(((c[i]).take (j+1)).map wR).sum:Nat):Int):=by
   rw [hs,w64 (_+1) (by omega) (by omega),w64 _ (by omega) (by omega)];omega
  have l2:=short_l2 hc hi hlt (m0+(((c[i]).take (j+1)).map wR).sum) hmb (P:=P) (fun h1 h2 h3=>ih (j+1) (by omega) (.inl h3) (fun x hx=>by
   rw [List.take_succ_eq_append_getElem hlt] at hx
   rcases List.mem_append.1 hx with hx|hx
   · exact hlow x hx
   rw [List.mem_singleton.1 hx];exact ⟨h2,h1⟩)) hP ((c[i])[j]).f3.length 0 (by omega) (by simp)
  obtain ⟨R,hR1,hR2⟩:=l2
  refine ⟨R,Ev_shift ?_,hR2⟩
  simp only [exergueref11_Short.l1,if_pos i1,if_pos i2,ra,if_pos q1,if_pos q2,rd60 hlt,w1]
  exact hR1
theorem short_l0 (n:Nat):∀ i:Nat,i+n=c.length→wC (c.take i)≤200→(∀ row ∈ c.take i,∀ x ∈ row,LowX x)→∃ R,Ev (fun k=>exergueref11_Short.l0 k c ((wC (c.take i):Nat):Int) (i:Int)) R∧(R=true→ShortC c):=by
 have hcl:=hc.lc
 induction n with
 | zero=>
  intro i hi hw hlow
  have q1:¬ ((i:Nat):Int)<(c.length:Int):=by omega
  rw [List.take_of_length_le (by omega)] at hw hlow ⊢
  refine ⟨true,Ev_shift ?_,fun _=>⟨hw,hlow⟩⟩
  simp only [exergueref11_Short.l0,if_neg q1]
  exact Ev.now _
 | succ n ih=>
  intro i hi hw hlow
  have hlt:i<c.length:=by omega
  have q1:((i:Nat):Int)<(c.length:Int):=by omega
  have w1:wrap64 (((wC (c.take i):Nat):Int)+1)=((wC (c.take i)+1:Nat):Int):=by rw [w64 _ (by omega) (by omega)];omega
  have hs:wC (c.take (i+1))=wC (c.take i)+1+((c[i]).map wR).sum:=by
   unfold wC
   rw [List.take_succ_eq_append_getElem hlt,List.map_append,List.sum_append]
   simp [wRow]
   omega
  obtain ⟨R,hR1,hR2⟩:=short_l1 hc hlt (wC (c.take i)+1) (by omega) (P:=fun R=>R=true→ShortC c) (fun h1 h2=>by
   have:=ih (i+1) (by omega) (by omega) (fun row hrow x hx=>by
    rw [List.take_succ_eq_append_getElem hlt] at hrow
    rcases List.mem_append.1 hrow with hr|hr
    · exact hlow row hr x hx
    rw [List.mem_singleton.1 hr] at hx;exact h1 x hx)
   rw [hs] at this
   exact this) (fun h=>by cases h) (c[i]).length 0 (by omega) (.inr ⟨rfl,by omega⟩) (by simp)
  refine ⟨R,Ev_shift ?_,hR2⟩
  simp only [exergueref11_Short.l0,if_pos q1,w1]
  simpa using hR1
theorem short_ev:∃ R,Ev (fun k=>exergueref11_Short.f k c) R∧(R=true→ShortC c):=by
 unfold exergueref11_Short.f
 exact short_l0 hc c.length 0 (by omega) (by simp [wC]) (by simp)
end
theorem ShortC.txt {c:List (List Rl)}(h:ShortC c)(ho:OkC c):TxtOk c:=by
 refine ⟨by have:=h.w;omega,fun row hr x hx=>?_⟩
 obtain ⟨o1,o2,o3⟩:=(ho.2 row hr).2 x hx
 obtain ⟨l1,l2⟩:=h.n row hr x hx
 refine ⟨wf_u8 o1,⟨l1,(wf_i64 o2).2⟩,fun r hrr=>?_⟩
 exact ⟨⟨(l2 r hrr).1,(wf_i64 (o3.2 r hrr).1).2⟩,⟨(l2 r hrr).2,(wf_i64 (o3.2 r hrr).2).2⟩⟩
end
theorem figsB_cons (d:Int)(l:List Int):figsB (d :: l)=(!decide (d>9) && figsB l):=by unfold figsB;rw [List.any_cons,Bool.not_or]
theorem refFig_l0 (l:List Int)(hl:l.length≤9223372036854775807)(n:Nat):∀ i:Nat,i+n=l.length→exergueref07_Figures.l0 (n+1) l (i:Int)=some (figsB (l.drop i)):=by
 induction n with
 | zero=>
  intro i hi
  rw [exergueref07_Figures.l0,if_neg (by omega),List.drop_of_length_le (by omega)]
  rfl
 | succ n ih=>
  intro i hi
  rw [exergueref07_Figures.l0,if_pos (by omega),if_pos (by omega),drop_cons l i (by omega),figsB_cons]
  by_cases h:rd l i>9
  · rw [if_pos h];simp [h]
  have h2:wrap64 ((i:Int)+1)=((i+1:Nat):Int):=by rw [w64 _ (by omega) (by omega)];omega
  rw [if_neg h,h2,ih (i+1) (by omega)]
  simp [h]
theorem refFig_ev (l:List Int)(hl:l.length≤9223372036854775807):Ev (fun k=>exergueref07_Figures.f k l) (figsB l):=by
 refine Ev.of (k:=l.length+1) (fun k=>exergueref07_Figures.mono _ k) ?_
 unfold exergueref07_Figures.f
 have:=refFig_l0 l hl l.length 0 (by omega)
 simpa using this
theorem refBare_l0 (l:List Int)(hl:l.length≤9223372036854775807)(n:Nat):∀ i:Nat,i+n=l.length→exergueref07_Bare.l0 (n+1) l (i:Int)=some (bareL (l.drop i)):=by
 induction n with
 | zero=>
  intro i hi
  rw [exergueref07_Bare.l0,if_neg (by omega),if_pos (by omega),if_pos (by omega),Int.toNat_natCast,List.drop_of_length_le (by omega)]
  rfl
 | succ n ih=>
  intro i hi
  rw [exergueref07_Bare.l0,if_pos (by omega),if_pos (by omega)]
  by_cases h:rd l i=0
  ·have h2:wrap64 ((i:Int)+1)=((i+1:Nat):Int):=by rw [w64 _ (by omega) (by omega)];omega
   rw [if_pos h,h2,ih (i+1) (by omega),drop_cons l i (by omega),h,bareL_zero]
  rw [if_neg h,if_pos (by omega),Int.toNat_natCast,drop_cons l i (by omega),bareL_other _ h]
theorem refBare_ev (l:List Int)(hl:l.length≤9223372036854775807):Ev (fun k=>exergueref07_Bare.f k l) (bareL l):=by
 refine Ev.of (k:=l.length+1) (fun k=>exergueref07_Bare.mono _ k) ?_
 unfold exergueref07_Bare.f
 have:=refBare_l0 l hl l.length 0 (by omega)
 simpa using this
theorem refFull_l0 (l:List Int)(hl:l.length≤1000000000)(n:Nat):∀ i:Nat,i+n=l.length→exergueref07_Full.l0 (n+1) l (fullN (l.take i):Int) (i:Int)=some (fullN l:Int):=by
 induction n with
 | zero=>
  intro i hi
  rw [exergueref07_Full.l0,if_neg (by omega),List.take_of_length_le (by omega)]
 | succ n ih=>
  intro i hi
  have h2:wrap64 ((i:Int)+1)=((i+1:Nat):Int):=by rw [w64 _ (by omega) (by omega)];omega
  have ht:=take_succ_snoc l i (by omega)
  rw [exergueref07_Full.l0,if_pos (by omega),if_pos (by omega),h2]
  by_cases h:rd l i=0
  ·have e:fullN (l.take i)=fullN (l.take (i+1)):=by rw [ht,h,fullN_zero]
   rw [if_pos h,e]
   exact ih (i+1) (by omega)
  have e:(i+1:Nat)=fullN (l.take (i+1)):=by rw [ht,fullN_other _ h,List.length_take];omega
  rw [if_neg h]
  have:=ih (i+1) (by omega)
  rwa [← e] at this
theorem refFull_ev (l:List Int)(hl:l.length≤1000000000):Ev (fun k=>exergueref07_Full.f k l) (fullN l:Int):=by
 refine Ev.of (k:=l.length+1) (fun k=>exergueref07_Full.mono _ k) ?_
 unfold exergueref07_Full.f
 have:=refFull_l0 l hl l.length 0 (by omega)
 simpa [fullN_nil] using this
theorem bare_cons (l:List Int)(h:0<l.length):Bare l ↔ rd l 0≠0:=by
 unfold Bare
 constructor
 ·rintro (rfl|h1)
  · simp at h
  exact h1
 exact .inr
theorem refRight_ev (i f:List Int)(w c:Int)(hi:i.length≤9223372036854775807)(hf:f.length≤1000000000):Ev (fun k=>exergueref07_Right.f k i f w c) (decide (RightO i f w c)):=by
 unfold exergueref07_Right.f
 refine Ev.bind (refFig_ev i hi) ?_
 refine Ev.bind (refFig_ev f (by omega)) ?_
 have off:¬ RightO i f w c→decide (RightO i f w c)=false:=fun h=>zD h
 cases h1:figsB i with
 | false=>
  rw [off (by unfold RightO;rw [h1];simp)]
  simp only [Bool.false_eq_true,if_false]
  exact Ev.now _
 | true=>
  cases h2:figsB f with
  | false=>
   rw [off (by unfold RightO;rw [h2];simp)]
   simp only [Bool.false_eq_true,if_false,if_true]
   exact Ev.now _
  | true=>
   simp only [if_true]
   have tail:Bare i→Ev (fun n=>(exergueref07_Full.f n f).bind fun t=>(some (decide (w=t) && (decide (0≤c) && decide (c≤1000))))) (decide (RightO i f w c)):=by
    intro h3
    refine Ev.bind (refFull_ev f hf) ?_
    have:(decide (w=(fullN f:Int)) && (decide (0≤c) && decide (c≤1000)))=decide (RightO i f w c):=by
     rw [Bool.eq_iff_iff]
     simp only [Bool.and_eq_true,decide_eq_true_eq]
     exact ⟨fun h=>⟨h1,h2,h3,h.1,h.2.1,h.2.2⟩,fun h=>⟨h.2.2.2.1,h.2.2.2.2.1,h.2.2.2.2.2⟩⟩
    rw [this]
    exact Ev.now _
   by_cases h0:(i.length:Int)>0
   ·have h0':(0:Int)<(i.length:Int):=h0
    simp only [if_pos h0,if_pos h0']
    by_cases h3:rd i 0=0
    ·simp only [if_pos h3]
     rw [off (by rintro ⟨_,_,h,_⟩;exact (bare_cons i (by omega)).1 h h3)]
     exact Ev.now _
    simp only [if_neg h3]
    exact tail (.inr h3)
   simp only [if_neg h0]
   exact tail (.inl (List.eq_nil_of_length_eq_zero (by omega)))
theorem mod_both (a d b m:Int):(a % m+d * (b % m)) % m=(a+d * b) % m:=by
 rw [Int.add_emod,Int.emod_emod,Int.mul_emod d (b % m),Int.emod_emod,← Int.mul_emod,← Int.add_emod]
theorem refMod_l0 {l:List Int}(hf:Figs l)(hl:l.length≤1000000){m:Int}(hm:1≤m∧m≤1000000000)(j:Nat):j≤l.length→∀ x:Int,x=(j:Int) - 1→exergueref07_Mod.l0 (j+1) l m (num (l.drop j) % m) (T10 (l.length - j) % m) x=some (num l % m):=by
 induction j with
 | zero=>
  intro _ x hx
  rw [exergueref07_Mod.l0,if_neg (by omega),List.drop_zero]
 | succ j ih=>
  intro hj x hx
  have hx':x=(j:Int):=by omega
  subst hx'
  have hd:=rd_figs hf j
  have h1:=Int.emod_nonneg (num (l.drop (j+1))) (show m≠0 by omega)
  have h2:=Int.emod_lt_of_pos (num (l.drop (j+1))) (show 0<m by omega)
  have h3:=Int.emod_nonneg (T10 (l.length - (j+1))) (show m≠0 by omega)
  have h4:=Int.emod_lt_of_pos (T10 (l.length - (j+1))) (show 0<m by omega)
  have h5:0≤rd l j * (T10 (l.length - (j+1)) % m):=Int.mul_nonneg hd.1 h3
  have h6:rd l j * (T10 (l.length - (j+1)) % m)≤9 * (T10 (l.length - (j+1)) % m):=Int.mul_le_mul_of_nonneg_right hd.2 h3
  rw [exergueref07_Mod.l0,if_pos (by omega),if_pos (by omega),if_pos (by omega),if_neg (by omega)]
  rw [w64 (rd l j) (by omega) (by omega),w64 (rd l j * _) (by omega) (by omega),w64 (_+_) (by omega) (by omega),w64 (_ * 10) (by omega) (by omega),w64 ((j:Int) - 1) (by omega) (by omega)]
  rw [Int.tmod_eq_emod_of_nonneg (by omega),Int.tmod_eq_emod_of_nonneg (by omega),mod_both]
  have e1:num (l.drop (j+1))+rd l j * T10 (l.length - (j+1))=num (l.drop j):=by
   rw [drop_cons l j (by omega),num_cons,List.length_drop]
   omega
  have e2:T10 (l.length - (j+1)) % m * 10 % m=T10 (l.length - j) % m:=by
   have e3:l.length - j=(l.length - (j+1))+1:=by omega
   rw [e3,T10_succ,Int.mul_emod,Int.emod_emod,← Int.mul_emod]
  rw [e1,e2]
  exact ih (by omega) _ rfl
theorem refMod_ev {l:List Int}(hf:Figs l)(hl:l.length≤1000000){m:Int}(hm:1≤m∧m≤1000000000):Ev (fun k=>exergueref07_Mod.f k l m) (num l % m):=by
 refine Ev.of (k:=l.length+1) (fun k=>exergueref07_Mod.mono _ _ k) ?_
 unfold exergueref07_Mod.f
 rw [if_neg (by omega),w64 _ (by omega) (by omega)]
 have:=refMod_l0 hf hl hm l.length (Nat.le_refl _) _ rfl
 rw [List.drop_length,num_nil,Nat.sub_self,T10_zero] at this
 simpa using this
theorem refIn_l0 {l:List Int}(hf:Figs l)(hl:l.length≤19)(x y:Int)(hx : -9223372036854775808≤x∧x≤9223372036854775807)(hy : -9223372036854775808≤y∧y≤9223372036854775807)(n:Nat):∀ i:Nat,i+n=l.length→exergueref07_In.l0 (n+1) x y l (num (l.take i)) (i:Int)=some (inD l x y):=by
 have hT:T10 19=10000000000000000000:=by decide
 induction n with
 | zero=>
  intro i hi
  have hn:=num_lt hf
  have h19:=T10_le hl
  rw [exergueref07_In.l0,if_neg (by omega),List.take_of_length_le (by omega)]
  unfold inD
  by_cases h0:y≥0
  ·rw [if_pos h0,IntWalk.u64_in y (by omega)]
   by_cases h1:num l≤y
   ·rw [if_pos h1]
    by_cases h2:x<0
    · rw [if_pos h2,zC (show 0≤y∧(0≤x→x≤num l)∧num l≤y from ⟨h0,by omega,h1⟩)]
    rw [if_neg h2,IntWalk.u64_in x (by omega)]
    congr 1
    rw [decide_eq_decide]
    omega
   rw [if_neg h1,zD (by omega)]
  rw [if_neg h0,zD (by omega)]
 | succ n ih=>
  intro i hi
  have hd:=rd_figs hf i
  have ht:=num_lt (hf.take i)
  have hti:=T10_le (show (l.take i).length≤18 by rw [List.length_take];omega)
  have hT8:T10 18=1000000000000000000:=by decide
  rw [exergueref07_In.l0,if_pos (by omega),if_pos (by omega)]
  rw [IntWalk.u64_in (_ * 10) (by omega),IntWalk.u64_in (rd l i) (by omega),IntWalk.u64_in _ (by omega),w64 ((i:Int)+1) (by omega) (by omega)]
  have:=ih (i+1) (by omega)
  rw [take_succ_snoc l i (by omega),num_snoc] at this
  simpa using this
theorem refIn_ev {l:List Int}(hf:Figs l)(hl:l.length≤1000000)(x y:Int)(hx : -9223372036854775808≤x∧x≤9223372036854775807)(hy : -9223372036854775808≤y∧y≤9223372036854775807):Ev (fun k=>exergueref07_In.f k l x y) (inD l x y):=by
 unfold exergueref07_In.f
 refine Ev.bind (refBare_ev l (by omega)) ?_
 have hbf:=bareL_figs hf
 have hT:T10 19=10000000000000000000:=by decide
 by_cases h:((bareL l).length:Int)>19
 ·simp only [if_pos h]
  have:inD l x y=false:=by
   unfold inD
   rw [decide_eq_false_iff_not]
   rintro ⟨_,_,h1⟩
   rw [← bareL_num] at h1
   have h2:=bareL_bare l
   have f0:=rd_figs hbf 0
   rw [Int.natCast_zero] at f0
   rcases h2 with h2|h2
   · rw [h2] at h;simp at h
   have h3:=num_pos hbf (by omega) (by omega)
   have h4:=T10_le (show 19≤(bareL l).length - 1 by omega)
   omega
  rw [this]
  exact Ev.now _
 simp only [if_neg h]
 have e:inD l x y=inD (bareL l) x y:=by unfold inD;rw [bareL_num]
 rw [e]
 refine Ev.of (k:=(bareL l).length+1) (fun k=>exergueref07_In.mono_l k _ _ _ _ _) ?_
 have:=refIn_l0 hbf (by omega) x y hx hy (bareL l).length 0 (by omega)
 simpa [num_nil] using this
theorem ndL_step {n:Int}(h:0<n):ndL n=ndL (n / 10) ++ [n % 10]:=by
 unfold ndL
 rw [if_neg (by omega)]
 by_cases h1:n<10
 ·rw [if_pos (by omega),digsN_small (by omega)]
  simp;omega
 rw [if_neg (by omega),digsN_big (by omega)]
 have e1:n.toNat / 10=(n / 10).toNat:=by omega
 have e2:((n.toNat % 10:Nat):Int)=n % 10:=by omega
 rw [e1,e2]
theorem refNumber_l0 (m:Nat):∀ (n:Int) (acc:List Int),0≤n→n.toNat≤m→(acc.length:Int)+n≤1000000→Ev (fun k=>exergueref07_number.l0 k n acc) (ndL n ++ acc):=by
 induction m with
 | zero=>
  intro n acc h0 h1 _
  have:n=0:=by omega
  subst this
  refine Ev_shift ?_
  have q:¬ (0:Int)>0:=by omega
  simp only [exergueref07_number.l0,if_neg q]
  exact Ev.now _
 | succ m ih=>
  intro n acc h0 h1 h2
  by_cases hp:n>0
  ·refine Ev_shift ?_
   have e1:Int.tmod n 10 % 256=n % 10:=by rw [Int.tmod_eq_emod_of_nonneg h0];omega
   have e2:wrap64 (Int.tdiv n 10)=n / 10:=by rw [Int.tdiv_eq_ediv_of_nonneg h0,w64 _ (by omega) (by omega)]
   have q:([n % 10]:List Int).length+acc.length<140737488355328:=by simp;omega
   simp only [exergueref07_number.l0,if_pos hp,e1,e2,Option.bind_some,if_pos q]
   have:=ih (n / 10) ([n % 10] ++ acc) (by omega) (by omega) (by simp;omega)
   rw [ndL_step hp,List.append_assoc]
   exact this
  have:n=0:=by omega
  subst this
  refine Ev_shift ?_
  simp only [exergueref07_number.l0,if_neg hp]
  exact Ev.now _
theorem refNumber_ev {n:Int}(h0:0≤n)(h1:n≤1000000):Ev (fun k=>exergueref07_number.f k n) (ndL n):=by
 have:=refNumber_l0 n.toNat n [] h0 (Nat.le_refl _) (by simpa using h1)
 rw [List.append_nil] at this
 exact this
theorem refOperand_ev (i f:List Int)(w c:Int)(name:Int)(hf:f.length≤100000)(hw:0≤w∧w≤f.length)(hc:0≤c∧c≤1000):Ev (fun k=>exergueref07_Operand.f k i f w c name) (operandR i f w c name):=by
 have mk:∀ {g:Nat→Option (List Int)} {r:List Int},Ev g r→Ev (fun k=>(g k).bind fun t=>some (t,true)) (r,true):=fun h=>Ev.bind h (Ev.now _)
 unfold exergueref07_Operand.f operandR
 by_cases h1:name=110
 ·simp only [if_pos h1]
  by_cases h2:w>0
  · simp only [if_pos h2];exact Ev.now _
  simp only [if_neg h2];exact Ev.now _
 simp only [if_neg h1]
 by_cases h1:name=105
 · simp only [if_pos h1];exact Ev.now _
 simp only [if_neg h1]
 by_cases h1:name=118
 · simp only [if_pos h1];exact mk (refNumber_ev (by omega) (by omega))
 simp only [if_neg h1]
 by_cases h1:name=119
 · simp only [if_pos h1];exact mk (refNumber_ev (by omega) (by omega))
 simp only [if_neg h1]
 by_cases h1:name=102
 · simp only [if_pos h1];exact mk (refBare_ev f (by omega))
 simp only [if_neg h1]
 by_cases h1:name=116
 ·simp only [if_pos h1,if_pos hw.1,if_pos hw.2]
  exact mk (refBare_ev _ (by rw [List.length_take];omega))
 simp only [if_neg h1]
 by_cases h1:name=99
 · simp only [if_pos h1];exact mk (refNumber_ev (by omega) (by omega))
 simp only [if_neg h1]
 by_cases h1:name=101
 · simp only [if_pos h1];exact mk (refNumber_ev (by omega) (by omega))
 simp only [if_neg h1]
 exact Ev.now _
section
section
variable {s:ByteArray}(hs:s.size≤400)
include hs
theorem over_l0 (n:Nat):∀ i:Nat,i+n=s.size→Ev (fun k=>exergueref11_over.l0 k s (i:Int)) ((i+bl ((bytesOf s).drop i):Nat):Int):=by
 induction n with
 | zero=>
  intro i hi
  have q1:¬ ((i:Nat):Int)<(s.size:Int):=by omega
  have e:=run_end (p:=isBl) (s:=s) (k:=i) (by omega)
  change i+bl _=i at e
  refine Ev_shift ?_
  simp only [exergueref11_over.l0,if_neg q1,e]
  exact Ev.now _
 | succ n ih=>
  intro i hi
  have q1:((i:Nat):Int)<(s.size:Int):=by omega
  have q2:(0:Int)≤(i:Int):=by omega
  have wi:wrap64 ((i:Int)+1)=((i+1:Nat):Int):=by rw [w64 _ (by omega) (by omega)];omega
  refine Ev_shift ?_
  simp only [exergueref11_over.l0,if_pos q1,if_pos q2,wi]
  by_cases hb:bt s (i:Int)=32
  ·have e:=run_more (p:=isBl) (s:=s) (k:=i) (by omega) (by unfold isBl;simp [hb])
   change i+1+bl _=i+bl _ at e
   simp only [if_pos hb,← e]
   exact ih (i+1) (by omega)
  have e:=run_stop (p:=isBl) (s:=s) (k:=i) (by omega) (by unfold isBl;simpa using hb)
  change i+bl _=i at e
  simp only [if_neg hb,e]
  exact Ev.now _
theorem over_ev {a:Nat}(ha:a≤s.size):Ev (fun k=>exergueref11_over.f k s (a:Int)) ((a+bl ((bytesOf s).drop a):Nat):Int):=by
 unfold exergueref11_over.f
 exact over_l0 hs (s.size - a) a (by omega)
theorem word_l0 (n:Nat):∀ i:Nat,i+n=s.size→Ev (fun k=>exergueref11_word.l0 k s (i:Int)) ((i+runL isLo ((bytesOf s).drop i):Nat):Int):=by
 induction n with
 | zero=>
  intro i hi
  have q1:¬ ((i:Nat):Int)<(s.size:Int):=by omega
  have e:=run_end (p:=isLo) (s:=s) (k:=i) (by omega)
  refine Ev_shift ?_
  simp only [exergueref11_word.l0,if_neg q1,e]
  exact Ev.now _
 | succ n ih=>
  intro i hi
  have q1:((i:Nat):Int)<(s.size:Int):=by omega
  have q2:(0:Int)≤(i:Int):=by omega
  have wi:wrap64 ((i:Int)+1)=((i+1:Nat):Int):=by rw [w64 _ (by omega) (by omega)];omega
  refine Ev_shift ?_
  simp only [exergueref11_word.l0,if_pos q1,if_pos q2,wi]
  by_cases h1:bt s (i:Int)≥97
  ·by_cases h2:bt s (i:Int)≤122
   ·have e:=run_more (p:=isLo) (s:=s) (k:=i) (by omega) (by unfold isLo;simp;omega)
    simp only [if_pos h1,if_pos h2,← e]
    exact ih (i+1) (by omega)
   have e:=run_stop (p:=isLo) (s:=s) (k:=i) (by omega) (by unfold isLo;simp;omega)
   simp only [if_pos h1,if_neg h2,e]
   exact Ev.now _
  have e:=run_stop (p:=isLo) (s:=s) (k:=i) (by omega) (by unfold isLo;simp;omega)
  simp only [if_neg h1,e]
  exact Ev.now _
theorem word_ev {a:Nat}(ha:a≤s.size):Ev (fun k=>exergueref11_word.f k s (a:Int)) ((a+runL isLo ((bytesOf s).drop a):Nat):Int):=by
 unfold exergueref11_word.f
 exact word_l0 hs (s.size - a) a (by omega)
theorem sign_f {a:Nat}(ha:a≤s.size){x:ByteArray}(hx:x.size≤10):exergueref11_sign.f s (a:Int) x=some ((bytesOf x).isPrefixOf ((bytesOf s).drop a)):=by
 unfold exergueref11_sign.f
 have w1:wrap64 ((a:Int)+(x.size:Int))=((a+x.size:Nat):Int):=by rw [w64 _ (by omega) (by omega)];omega
 rw [w1]
 have hlx:=bytesOf_length x
 have hls:=bytesOf_length s
 by_cases h:a+x.size≤s.size
 ·rw [if_pos (by omega),if_pos (by omega),if_pos (by omega)]
  congr 1
  rw [bytes_ext2,Bool.eq_iff_iff]
  simp only [decide_eq_true_eq,List.isPrefixOf_iff_prefix,List.prefix_iff_eq_take]
  have e:bytesOf (s.extract ((a:Nat):Int).toNat ((a+x.size:Nat):Int).toNat)=((bytesOf s).drop a).take (bytesOf x).length:=by
   rw [bytes_cut,hlx]
   congr 1 <;> omega
  rw [← e]
  exact ⟨fun h=>by rw [h],fun h=>bytesInj h.symm⟩
 rw [if_neg (by omega)]
 congr 1
 symm
 rw [Bool.eq_false_iff]
 intro hp
 have:=prefix_len hp
 rw [List.length_drop] at this
 omega
omit hs in
theorem opB (c:Int):exergueref11_op.f c=some (isOp c):=by
 unfold exergueref11_op.f isOp
 repeat' (split;· rename_i h;subst h;rfl)
 rename_i h1 h2 h3 h4 h5 h6 h7
 congr 1
 simp [h1,h2,h3,h4,h5,h6,h7]
omit hs in
theorem decv_snoc (l:List Int)(c:Int):decv (l ++ [c])=decv l * 10+(c - 48):=by unfold decv;rw [List.foldl_append];rfl
def numFin (s:ByteArray)(least:Int)(from_ d:Nat)(v:Int):Int×Int:=
  if d=0∨9<d∨(bt s (from_:Int)=48∧1<d)∨v<least then (-1,(from_:Int)) else (v,((from_+d:Nat):Int))
theorem number_end (least:Int)(from_ d:Nat)(v:Int)(hd:from_+d≤s.size):Ev (fun k=>exergueref11_number.j1 k s least (from_:Int) ((from_+d:Nat):Int) v false) (numFin s least from_ d v):=by
 have w1:wrap64 (((from_+d:Nat):Int) - (from_:Int))=(d:Int):=by rw [w64 _ (by omega) (by omega)];omega
 refine Ev_shift ?_
 simp only [exergueref11_number.j1,Bool.false_eq_true,if_false,w1]
 unfold numFin
 by_cases h0:d=0
 ·have q:((from_+d:Nat):Int)=(from_:Int):=by omega
  simp only [if_pos q,if_pos (show d=0∨9<d∨(bt s (from_:Int)=48∧1<d)∨v<least from .inl h0)]
  exact Ev.now _
 have q:¬ ((from_+d:Nat):Int)=(from_:Int):=by omega
 simp only [if_neg q]
 by_cases h9:9<d
 ·have q:(d:Int)>9:=by omega
  simp only [if_pos q,if_pos (show d=0∨9<d∨(bt s (from_:Int)=48∧1<d)∨v<least from .inr (.inl h9))]
  exact Ev.now _
 have q:¬ (d:Int)>9:=by omega
 have q2:(0:Int)≤(from_:Int):=by omega
 have q3:(from_:Int)<(s.size:Int):=by omega
 simp only [if_neg q,if_pos q2,if_pos q3]
 by_cases hb:bt s (from_:Int)=48
 ·simp only [if_pos hb]
  by_cases h1:1<d
  ·have q:(d:Int)>1:=by omega
   simp only [if_pos q,if_pos (show d=0∨9<d∨(bt s (from_:Int)=48∧1<d)∨v<least from .inr (.inr (.inl ⟨hb,h1⟩)))]
   exact Ev.now _
  have q:¬ (d:Int)>1:=by omega
  simp only [if_neg q]
  by_cases hl:v<least
  ·simp only [if_pos hl,if_pos (show d=0∨9<d∨(bt s (from_:Int)=48∧1<d)∨v<least from .inr (.inr (.inr hl)))]
   exact Ev.now _
  simp only [if_neg hl,if_neg (show ¬ (d=0∨9<d∨(bt s (from_:Int)=48∧1<d)∨v<least) from by rintro (h|h|h|h) <;> first|omega|exact h1 h.2)]
  exact Ev.now _
 simp only [if_neg hb]
 by_cases hl:v<least
 ·simp only [if_pos hl,if_pos (show d=0∨9<d∨(bt s (from_:Int)=48∧1<d)∨v<least from .inr (.inr (.inr hl)))]
  exact Ev.now _
 simp only [if_neg hl,if_neg (show ¬ (d=0∨9<d∨(bt s (from_:Int)=48∧1<d)∨v<least) from by rintro (h|h|h|h) <;> first|omega|exact hb h.1)]
 exact Ev.now _
theorem number_l0 (least:Int)(from_:Nat)(n:Nat):∀ j:Nat,runL isDi ((bytesOf s).drop (from_+j))=n→from_+j≤s.size→(∀ c ∈ ((bytesOf s).drop from_).take j,isDi c=true) →
    Ev (fun k=>exergueref11_number.l0 k s least (from_:Int) ((from_+j:Nat):Int) (decv (((bytesOf s).drop from_).take (min j 9)))) (numFin s least from_ (j+n) (decv (((bytesOf s).drop from_).take (min (j+n) 9)))):=by
 have hls:=bytesOf_length s
 induction n with
 | zero=>
  intro j hn hj hd
  refine Ev_shift ?_
  have fin:=number_end hs least from_ j (decv (((bytesOf s).drop from_).take (min j 9))) hj
  rw [Nat.add_zero]
  by_cases hlt:from_+j<s.size
  rotate_left
  ·have q1:¬ ((from_+j:Nat):Int)<(s.size:Int):=by omega
   simp only [exergueref11_number.l0,if_neg q1]
   exact fin
  have q1:((from_+j:Nat):Int)<(s.size:Int):=by omega
  have q2:(0:Int)≤((from_+j:Nat):Int):=by omega
  have hnd:isDi (bt s ((from_+j:Nat):Int))=false:=by
   rw [Bool.eq_false_iff]
   intro h
   have:=run_more (p:=isDi) hlt h
   omega
  simp only [exergueref11_number.l0,if_pos q1,if_pos q2]
  by_cases h1:bt s ((from_+j:Nat):Int)≥48
  ·have h2:decide (bt s ((from_+j:Nat):Int)≤57)=false:=by
    unfold isDi at hnd
    rw [zC (show (48:Int)≤bt s ((from_+j:Nat):Int) from h1),Bool.true_and] at hnd
    exact hnd
   simp only [if_pos h1,h2]
   exact fin
  simp only [if_neg h1]
  exact fin
 | succ n ih=>
  intro j hn hj hd
  have hlt:from_+j<s.size:=by
   apply Classical.byContradiction
   intro h
   have:=run_end (p:=isDi) (s:=s) h
   omega
  have hdi:isDi (bt s ((from_+j:Nat):Int))=true:=by
   rw [← Bool.not_eq_false]
   intro h
   have:=run_stop (p:=isDi) hlt h
   omega
  have hm:=run_more (p:=isDi) hlt hdi
  have hnn:runL isDi ((bytesOf s).drop (from_+(j+1)))=n:=by rw [show from_+(j+1)=from_+j+1 by omega];omega
  have q1:((from_+j:Nat):Int)<(s.size:Int):=by omega
  have q2:(0:Int)≤((from_+j:Nat):Int):=by omega
  have wj:wrap64 (((from_+j:Nat):Int)+1)=((from_+(j+1):Nat):Int):=by rw [w64 _ (by omega) (by omega)];omega
  have wd:wrap64 (((from_+j:Nat):Int) - (from_:Int))=(j:Int):=by rw [w64 _ (by omega) (by omega)];omega
  have h48:bt s ((from_+j:Nat):Int)≥48∧bt s ((from_+j:Nat):Int)≤57:=by
   unfold isDi at hdi
   rw [Bool.and_eq_true,decide_eq_true_eq,decide_eq_true_eq] at hdi
   exact hdi
  have hul:j<((bytesOf s).drop from_).length:=by rw [List.length_drop];omega
  have hel:((bytesOf s).drop from_)[j]=bt s ((from_+j:Nat):Int):=by
   have h1:=drop_bt s (from_+j) hlt
   have h2:((bytesOf s).drop from_).drop j=(bytesOf s).drop (from_+j):=List.drop_drop ..
   rw [← h2,List.drop_eq_getElem_cons hul] at h1
   exact (List.cons.inj h1).1
  have htk:((bytesOf s).drop from_).take (j+1)=((bytesOf s).drop from_).take j ++ [bt s ((from_+j:Nat):Int)]:=by rw [List.take_succ_eq_append_getElem hul,hel]
  have hd2:∀ c ∈ ((bytesOf s).drop from_).take (j+1),isDi c=true:=by
   intro c hc
   rw [htk] at hc
   rcases List.mem_append.1 hc with h|h
   · exact hd c h
   rw [List.mem_singleton.1 h];exact hdi
  have hnext:=ih (j+1) hnn (by omega) hd2
  rw [show j+1+n=j+(n+1) by omega] at hnext
  refine Ev_shift ?_
  simp only [exergueref11_number.l0,if_pos q1,if_pos q2,if_pos h48.1,zC h48.2]
  refine Ev_shift ?_
  simp only [exergueref11_number.j1,if_true,wd,wj]
  by_cases h9:j<9
  ·have q3:(j:Int)<9:=by omega
   have hdv:=decv_lt (l:=((bytesOf s).drop from_).take j) hd
   have hT:T10 (((bytesOf s).drop from_).take j).length≤T10 8:=T10_le (by rw [List.length_take];omega)
   have hT8:T10 8=100000000:=by decide
   have e1:min j 9=j:=by omega
   have e2:min (j+1) 9=j+1:=by omega
   rw [e2,htk,decv_snoc] at hnext
   rw [e1]
   generalize decv (((bytesOf s).drop from_).take j)=v at *
   have wv:wrap64 (wrap64 (v * 10)+(bt s ((from_+j:Nat):Int) - 48) % 256)=v * 10+(bt s ((from_+j:Nat):Int) - 48):=by
    rw [w64 (v * 10) (by omega) (by omega),w64 _ (by omega) (by omega)];omega
   simp only [if_pos q3,if_pos q2,if_pos q1,wv]
   exact hnext
  have q3:¬ (j:Int)<9:=by omega
  have e1:min j 9=9:=by omega
  have e2:min (j+1) 9=9:=by omega
  rw [e2] at hnext
  rw [e1]
  simp only [if_neg q3]
  exact hnext
def numRes (a:Nat):Option Int×Nat→Int×Int
  | (none,n)=>(-1,((a+n:Nat):Int))
  | (some v,n)=>(v,((a+n:Nat):Int))
theorem number_ev11 (least:Int){a:Nat}(ha:a≤s.size):Ev (fun k=>exergueref11_number.f k s (a:Int) least) (numRes a (numP least ((bytesOf s).drop a))):=by
 have hA:=run_size isBl s a ha
 change a+bl ((bytesOf s).drop a)≤s.size at hA
 unfold exergueref11_number.f
 refine Ev.bind (over_ev hs ha) ?_
 have h:=number_l0 hs least (a+bl ((bytesOf s).drop a)) _ 0 rfl (by omega) (by simp)
 simp only [Nat.add_zero,Nat.zero_add,Nat.zero_min,List.take_zero] at h
 have e:numRes a (numP least ((bytesOf s).drop a))=numFin s least (a+bl ((bytesOf s).drop a)) (runL isDi ((bytesOf s).drop (a+bl ((bytesOf s).drop a)))) (decv (((bytesOf s).drop (a+bl ((bytesOf s).drop a))).take (min (runL isDi ((bytesOf s).drop (a+bl ((bytesOf s).drop a)))) 9))):=by
  unfold numP numFin
  rw [bl_drop]
  obtain ⟨A,hAA⟩:∃ A,a+bl ((bytesOf s).drop a)=A:=⟨_,rfl⟩
  simp only [hAA] at hA ⊢
  have hrd:rd ((bytesOf s).drop A) 0=if A<s.size then bt s (A:Int) else 0:=by
   by_cases hl:A<s.size
   · rw [if_pos hl,drop_bt s A hl];rfl
   rw [if_neg hl,List.drop_of_length_le (by rw [bytesOf_length];omega)];rfl
  obtain ⟨d,hdd⟩:∃ d,runL isDi ((bytesOf s).drop A)=d:=⟨_,rfl⟩
  simp only [hdd]
  have hcond:(d=0∨9<d∨(rd ((bytesOf s).drop A) 0=48∧1<d)∨decv (((bytesOf s).drop A).take d)<least) ↔ (d=0∨9<d∨(bt s (A:Int)=48∧1<d)∨decv (((bytesOf s).drop A).take (min d 9))<least):=by
   by_cases h0:d=0
   · simp [h0]
   by_cases h9:9<d
   · simp [h9]
   have hl:A<s.size:=by
    apply Classical.byContradiction
    intro hl
    have:=run_end (p:=isDi) (s:=s) hl
    omega
   rw [hrd,if_pos hl,show min d 9=d by omega]
  by_cases hc:d=0∨9<d∨(rd ((bytesOf s).drop A) 0=48∧1<d)∨decv (((bytesOf s).drop A).take d)<least
  ·rw [if_pos (hcond.1 hc),if_pos hc]
   show ((-1:Int),((a+bl ((bytesOf s).drop a):Nat):Int))=_
   rw [hAA]
  rw [if_neg (fun h=>hc (hcond.2 h)),if_neg hc]
  have h9:min d 9=d:=by
   have:¬ 9<d:=fun h=>hc (.inr (.inl h))
   omega
  show (decv (((bytesOf s).drop A).take d),((a+(bl ((bytesOf s).drop a)+d):Nat):Int))=_
  rw [h9,← Nat.add_assoc,hAA]
 rw [e]
 exact h
theorem number_none {least:Int}{a n:Nat}(ha:a≤s.size)(h:numP least ((bytesOf s).drop a)=(none,n)):Ev (fun k=>exergueref11_number.f k s (a:Int) least) (-1,((a+n:Nat):Int)):=by
 have:=number_ev11 hs least ha
 rwa [h] at this
theorem number_some {least v:Int}{a n:Nat}(ha:a≤s.size)(h:numP least ((bytesOf s).drop a)=(some v,n)):Ev (fun k=>exergueref11_number.f k s (a:Int) least) (v,((a+n:Nat):Int)):=by
 have:=number_ev11 hs least ha
 rwa [h] at this
end
end
end Go.Proofs.YtgfajgkjbckkgaaGreatDoor.PZ
end
section
noncomputable section
namespace Go.Proofs.YtgfajgkjbckkgaaGreatDoor.PZ
open Go.RowKit Go.Proofs.YtgfajgkjbckkgaaGreatDoorW.PrintWords Go.Proofs.YtgfajgkjbckkgaaGreatDoorW.PrintLast Go.Proofs.YtgfajgkjbckkgaaGreatDoorW.PrintMore
attribute [local go_sem] max2_int min2_int max_two min_two max_three min_three max_four min_four   -- for this text's walks alone
def exergueref12_Of.l0:Nat→List (S65)→Int→List Int→List Int→Int→Int→Option (Int)
 | 0,_,_,_,_,_,_=>none
 | k+1,x0,x5,ay,az,aA,aB=>if x5<(x0.length:Int) then (if 0≤x5 then ((exergueref11_Holds.f k ((rd_T65 x0 x5).f1) ay az aA aB).bind fun aK=>(if aK=true then (some ((rd_T65 x0 x5).f0)) else (exergueref12_Of.l0 k x0 (wrap64 (x5+1)) ay az aA aB))) else (none)) else (some 0)
def exergueref12_Of.f (k:Nat)(l0:List (S65))(ae:List Int)(af:List Int)(ag:Int)(ah:Int):Option (Int):=exergueref12_Of.l0 k l0 0 ae af ag ah
theorem exergueref12_Of.mono_l:∀ k,(∀ y0 y1 y2 y3 y4 y5,LeO (exergueref12_Of.l0 k y0 y1 y2 y3 y4 y5) (exergueref12_Of.l0 (k+1) y0 y1 y2 y3 y4 y5))
 | 0=>fun _ _ _ _ _ _ r h=>by simp [exergueref12_Of.l0] at h
 | k+1=>by
  have ih0:=exergueref12_Of.mono_l k
  ·intro y0 y1 y2 y3 y4 y5
   unfold exergueref12_Of.l0
   repeat' first|(with_reducible first|apply ih0|apply exergueref11_Holds.mono|apply LeO.refl|apply LeO.none|refine LeO.ite ?_ ?_|refine LeO.bind ?_ (fun _=>?_))|apply ih0|apply exergueref11_Holds.mono|apply LeO.none
theorem exergueref12_Of.mono:∀ a0 a1 a2 a3 a4 k,LeO (exergueref12_Of.f k a0 a1 a2 a3 a4) (exergueref12_Of.f (k+1) a0 a1 a2 a3 a4):=by
 intro a0 a1 a2 a3 a4 k
 have ih0:=exergueref12_Of.mono_l k
 unfold exergueref12_Of.f
 repeat' first|(with_reducible first|apply ih0|apply exergueref11_Holds.mono|apply LeO.refl|apply LeO.none|refine LeO.ite ?_ ?_|refine LeO.bind ?_ (fun _=>?_))|apply ih0|apply exergueref11_Holds.mono|apply LeO.none
def exergueref12_Of.T4:Bool×List (List Nat×List Nat):=(true,[([],[]),([],[]),([0,1],[0,1]),([2],[2]),([3],[3]),([],[]),([4,5],[4,5]),([6,6,0,1,2,3,4,5,6],[6])])
def exergueref12_Of.B4:List Nat:=[0,0,3,7,15,0,63,127]
theorem exergueref12_Of.tab4:rtab .any (opsOf Tryz.f28 4)=exergueref12_Of.T4:=by kernel_rfl
theorem exergueref12_Of.bits4:waitsOk exergueref12_Of.T4.2 exergueref12_Of.B4=true:=by kernel_rfl
set_option maxHeartbeats 8000000 in
set_option maxRecDepth 100000 in
theorem exergueref12_Of.calls (k:Nat)(A0:Option Addr)(c0:Nat)(l0:List (S65))(aq:Option Addr)(ar:Nat)(ae:List Int)(au:Option Addr)(av:Nat)(af:List Int)(ag:Int)(ah:Int)(r:Int)(w:World)(hr0:Kd.C k65 w A0 l0.length l0)(hc0:l0.length≤c0)(aC:Kd.C (Kd.int .u8) w aq ae.length ae)(aD:ae.length≤ar)(aE:Kd.C (Kd.int .u8) w au af.length af)(aF:af.length≤av)(h:exergueref12_Of.f k l0 ae af ag ah=some r) :
  Calls Tryz.prog 28 #[.slice A0 l0.length c0,.agg #[.slice aq ae.length ar,.slice au af.length av,.int .i64 ag,.int .i64 ah]] w fun e w'=>e = .returned (.int .i64 r)∧Below w.heap.size w w':=by
 have hu36:=Tryz.underlying36
 have HR0:=zS hr0
 have HC0:=zS hc0
 clear hr0 hc0
 have aG:=zS aC
 have aH:=zS aD
 clear aC aD
 have aI:=zS aE
 have aJ:=zS aF
 clear aE aF
 have HB:=zS (Below.refl w.heap.size w)
 have H:(exergueref12_Of.l0 k l0 0 ae af ag ah)=some r:=h
 clear h
 have H':=zS H
 clear H
 go_enter Tryz.func28,Tryz.ntmps28
 go_wp2_with (first|((with_reducible refine gate_dst (N:=3) rfl ?_);refine box_event ?hg (N:=3) ?hd (cs:=#[.slice aq ae.length ar,.slice au af.length av,.int .i64 ag,.int .i64 ah]) (t:=36) ?hr ?_;(case hd=>rfl);(case hg=>rfl);(case hr=>first|(go_simp;done)|(go_simp;rfl));intro ai hg w3 hbox hb;have aa:=zS (hbox);have aV:=bg HB hg;replace HB:=bs HB hb;clear hb hbox hg))
 go_loopg [5] k (fun kq v5 w'=>∃ (ac:Int),v5 = .int .i64 ac∧Sd (exergueref12_Of.l0 kq l0 ac ae af ag ah=some r)∧Sd (kq≤k)∧Sd (w'.heap[ai]?=some (.cells #[(.slice aq ae.length ar),(.slice au af.length av),.int .i64 ag,.int .i64 ah] 36 (0,0)))∧Sd (Below w.heap.size w w'))
 case atStart=>exact ⟨(0),(by first|rfl|(simp;done)|(simp [*];done)),H',⟨Nat.le_refl _⟩,⟨ko aa⟩,⟨bQ HB⟩⟩
 case round=>
  clear H'
  try clear c1
  try clear c2
  try clear p2
  obtain ⟨ac,rfl,HA,HK1,aa,HB⟩:=hrel
  cases gk with
  | zero=>exact absurd HA.out (by simp [exergueref12_Of.l0])
  | succ k1=>
   have H:=HA.out
   clear HA
   simp only [exergueref12_Of.l0] at H
   by_cases c4:ac<(l0.length:Int)
   rotate_left
   ·rw [if_neg c4] at H
    have aR:=zD c4
    clear c4
    obtain rfl:=zE H
    go_wp2
    go_ret
    exact ⟨by first|rfl|(simp <;> rfl)|(simp [*] <;> rfl),bQ HB⟩
   rw [if_pos c4] at H
   have aR:=zC c4
   clear c4
   by_cases c5:0≤ac
   rotate_left
   ·rw [if_neg c5] at H
    exact absurd H (by simp)
   rw [if_pos c5] at H
   have aW:=zC c5
   clear c5
   replace H:=Option.bind_eq_some_iff.mp H
   obtain ⟨aK,A60,H⟩:=H
   try dsimp only at H
   have A6:=zS A60
   clear A60
   by_cases c7:aK=true
   ·subst c7
    rw [if_pos rfl] at H
    obtain rfl:=zE H
    try go_wp2
    replace aa:=zS (blk_drew aa.out)
    replace HB:=zS (below_drew1 HB.out)
    have aw:0≤(ac:Int):=zB (by first|(with_reducible assumption)|assumption)
    have ax:ac<(l0.length:Int):=zB (by first|(with_reducible assumption)|assumption)
    obtain ⟨ak,am,an,aL,ad,ab,hl504_1,hi504_1⟩:=at_T65 HR0.out ac aw ax
    have hw504_1:=ab
    have hw504_0:=ad
    cases aL
    replace ad:=(HB.out.cell (World.block_lt_of_cell? w _ ad)).trans ad
    replace ab:=(HB.out.cell (World.block_lt_of_cell? w _ ab)).trans ab
    have aj:=zS hi504_1
    have ao:=zS hl504_1
    clear hi504_1 hl504_1
    replace aw:=eq_true aw
    replace ax:=eq_true ax
    refine start_ (n:=8) (S:=fun w'=>w'.cell? ⟨ai,0,none⟩=some (.slice aq ae.length ar)∧w'.cell? ⟨ai,1,none⟩=some (.slice au af.length av)∧w'.cell? ⟨ai,2,none⟩=some (.int .i64 ag)∧w'.cell? ⟨ai,3,none⟩=some (.int .i64 ah)∧w'.cell? (ak.add ((ac).toNat * 2))=some (.int .i64 ((rd_T65 l0 ac).f0))∧w'.cell? ⟨(ak.add ((ac).toNat * 2)).block,(ak.add ((ac).toNat * 2)).off+1,none⟩=some (.slice am ((rd_T65 l0 ac).f1).length an)) (ds:=[]) (bZ 8 0) (by kernel_rfl) rfl (by kernel_rfl) ⟨(blk_cell aa.out 0).trans rfl,(blk_cell aa.out 1).trans rfl,(blk_cell aa.out 2).trans rfl,(blk_cell aa.out 3).trans rfl,((HB.out.cell (World.block_lt_of_cell? w _ hw504_0)).trans hw504_0),((HB.out.cell (World.block_lt_of_cell? w _ hw504_1)).trans hw504_1)⟩ (fun hHeld=>?_);refine with_tabW exergueref12_Of.tab4 exergueref12_Of.bits4 (fun HT_ HW_=>?_)
    generalize wr.drew=w8 at aa HB aj ad ab hHeld ⊢
    refine q1 0 13 1 HT_ ?_
    refine q1 1 14 3 HT_ ?_
    refine q1 2 15 7 HT_ ?_
    refine q1 3 16 15 HT_ ?_
    refine q2 4 17 31 HT_ HW_ hHeld ?_ (hy:=by rintro w' ⟨s0,s1,s2,s3,s4,s5⟩;go_simp;with_reducible rfl)
    refine q2 5 18 63 HT_ HW_ hHeld ?_ (hy:=by rintro w' ⟨s0,s1,s2,s3,s4,s5⟩;go_simp;with_reducible rfl)
    refine one_ (i:=6) (N:=some 19) (bZ 8 127) rfl rfl (one_of HT_.out (by kernel_rfl)) (by decide) (fun K hK=>?_)
    refine goes_ Tryz.func38 (by kernel_rfl) rfl #[.slice am ((rd_T65 l0 ac).f1).length an,.agg #[.slice aq ae.length ar,.slice au af.length av,.int .i64 ag,.int .i64 ah]] (by rfl) rfl rfl (by (try simp only [mA,mB,mC]);first|done|rfl|(simp only [lD,lT];rfl)) ?_
    with_reducible refine (exergueref11_Holds.calls k1 _ _ ((rd_T65 l0 ac).f1) _ _ ae _ _ af ag ah true _ ?side1 ?side2 ?side3 ?side4 ?side5 ?side6 A6.out).mono ?_
    (case side1=>exact Kd.C_below aj.out (bQ HB))
    (case side2=>exact ao.out)
    (case side3=>exact Kd.C_below aG.out (bQ HB))
    (case side4=>exact aH.out)
    (case side5=>exact Kd.C_below aI.out (bQ HB))
    (case side6=>exact aJ.out)
    rintro e w9 ⟨rfl,hb⟩
    refine ⟨_,rfl,?_⟩
    replace aa:=kb aa hb
    replace HB:=bs HB hb
    (try clear hb)
    (try clear hb2)
    (try clear hk)
    (try clear hi)
    refine hK.out _ _ ⟨(blk_cell aa.out 0).trans rfl,(blk_cell aa.out 1).trans rfl,(blk_cell aa.out 2).trans rfl,(blk_cell aa.out 3).trans rfl,((HB.out.cell (World.block_lt_of_cell? w _ hw504_0)).trans hw504_0),((HB.out.cell (World.block_lt_of_cell? w _ hw504_1)).trans hw504_1)⟩ (fun hHeld=>?_)
    clear hK K
    refine norm_ (a':=?_) ?_ ?_
    rotate_left
    ·show Act.put _ (some 19) _=_
     simp only [Act.put,sA,sB,sC,i64_w,i32_w]
     rfl
    refine q1 7 6 255 HT_ ?_
    refine done_ (done_of HT_.out (by kernel_rfl)) ?_
    have aM:0≤(ac:Int):=zB (by first|(with_reducible assumption)|assumption)
    have aN:ac<(l0.length:Int):=zB (by first|(with_reducible assumption)|assumption)
    obtain ⟨aO,aS,aT,aU,ap,al,hl506_1,hi506_1⟩:=at_T65 HR0.out ac aM aN
    obtain rfl:ak=aO:=(by injection aU)
    try (have ea_:=zE (ab.symm.trans al);injection ea_ with ea_ en_ ec_;subst ea_;subst ec_;clear en_)
    replace ap:=(HB.out.cell (World.block_lt_of_cell? w _ ap)).trans ap
    replace al:=(HB.out.cell (World.block_lt_of_cell? w _ al)).trans al
    have aP:=zS hi506_1
    have aQ:=zS hl506_1
    clear hi506_1 hl506_1
    replace aM:=eq_true aM
    replace aN:=eq_true aN
    try go_wp2
    go_ret
    exact ⟨by first|rfl|(simp <;> rfl)|(simp [*] <;> rfl),bQ HB⟩
   replace c7:=Bool.eq_false_iff.mpr c7
   subst c7
   rw [if_neg (show ¬ (false=true) by decide)] at H
   have H':=zS H
   clear H
   try go_wp2
   replace aa:=zS (blk_drew aa.out)
   replace HB:=zS (below_drew1 HB.out)
   have aw:0≤(ac:Int):=zB (by first|(with_reducible assumption)|assumption)
   have ax:ac<(l0.length:Int):=zB (by first|(with_reducible assumption)|assumption)
   obtain ⟨ak,am,an,aL,ad,ab,hl504_1,hi504_1⟩:=at_T65 HR0.out ac aw ax
   have hw504_1:=ab
   have hw504_0:=ad
   cases aL
   replace ad:=(HB.out.cell (World.block_lt_of_cell? w _ ad)).trans ad
   replace ab:=(HB.out.cell (World.block_lt_of_cell? w _ ab)).trans ab
   have aj:=zS hi504_1
   have ao:=zS hl504_1
   clear hi504_1 hl504_1
   replace aw:=eq_true aw
   replace ax:=eq_true ax
   refine start_ (n:=8) (S:=fun w'=>w'.cell? ⟨ai,0,none⟩=some (.slice aq ae.length ar)∧w'.cell? ⟨ai,1,none⟩=some (.slice au af.length av)∧w'.cell? ⟨ai,2,none⟩=some (.int .i64 ag)∧w'.cell? ⟨ai,3,none⟩=some (.int .i64 ah)∧w'.cell? (ak.add ((ac).toNat * 2))=some (.int .i64 ((rd_T65 l0 ac).f0))∧w'.cell? ⟨(ak.add ((ac).toNat * 2)).block,(ak.add ((ac).toNat * 2)).off+1,none⟩=some (.slice am ((rd_T65 l0 ac).f1).length an)) (ds:=[]) (bZ 8 0) (by kernel_rfl) rfl (by kernel_rfl) ⟨(blk_cell aa.out 0).trans rfl,(blk_cell aa.out 1).trans rfl,(blk_cell aa.out 2).trans rfl,(blk_cell aa.out 3).trans rfl,((HB.out.cell (World.block_lt_of_cell? w _ hw504_0)).trans hw504_0),((HB.out.cell (World.block_lt_of_cell? w _ hw504_1)).trans hw504_1)⟩ (fun hHeld=>?_);refine with_tabW exergueref12_Of.tab4 exergueref12_Of.bits4 (fun HT_ HW_=>?_)
   generalize wr.drew=w10 at aa HB aj ad ab hHeld ⊢
   refine q1 0 13 1 HT_ ?_
   refine q1 1 14 3 HT_ ?_
   refine q1 2 15 7 HT_ ?_
   refine q1 3 16 15 HT_ ?_
   refine q2 4 17 31 HT_ HW_ hHeld ?_ (hy:=by rintro w' ⟨s0,s1,s2,s3,s4,s5⟩;go_simp;with_reducible rfl)
   refine q2 5 18 63 HT_ HW_ hHeld ?_ (hy:=by rintro w' ⟨s0,s1,s2,s3,s4,s5⟩;go_simp;with_reducible rfl)
   refine one_ (i:=6) (N:=some 19) (bZ 8 127) rfl rfl (one_of HT_.out (by kernel_rfl)) (by decide) (fun K hK=>?_)
   refine goes_ Tryz.func38 (by kernel_rfl) rfl #[.slice am ((rd_T65 l0 ac).f1).length an,.agg #[.slice aq ae.length ar,.slice au af.length av,.int .i64 ag,.int .i64 ah]] (by rfl) rfl rfl (by (try simp only [mA,mB,mC]);first|done|rfl|(simp only [lD,lT];rfl)) ?_
   with_reducible refine (exergueref11_Holds.calls k1 _ _ ((rd_T65 l0 ac).f1) _ _ ae _ _ af ag ah false _ ?side1 ?side2 ?side3 ?side4 ?side5 ?side6 A6.out).mono ?_
   (case side1=>exact Kd.C_below aj.out (bQ HB))
   (case side2=>exact ao.out)
   (case side3=>exact Kd.C_below aG.out (bQ HB))
   (case side4=>exact aH.out)
   (case side5=>exact Kd.C_below aI.out (bQ HB))
   (case side6=>exact aJ.out)
   rintro e w11 ⟨rfl,hb⟩
   refine ⟨_,rfl,?_⟩
   replace aa:=kb aa hb
   replace HB:=bs HB hb
   (try clear hb)
   (try clear hb2)
   (try clear hk)
   (try clear hi)
   refine hK.out _ _ ⟨(blk_cell aa.out 0).trans rfl,(blk_cell aa.out 1).trans rfl,(blk_cell aa.out 2).trans rfl,(blk_cell aa.out 3).trans rfl,((HB.out.cell (World.block_lt_of_cell? w _ hw504_0)).trans hw504_0),((HB.out.cell (World.block_lt_of_cell? w _ hw504_1)).trans hw504_1)⟩ (fun hHeld=>?_)
   clear hK K
   refine norm_ (a':=?_) ?_ ?_
   rotate_left
   ·show Act.put _ (some 19) _=_
    simp only [Act.put,sA,sB,sC,i64_w,i32_w]
    rfl
   refine q1 7 6 255 HT_ ?_
   refine done_ (done_of HT_.out (by kernel_rfl)) ?_
   try go_wp2
   go_roundg k1
   case measure=>have:=HK1.out;omega
   case rel=>exact ⟨(wrap64 (ac+1)),(by first|rfl|(simp;done)|(simp [*];done)),H',⟨by have:=HK1.out;omega⟩,⟨ko aa⟩,⟨bQ HB⟩⟩
end Go.Proofs.YtgfajgkjbckkgaaGreatDoor.PZ
end
end
