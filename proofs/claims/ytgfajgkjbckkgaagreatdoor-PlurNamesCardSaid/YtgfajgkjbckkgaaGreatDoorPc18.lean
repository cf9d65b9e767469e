/- Texts of this seat, joined. Conditions: none beyond each statement's own. -/
import Derived.Test.YtgfajgkjbckkgaaGreatDoorPc17
import Derived.Test.YtgfajgkjbckkgaaGreatDoorPc05
import Derived.Handy
set_option linter.all false
section
set_option maxRecDepth 100000
namespace Go.Proofs.YtgfajgkjbckkgaaGreatDoor.PZ
open Go.RowKit Go.Proofs.YtgfajgkjbckkgaaGreatDoorW.PrintWords Go.Proofs.YtgfajgkjbckkgaaGreatDoorW.PrintLast
section
structure LenOk (c:List (List Rl)):Prop where
  lc:c.length≤140737488355328
  lr:∀ row ∈ c,row.length≤140737488355328
  lx:∀ row ∈ c,∀ x ∈ row,x.f3.length≤140737488355328
theorem OkC.len {c:List (List Rl)}(h:OkC c):LenOk c:=by
 obtain ⟨h1,h2⟩:=h
 refine ⟨by omega,fun row hr=>?_,fun row hr x hx=>?_⟩
 · have:=(h2 row hr).1;omega
 have:=((h2 row hr).2 x hx).2.2.1;omega
theorem drop_get {α:Type}{l:List α}{i:Nat}(h:i<l.length):l.drop i=l[i] :: l.drop (i+1):=List.drop_eq_getElem_cons h
section
variable {a b:List (List Rl)}
theorem same_l2 {i j:Int}{x y:Rl}(hx:x.f3.length≤140737488355328)(hl:x.f3.length=y.f3.length)(hj:0≤j∧j≤140737488355328){R:Bool}(hR:Ev (fun k=>exergueref11_Same.l1 k a b i (j+1)) R)(n:Nat):∀ q:Nat,q+n=x.f3.length →
    Ev (fun k=>exergueref11_Same.l2 k a b i j (q:Int) x.f0 x.f1 x.f2 x.f3 y.f0 y.f1 y.f2 y.f3) (decide (x.f3.drop q=y.f3.drop q) && R):=by
 have wj:wrap64 (j+1)=j+1:=w64 _ (by omega) (by omega)
 induction n with
 | zero=>
  intro q hq
  have q1:¬ ((q:Nat):Int)<(x.f3.length:Int):=by omega
  have e:decide (x.f3.drop q=y.f3.drop q)=true:=zC (by rw [List.drop_of_length_le (by omega),List.drop_of_length_le (by omega)])
  refine Ev_shift ?_
  simp only [exergueref11_Same.l2,if_neg q1,wj,e,Bool.true_and]
  exact hR
 | succ n ih=>
  intro q hq
  have hlt:q<x.f3.length:=by omega
  have hlt2:q<y.f3.length:=by omega
  have q1:((q:Nat):Int)<(x.f3.length:Int):=by omega
  have q2:(0:Int)≤(q:Int):=by omega
  have q3:((q:Nat):Int)<(y.f3.length:Int):=by omega
  have wq:wrap64 ((q:Int)+1)=((q+1:Nat):Int):=by rw [w64 _ (by omega) (by omega)];omega
  refine Ev_shift ?_
  simp only [exergueref11_Same.l2,if_pos q1,if_pos q2,if_pos q3,rd57 hlt,rd57 hlt2,wq]
  rw [drop_get hlt,drop_get hlt2]
  by_cases h:x.f3[q]=y.f3[q]
  ·have hc:¬ ((!((x.f3[q]).f0 == (y.f3[q]).f0)) || (!((x.f3[q]).f1 == (y.f3[q]).f1)))=true:=by rw [h];simp
   have e:decide (x.f3[q] :: x.f3.drop (q+1)=y.f3[q] :: y.f3.drop (q+1))=decide (x.f3.drop (q+1)=y.f3.drop (q+1)):=by rw [decide_eq_decide,h,List.cons.injEq];simp only [true_and]
   simp only [if_neg hc,e]
   exact ih (q+1) (by omega)
  have hc:((!((x.f3[q]).f0 == (y.f3[q]).f0)) || (!((x.f3[q]).f1 == (y.f3[q]).f1)))=true:=by
   by_cases h0:(x.f3[q]).f0=(y.f3[q]).f0
   ·have h1:(x.f3[q]).f1≠(y.f3[q]).f1:=by
     intro h1
     apply h
     generalize x.f3[q]=u at *
     generalize y.f3[q]=v at *
     cases u;cases v;simp_all
    simp [h1]
   simp [h0]
  have e:decide (x.f3[q] :: x.f3.drop (q+1)=y.f3[q] :: y.f3.drop (q+1))=false:=zD (by intro z;exact h (List.cons.inj z).1)
  simp only [if_pos hc,e,Bool.false_and]
  exact Ev.now _
theorem same_l1 (ha:LenOk a){i:Nat}(hi:i<a.length)(hi2:i<b.length)(hl:(a[i]).length=(b[i]).length){R:Bool}(hR:Ev (fun k=>exergueref11_Same.l0 k a b ((i+1:Nat):Int)) R)(n:Nat):∀ j:Nat,j+n=(a[i]).length →
    Ev (fun k=>exergueref11_Same.l1 k a b (i:Int) (j:Int)) (decide ((a[i]).drop j=(b[i]).drop j) && R):=by
 have hcl:=ha.lc
 have hrl:=ha.lr _ (List.getElem_mem hi)
 have hxl:=ha.lx _ (List.getElem_mem hi)
 have i1:(0:Int)≤(i:Int):=by omega
 have i2:(i:Int)<(a.length:Int):=by omega
 have i3:(i:Int)<(b.length:Int):=by omega
 have wi:wrap64 ((i:Int)+1)=((i+1:Nat):Int):=by rw [w64 _ (by omega) (by omega)];omega
 have ra:=rdL hi
 have rb:=rdL hi2
 generalize a[i]=r at *
 generalize b[i]=t at *
 induction n with
 | zero=>
  intro j hj
  have q1:¬ ((j:Nat):Int)<(r.length:Int):=by omega
  have e:decide (r.drop j=t.drop j)=true:=zC (by rw [List.drop_of_length_le (by omega),List.drop_of_length_le (by omega)])
  refine Ev_shift ?_
  simp only [exergueref11_Same.l1,if_pos i1,if_pos i2,ra,if_neg q1,wi,e,Bool.true_and]
  exact hR
 | succ n ih=>
  intro j hj
  have hlt:j<r.length:=by omega
  have hlt2:j<t.length:=by omega
  have q1:((j:Nat):Int)<(r.length:Int):=by omega
  have q2:(0:Int)≤(j:Int):=by omega
  have q3:((j:Nat):Int)<(t.length:Int):=by omega
  have hnext:=ih (j+1) (by omega)
  have hx3:=hxl _ (List.getElem_mem hlt)
  have sx:=rd60 hlt
  have sy:=rd60 hlt2
  rw [drop_get hlt,drop_get hlt2]
  generalize r[j]=x at *
  generalize t[j]=y at *
  have e1:decide (x :: r.drop (j+1)=y :: t.drop (j+1))=(decide (x=y) && decide (r.drop (j+1)=t.drop (j+1))):=by
   rw [Bool.eq_iff_iff,Bool.and_eq_true,decide_eq_true_eq,decide_eq_true_eq,decide_eq_true_eq,List.cons.injEq]
  have off:x≠y→Ev (fun k=>exergueref11_Same.j2 k a b (i:Int) (j:Int) true x.f0 x.f1 x.f2 x.f3 y.f0 y.f1 y.f2 y.f3) (decide (x :: r.drop (j+1)=y :: t.drop (j+1)) && R):=by
   intro h
   rw [e1,zD h]
   refine Ev_shift ?_
   simp only [exergueref11_Same.j2,if_true,Bool.false_and]
   exact Ev.now _
  refine Ev_shift ?_
  simp only [exergueref11_Same.l1,if_pos i1,if_pos i2,if_pos i3,ra,rb,if_pos q1,if_pos q2,if_pos q3,sx,sy]
  by_cases h0:x.f0=y.f0
  rotate_left
  ·simp only [if_neg h0]
   exact off (fun h=>h0 (by rw [h]))
  by_cases h1:x.f1=y.f1
  rotate_left
  ·simp only [if_pos h0,if_neg h1]
   exact off (fun h=>h1 (by rw [h]))
  by_cases h2:x.f2=y.f2
  rotate_left
  ·have c2:(x.f2 != y.f2)=true:=by simpa using h2
   simp only [if_pos h0,if_pos h1,if_pos c2]
   exact off (fun h=>h2 (by rw [h]))
  have c2:¬ (x.f2 != y.f2)=true:=by rw [h2];simp
  simp only [if_pos h0,if_pos h1,if_neg c2]
  by_cases h3:x.f3.length=y.f3.length
  ·have c3:((x.f3.length:Int) != (y.f3.length:Int))=false:=by rw [h3];simp
   rw [c3]
   refine Ev_shift ?_
   simp only [exergueref11_Same.j2,Bool.false_eq_true,if_false]
   have:=same_l2 (x:=x) (y:=y) hx3 h3 (j:=(j:Int)) (by omega) hnext x.f3.length 0 (by omega)
   simp only [List.drop_zero] at this
   have e2:(decide (x :: r.drop (j+1)=y :: t.drop (j+1)) && R)=(decide (x.f3=y.f3) && (decide (r.drop (j+1)=t.drop (j+1)) && R)):=by
    rw [e1]
    have:decide (x=y)=decide (x.f3=y.f3):=by
     rw [decide_eq_decide]
     cases x;cases y;simp_all
    rw [this,Bool.and_assoc]
   rw [e2]
   exact this
  have c3:((x.f3.length:Int) != (y.f3.length:Int))=true:=by simp;omega
  rw [c3]
  exact off (fun h=>h3 (by rw [h]))
theorem same_l0 (ha:LenOk a)(hl:a.length=b.length)(n:Nat):∀ i:Nat,i+n=a.length→Ev (fun k=>exergueref11_Same.l0 k a b (i:Int)) (decide (a.drop i=b.drop i)):=by
 have hcl:=ha.lc
 induction n with
 | zero=>
  intro i hi
  have q1:¬ ((i:Nat):Int)<(a.length:Int):=by omega
  have e:decide (a.drop i=b.drop i)=true:=zC (by rw [List.drop_of_length_le (by omega),List.drop_of_length_le (by omega)])
  refine Ev_shift ?_
  simp only [exergueref11_Same.l0,if_neg q1,e]
  exact Ev.now _
 | succ n ih=>
  intro i hi
  have hlt:i<a.length:=by omega
  have hlt2:i<b.length:=by omega
  have q1:((i:Nat):Int)<(a.length:Int):=by omega
  have q2:(0:Int)≤(i:Int):=by omega
  have q3:((i:Nat):Int)<(b.length:Int):=by omega
  have hnext:=ih (i+1) (by omega)
  have e1:decide (a.drop i=b.drop i)=(decide (a[i]=b[i]) && decide (a.drop (i+1)=b.drop (i+1))):=by
   rw [drop_get hlt,drop_get hlt2,Bool.eq_iff_iff,Bool.and_eq_true,decide_eq_true_eq,decide_eq_true_eq,decide_eq_true_eq,List.cons.injEq]
  refine Ev_shift ?_
  simp only [exergueref11_Same.l0,if_pos q1,if_pos q2,if_pos q3,rdL hlt,rdL hlt2]
  rw [e1]
  by_cases h:((a[i]).length:Int)=((b[i]).length:Int)
  ·have:=same_l1 ha hlt hlt2 (by omega) hnext (a[i]).length 0 (by omega)
   simp only [List.drop_zero] at this
   simp only [if_pos h]
   exact this
  have hne:decide (a[i]=b[i])=false:=zD (fun z=>h (by rw [z]))
  simp only [if_neg h,hne,Bool.false_and]
  exact Ev.now _
theorem same_ev11 (ha:LenOk a):Ev (fun k=>exergueref11_Same.f k a b) (decide (a=b)):=by
 unfold exergueref11_Same.f
 by_cases h:(a.length:Int)=(b.length:Int)
 ·simp only [if_pos h]
  exact same_l0 ha (by omega) a.length 0 (by omega)
 have hne:decide (a=b)=false:=zD (fun z=>h (by rw [z]))
 simp only [if_neg h,hne]
 exact Ev.now _
end
def LowX (x:Rl):Prop:=-1000000000000≤x.f1∧∀ r ∈ x.f3,-1000000000000≤r.f0 ∧ -1000000000000≤r.f1
structure ShortC (c:List (List Rl)):Prop where
  w:wC c≤200
  n:∀ row ∈ c,∀ x ∈ row,LowX x
section
variable {c:List (List Rl)}(hc:LenOk c)
include hc
theorem short_l2 {i j:Nat}(hi:i<c.length)(hj:j<(c[i]).length)(m:Nat)(hm:m≤140737488355328+300){P:Bool→Prop}
    (hR:(∀ r ∈ ((c[i])[j]).f3,-1000000000000≤r.f0 ∧ -1000000000000≤r.f1) → -1000000000000≤((c[i])[j]).f1→m≤200→∃ R,Ev (fun k=>exergueref11_Short.l1 k c (m:Int) (i:Int) ((j+1:Nat):Int)) R∧P R) (hP:P false) (n:Nat) :
    ∀ q:Nat,q+n=((c[i])[j]).f3.length→(∀ r ∈ (((c[i])[j]).f3).take q,-1000000000000≤r.f0 ∧ -1000000000000≤r.f1)→∃ R,Ev (fun k=>exergueref11_Short.l2 k c (m:Int) (i:Int) (j:Int) (q:Int)) R∧P R:=by
 have hcl:=hc.lc
 have hrl:=hc.lr _ (List.getElem_mem hi)
 have hxl:=hc.lx _ (List.getElem_mem hi) _ (List.getElem_mem hj)
 have i1:(0:Int)≤(i:Int):=by omega
 have i2:(i:Int)<(c.length:Int):=by omega
 have j1:(0:Int)≤(j:Int):=by omega
 have j2:(j:Int)<((c[i]).length:Int):=by omega
 have wj:wrap64 ((j:Int)+1)=((j+1:Nat):Int):=by rw [w64 _ (by omega) (by omega)];omega
 have ra:=rdL hi
 have sx:=rd60 hj
 generalize c[i]=r at *
 generalize r[j]=x at *
 have off:∀ {g:Nat→Option Bool},(∀ k,g (k+1)=some false)→∃ R,Ev g R∧P R:=fun h=>⟨false,Ev_shift (by simp only [h];exact Ev.now _),hP⟩
 induction n with
 | zero=>
  intro q hq hlow
  have q1:¬ ((q:Nat):Int)<(x.f3.length:Int):=by omega
  rw [List.take_of_length_le (by omega)] at hlow
  by_cases h1:x.f1 < -1000000000000
  · exact off (fun k=>by simp only [exergueref11_Short.l2,if_pos i1,if_pos i2,ra,if_pos j1,if_pos j2,sx,if_neg q1,if_pos h1])
  by_cases h2:(m:Int)>200
  · exact off (fun k=>by simp only [exergueref11_Short.l2,if_pos i1,if_pos i2,ra,if_pos j1,if_pos j2,sx,if_neg q1,if_neg h1,if_pos h2])
  obtain ⟨R,hR1,hR2⟩:=hR hlow (by omega) (by omega)
  refine ⟨R,Ev_shift ?_,hR2⟩
  simp only [exergueref11_Short.l2,if_pos i1,if_pos i2,ra,if_pos j1,if_pos j2,sx,if_neg q1,if_neg h1,if_neg h2,wj]
  exact hR1
 | succ n ih=>
  intro q hq hlow
  have hlt:q<x.f3.length:=by omega
  have q1:((q:Nat):Int)<(x.f3.length:Int):=by omega
  have q2:(0:Int)≤(q:Int):=by omega
  have wq:wrap64 ((q:Int)+1)=((q+1:Nat):Int):=by rw [w64 _ (by omega) (by omega)];omega
  by_cases h1:(x.f3[q]).f0 < -1000000000000
  · exact off (fun k=>by simp only [exergueref11_Short.l2,if_pos i1,if_pos i2,ra,if_pos j1,if_pos j2,sx,if_pos q1,if_pos q2,rd57 hlt,if_pos h1])
  by_cases h2:(x.f3[q]).f1 < -1000000000000
  · exact off (fun k=>by simp only [exergueref11_Short.l2,if_pos i1,if_pos i2,ra,if_pos j1,if_pos j2,sx,if_pos q1,if_pos q2,rd57 hlt,if_neg h1,if_pos h2])
  obtain ⟨R,hR1,hR2⟩:=ih (q+1) (by omega) (fun y hy=>by
   rw [List.take_succ_eq_append_getElem hlt] at hy
   rcases List.mem_append.1 hy with hy|hy
   · exact hlow y hy
   rw [List.mem_singleton.1 hy];omega)
  refine ⟨R,Ev_shift ?_,hR2⟩
  simp only [exergueref11_Short.l2,if_pos i1,if_pos i2,ra,if_pos j1,if_pos j2,sx,if_pos q1,if_pos q2,rd57 hlt,if_neg h1,if_neg h2,wq]
  exact hR1
theorem short_l1 {i:Nat}(hi:i<c.length)(m0:Nat)(hm0:m0≤201){P:Bool→Prop}
    (hR:(∀ x ∈ c[i],LowX x)→m0+((c[i]).map wR).sum≤200→∃ R,Ev (fun k=>exergueref11_Short.l0 k c ((m0+((c[i]).map wR).sum:Nat):Int) ((i+1:Nat):Int)) R∧P R) (hP:P false) (n:Nat) :
    ∀ j:Nat,j+n=(c[i]).length→(m0+(((c[i]).take j).map wR).sum≤200∨(j=0∧m0≤201))→(∀ x ∈ (c[i]).take j,LowX x)→∃ R,Ev (fun k=>exergueref11_Short.l1 k c ((m0+(((c[i]).take j).map wR).sum:Nat):Int) (i:Int) (j:Int)) R∧P R:=by
 have hcl:=hc.lc
 have hrl:=hc.lr _ (List.getElem_mem hi)
 have i1:(0:Int)≤(i:Int):=by omega
 have i2:(i:Int)<(c.length:Int):=by omega
 have wi:wrap64 ((i:Int)+1)=((i+1:Nat):Int):=by rw [w64 _ (by omega) (by omega)];omega
 have ra:=rdL hi
 induction n with
 | zero=>
  intro j hj hm hlow
  have q1:¬ ((j:Nat):Int)<((c[i]).length:Int):=by omega
  rw [List.take_of_length_le (by omega)] at hlow hm ⊢
  by_cases h2:((m0+((c[i]).map wR).sum:Nat):Int)>200
  · exact ⟨false,Ev_shift (by simp only [exergueref11_Short.l1,if_pos i1,if_pos i2,ra,if_neg q1,if_pos h2];exact Ev.now _),hP⟩
  obtain ⟨R,hR1,hR2⟩:=hR hlow (by omega)
  refine ⟨R,Ev_shift ?_,hR2⟩
  simp only [exergueref11_Short.l1,if_pos i1,if_pos i2,ra,if_neg q1,if_neg h2,wi]
  exact hR1
 | succ n ih=>
  intro j hj hm hlow
  have hlt:j<(c[i]).length:=by omega
  have q1:((j:Nat):Int)<((c[i]).length:Int):=by omega
  have q2:(0:Int)≤(j:Int):=by omega
  have hxl:=hc.lx _ (List.getElem_mem hi) _ (List.getElem_mem hlt)
  have hs:(((c[i]).take (j+1)).map wR).sum=(((c[i]).take j).map wR).sum+(1+((c[i])[j]).f3.length):=by
   rw [List.take_succ_eq_append_getElem hlt,List.map_append,List.sum_append]
   simp [wR]
  have hmm:m0+(((c[i]).take j).map wR).sum≤201:=by
   rcases hm with h|⟨h,h2⟩
   · omega
   subst h;simp;omega
  have hmb:m0+(((c[i]).take (j+1)).map wR).sum≤140737488355328+300:=by rw [hs];omega
  have w1:wrap64 (wrap64 (((m0+(((c[i]).take j).map wR).sum:Nat):Int)+1)+(((c[i])[j]).f3.length:Int))=((m0+(((c[i]).take (j+1)).map wR).sum:Nat):Int):=by
   rw [hs,w64 (_+1) (by omega) (by omega),w64 _ (by omega) (by omega)];omega
  have l2:=short_l2 hc hi hlt (m0+(((c[i]).take (j+1)).map wR).sum) hmb (P:=P) (fun h1 h2 h3=>ih (j+1) (by omega) (.inl h3) (fun x hx=>by
   rw [List.take_succ_eq_append_getElem hlt] at hx
   rcases List.mem_append.1 hx with hx|hx
   · exact hlow x hx
   rw [List.mem_singleton.1 hx];exact ⟨h2,h1⟩)) hP ((c[i])[j]).f3.length 0 (by omega) (by simp)
  obtain ⟨R,hR1,hR2⟩:=l2
  refine ⟨R,Ev_shift ?_,hR2⟩
  simp only [exergueref11_Short.l1,if_pos i1,if_pos i2,ra,if_pos q1,if_pos q2,rd60 hlt,w1]
  exact hR1
theorem short_l0 (n:Nat):∀ i:Nat,i+n=c.length→wC (c.take i)≤200→(∀ row ∈ c.take i,∀ x ∈ row,LowX x)→∃ R,Ev (fun k=>exergueref11_Short.l0 k c ((wC (c.take i):Nat):Int) (i:Int)) R∧(R=true→ShortC c):=by
 have hcl:=hc.lc
 induction n with
 | zero=>
  intro i hi hw hlow
  have q1:¬ ((i:Nat):Int)<(c.length:Int):=by omega
  rw [List.take_of_length_le (by omega)] at hw hlow ⊢
  refine ⟨true,Ev_shift ?_,fun _=>⟨hw,hlow⟩⟩
  simp only [exergueref11_Short.l0,if_neg q1]
  exact Ev.now _
 | succ n ih=>
  intro i hi hw hlow
  have hlt:i<c.length:=by omega
  have q1:((i:Nat):Int)<(c.length:Int):=by omega
  have w1:wrap64 (((wC (c.take i):Nat):Int)+1)=((wC (c.take i)+1:Nat):Int):=by rw [w64 _ (by omega) (by omega)];omega
  have hs:wC (c.take (i+1))=wC (c.take i)+1+((c[i]).map wR).sum:=by
   unfold wC
   rw [List.take_succ_eq_append_getElem hlt,List.map_append,List.sum_append]
   simp [wRow]
   omega
  obtain ⟨R,hR1,hR2⟩:=short_l1 hc hlt (wC (c.take i)+1) (by omega) (P:=fun R=>R=true→ShortC c) (fun h1 h2=>by
   have:=ih (i+1) (by omega) (by omega) (fun row hrow x hx=>by
    rw [List.take_succ_eq_append_getElem hlt] at hrow
    rcases List.mem_append.1 hrow with hr|hr
    · exact hlow row hr x hx
    rw [List.mem_singleton.1 hr] at hx;exact h1 x hx)
   rw [hs] at this
   exact this) (fun h=>by cases h) (c[i]).length 0 (by omega) (.inr ⟨rfl,by omega⟩) (by simp)
  refine ⟨R,Ev_shift ?_,hR2⟩
  simp only [exergueref11_Short.l0,if_pos q1,w1]
  simpa using hR1
theorem short_ev:∃ R,Ev (fun k=>exergueref11_Short.f k c) R∧(R=true→ShortC c):=by
 unfold exergueref11_Short.f
 exact short_l0 hc c.length 0 (by omega) (by simp [wC]) (by simp)
end
theorem ShortC.txt {c:List (List Rl)}(h:ShortC c)(ho:OkC c):TxtOk c:=by
 refine ⟨by have:=h.w;omega,fun row hr x hx=>?_⟩
 obtain ⟨o1,o2,o3⟩:=(ho.2 row hr).2 x hx
 obtain ⟨l1,l2⟩:=h.n row hr x hx
 refine ⟨wf_u8 o1,⟨l1,(wf_i64 o2).2⟩,fun r hrr=>?_⟩
 exact ⟨⟨(l2 r hrr).1,(wf_i64 (o3.2 r hrr).1).2⟩,⟨(l2 r hrr).2,(wf_i64 (o3.2 r hrr).2).2⟩⟩
end
section
section
variable {s:ByteArray}(hs:s.size≤400)
include hs
theorem over_l0 (n:Nat):∀ i:Nat,i+n=s.size→Ev (fun k=>exergueref11_over.l0 k s (i:Int)) ((i+bl ((bytesOf s).drop i):Nat):Int):=by
 induction n with
 | zero=>
  intro i hi
  have q1:¬ ((i:Nat):Int)<(s.size:Int):=by omega
  have e:=run_end (p:=isBl) (s:=s) (k:=i) (by omega)
  change i+bl _=i at e
  refine Ev_shift ?_
  simp only [exergueref11_over.l0,if_neg q1,e]
  exact Ev.now _
 | succ n ih=>
  intro i hi
  have q1:((i:Nat):Int)<(s.size:Int):=by omega
  have q2:(0:Int)≤(i:Int):=by omega
  have wi:wrap64 ((i:Int)+1)=((i+1:Nat):Int):=by rw [w64 _ (by omega) (by omega)];omega
  refine Ev_shift ?_
  simp only [exergueref11_over.l0,if_pos q1,if_pos q2,wi]
  by_cases hb:bt s (i:Int)=32
  ·have e:=run_more (p:=isBl) (s:=s) (k:=i) (by omega) (by unfold isBl;simp [hb])
   change i+1+bl _=i+bl _ at e
   simp only [if_pos hb,← e]
   exact ih (i+1) (by omega)
  have e:=run_stop (p:=isBl) (s:=s) (k:=i) (by omega) (by unfold isBl;simpa using hb)
  change i+bl _=i at e
  simp only [if_neg hb,e]
  exact Ev.now _
theorem over_ev {a:Nat}(ha:a≤s.size):Ev (fun k=>exergueref11_over.f k s (a:Int)) ((a+bl ((bytesOf s).drop a):Nat):Int):=by
 unfold exergueref11_over.f
 exact over_l0 hs (s.size - a) a (by omega)
theorem word_l0 (n:Nat):∀ i:Nat,i+n=s.size→Ev (fun k=>exergueref11_word.l0 k s (i:Int)) ((i+runL isLo ((bytesOf s).drop i):Nat):Int):=by
 induction n with
 | zero=>
  intro i hi
  have q1:¬ ((i:Nat):Int)<(s.size:Int):=by omega
  have e:=run_end (p:=isLo) (s:=s) (k:=i) (by omega)
  refine Ev_shift ?_
  simp only [exergueref11_word.l0,if_neg q1,e]
  exact Ev.now _
 | succ n ih=>
  intro i hi
  have q1:((i:Nat):Int)<(s.size:Int):=by omega
  have q2:(0:Int)≤(i:Int):=by omega
  have wi:wrap64 ((i:Int)+1)=((i+1:Nat):Int):=by rw [w64 _ (by omega) (by omega)];omega
  refine Ev_shift ?_
  simp only [exergueref11_word.l0,if_pos q1,if_pos q2,wi]
  by_cases h1:bt s (i:Int)≥97
  ·by_cases h2:bt s (i:Int)≤122
   ·have e:=run_more (p:=isLo) (s:=s) (k:=i) (by omega) (by unfold isLo;simp;omega)
    simp only [if_pos h1,if_pos h2,← e]
    exact ih (i+1) (by omega)
   have e:=run_stop (p:=isLo) (s:=s) (k:=i) (by omega) (by unfold isLo;simp;omega)
   simp only [if_pos h1,if_neg h2,e]
   exact Ev.now _
  have e:=run_stop (p:=isLo) (s:=s) (k:=i) (by omega) (by unfold isLo;simp;omega)
  simp only [if_neg h1,e]
  exact Ev.now _
theorem word_ev {a:Nat}(ha:a≤s.size):Ev (fun k=>exergueref11_word.f k s (a:Int)) ((a+runL isLo ((bytesOf s).drop a):Nat):Int):=by
 unfold exergueref11_word.f
 exact word_l0 hs (s.size - a) a (by omega)
theorem sign_f {a:Nat}(ha:a≤s.size){x:ByteArray}(hx:x.size≤10):exergueref11_sign.f s (a:Int) x=some ((bytesOf x).isPrefixOf ((bytesOf s).drop a)):=by
 unfold exergueref11_sign.f
 have w1:wrap64 ((a:Int)+(x.size:Int))=((a+x.size:Nat):Int):=by rw [w64 _ (by omega) (by omega)];omega
 rw [w1]
 have hlx:=bytesOf_length x
 have hls:=bytesOf_length s
 by_cases h:a+x.size≤s.size
 ·rw [if_pos (by omega),if_pos (by omega),if_pos (by omega)]
  congr 1
  rw [bytes_ext2,Bool.eq_iff_iff]
  simp only [decide_eq_true_eq,List.isPrefixOf_iff_prefix,List.prefix_iff_eq_take]
  have e:bytesOf (s.extract ((a:Nat):Int).toNat ((a+x.size:Nat):Int).toNat)=((bytesOf s).drop a).take (bytesOf x).length:=by
   rw [bytes_cut,hlx]
   congr 1 <;> omega
  rw [← e]
  exact ⟨fun h=>by rw [h],fun h=>bytesInj h.symm⟩
 rw [if_neg (by omega)]
 congr 1
 symm
 rw [Bool.eq_false_iff]
 intro hp
 have:=prefix_len hp
 rw [List.length_drop] at this
 omega
omit hs in
theorem opB (c:Int):exergueref11_op.f c=some (isOp c):=by
 unfold exergueref11_op.f isOp
 repeat' (split;· rename_i h;subst h;rfl)
 rename_i h1 h2 h3 h4 h5 h6 h7
 congr 1
 simp [h1,h2,h3,h4,h5,h6,h7]
omit hs in
theorem decv_snoc (l:List Int)(c:Int):decv (l ++ [c])=decv l * 10+(c - 48):=by unfold decv;rw [List.foldl_append];rfl
def numFin (s:ByteArray)(least:Int)(from_ d:Nat)(v:Int):Int×Int:=
  if d=0∨9<d∨(bt s (from_:Int)=48∧1<d)∨v<least then (-1,(from_:Int)) else (v,((from_+d:Nat):Int))
theorem number_end (least:Int)(from_ d:Nat)(v:Int)(hd:from_+d≤s.size):Ev (fun k=>exergueref11_number.j1 k s least (from_:Int) ((from_+d:Nat):Int) v false) (numFin s least from_ d v):=by
 have w1:wrap64 (((from_+d:Nat):Int) - (from_:Int))=(d:Int):=by rw [w64 _ (by omega) (by omega)];omega
 refine Ev_shift ?_
 simp only [exergueref11_number.j1,Bool.false_eq_true,if_false,w1]
 unfold numFin
 by_cases h0:d=0
 ·have q:((from_+d:Nat):Int)=(from_:Int):=by omega
  simp only [if_pos q,if_pos (show d=0∨9<d∨(bt s (from_:Int)=48∧1<d)∨v<least from .inl h0)]
  exact Ev.now _
 have q:¬ ((from_+d:Nat):Int)=(from_:Int):=by omega
 simp only [if_neg q]
 by_cases h9:9<d
 ·have q:(d:Int)>9:=by omega
  simp only [if_pos q,if_pos (show d=0∨9<d∨(bt s (from_:Int)=48∧1<d)∨v<least from .inr (.inl h9))]
  exact Ev.now _
 have q:¬ (d:Int)>9:=by omega
 have q2:(0:Int)≤(from_:Int):=by omega
 have q3:(from_:Int)<(s.size:Int):=by omega
 simp only [if_neg q,if_pos q2,if_pos q3]
 by_cases hb:bt s (from_:Int)=48
 ·simp only [if_pos hb]
  by_cases h1:1<d
  ·have q:(d:Int)>1:=by omega
   simp only [if_pos q,if_pos (show d=0∨9<d∨(bt s (from_:Int)=48∧1<d)∨v<least from .inr (.inr (.inl ⟨hb,h1⟩)))]
   exact Ev.now _
  have q:¬ (d:Int)>1:=by omega
  simp only [if_neg q]
  by_cases hl:v<least
  ·simp only [if_pos hl,if_pos (show d=0∨9<d∨(bt s (from_:Int)=48∧1<d)∨v<least from .inr (.inr (.inr hl)))]
   exact Ev.now _
  simp only [if_neg hl,if_neg (show ¬ (d=0∨9<d∨(bt s (from_:Int)=48∧1<d)∨v<least) from by rintro (h|h|h|h) <;> first|omega|exact h1 h.2)]
  exact Ev.now _
 simp only [if_neg hb]
 by_cases hl:v<least
 ·simp only [if_pos hl,if_pos (show d=0∨9<d∨(bt s (from_:Int)=48∧1<d)∨v<least from .inr (.inr (.inr hl)))]
  exact Ev.now _
 simp only [if_neg hl,if_neg (show ¬ (d=0∨9<d∨(bt s (from_:Int)=48∧1<d)∨v<least) from by rintro (h|h|h|h) <;> first|omega|exact hb h.1)]
 exact Ev.now _
theorem number_l0 (least:Int)(from_:Nat)(n:Nat):∀ j:Nat,runL isDi ((bytesOf s).drop (from_+j))=n→from_+j≤s.size→(∀ c ∈ ((bytesOf s).drop from_).take j,isDi c=true) →
    Ev (fun k=>exergueref11_number.l0 k s least (from_:Int) ((from_+j:Nat):Int) (decv (((bytesOf s).drop from_).take (min j 9)))) (numFin s least from_ (j+n) (decv (((bytesOf s).drop from_).take (min (j+n) 9)))):=by
 have hls:=bytesOf_length s
 induction n with
 | zero=>
  intro j hn hj hd
  refine Ev_shift ?_
  have fin:=number_end hs least from_ j (decv (((bytesOf s).drop from_).take (min j 9))) hj
  rw [Nat.add_zero]
  by_cases hlt:from_+j<s.size
  rotate_left
  ·have q1:¬ ((from_+j:Nat):Int)<(s.size:Int):=by omega
   simp only [exergueref11_number.l0,if_neg q1]
   exact fin
  have q1:((from_+j:Nat):Int)<(s.size:Int):=by omega
  have q2:(0:Int)≤((from_+j:Nat):Int):=by omega
  have hnd:isDi (bt s ((from_+j:Nat):Int))=false:=by
   rw [Bool.eq_false_iff]
   intro h
   have:=run_more (p:=isDi) hlt h
   omega
  simp only [exergueref11_number.l0,if_pos q1,if_pos q2]
  by_cases h1:bt s ((from_+j:Nat):Int)≥48
  ·have h2:decide (bt s ((from_+j:Nat):Int)≤57)=false:=by
    unfold isDi at hnd
    rw [zC (show (48:Int)≤bt s ((from_+j:Nat):Int) from h1),Bool.true_and] at hnd
    exact hnd
   simp only [if_pos h1,h2]
   exact fin
  simp only [if_neg h1]
  exact fin
 | succ n ih=>
  intro j hn hj hd
  have hlt:from_+j<s.size:=by
   apply Classical.byContradiction
   intro h
   have:=run_end (p:=isDi) (s:=s) h
   omega
  have hdi:isDi (bt s ((from_+j:Nat):Int))=true:=by
   rw [← Bool.not_eq_false]
   intro h
   have:=run_stop (p:=isDi) hlt h
   omega
  have hm:=run_more (p:=isDi) hlt hdi
  have hnn:runL isDi ((bytesOf s).drop (from_+(j+1)))=n:=by rw [show from_+(j+1)=from_+j+1 by omega];omega
  have q1:((from_+j:Nat):Int)<(s.size:Int):=by omega
  have q2:(0:Int)≤((from_+j:Nat):Int):=by omega
  have wj:wrap64 (((from_+j:Nat):Int)+1)=((from_+(j+1):Nat):Int):=by rw [w64 _ (by omega) (by omega)];omega
  have wd:wrap64 (((from_+j:Nat):Int) - (from_:Int))=(j:Int):=by rw [w64 _ (by omega) (by omega)];omega
  have h48:bt s ((from_+j:Nat):Int)≥48∧bt s ((from_+j:Nat):Int)≤57:=by
   unfold isDi at hdi
   rw [Bool.and_eq_true,decide_eq_true_eq,decide_eq_true_eq] at hdi
   exact hdi
  have hul:j<((bytesOf s).drop from_).length:=by rw [List.length_drop];omega
  have hel:((bytesOf s).drop from_)[j]=bt s ((from_+j:Nat):Int):=by
   have h1:=drop_bt s (from_+j) hlt
   have h2:((bytesOf s).drop from_).drop j=(bytesOf s).drop (from_+j):=List.drop_drop ..
   rw [← h2,List.drop_eq_getElem_cons hul] at h1
   exact (List.cons.inj h1).1
  have htk:((bytesOf s).drop from_).take (j+1)=((bytesOf s).drop from_).take j ++ [bt s ((from_+j:Nat):Int)]:=by rw [List.take_succ_eq_append_getElem hul,hel]
  have hd2:∀ c ∈ ((bytesOf s).drop from_).take (j+1),isDi c=true:=by
   intro c hc
   rw [htk] at hc
   rcases List.mem_append.1 hc with h|h
   · exact hd c h
   rw [List.mem_singleton.1 h];exact hdi
  have hnext:=ih (j+1) hnn (by omega) hd2
  rw [show j+1+n=j+(n+1) by omega] at hnext
  refine Ev_shift ?_
  simp only [exergueref11_number.l0,if_pos q1,if_pos q2,if_pos h48.1,zC h48.2]
  refine Ev_shift ?_
  simp only [exergueref11_number.j1,if_true,wd,wj]
  by_cases h9:j<9
  ·have q3:(j:Int)<9:=by omega
   have hdv:=decv_lt (l:=((bytesOf s).drop from_).take j) hd
   have hT:T10 (((bytesOf s).drop from_).take j).length≤T10 8:=T10_le (by rw [List.length_take];omega)
   have hT8:T10 8=100000000:=by decide
   have e1:min j 9=j:=by omega
   have e2:min (j+1) 9=j+1:=by omega
   rw [e2,htk,decv_snoc] at hnext
   rw [e1]
   generalize decv (((bytesOf s).drop from_).take j)=v at *
   have wv:wrap64 (wrap64 (v * 10)+(bt s ((from_+j:Nat):Int) - 48) % 256)=v * 10+(bt s ((from_+j:Nat):Int) - 48):=by
    rw [w64 (v * 10) (by omega) (by omega),w64 _ (by omega) (by omega)];omega
   simp only [if_pos q3,if_pos q2,if_pos q1,wv]
   exact hnext
  have q3:¬ (j:Int)<9:=by omega
  have e1:min j 9=9:=by omega
  have e2:min (j+1) 9=9:=by omega
  rw [e2] at hnext
  rw [e1]
  simp only [if_neg q3]
  exact hnext
def numRes (a:Nat):Option Int×Nat→Int×Int
  | (none,n)=>(-1,((a+n:Nat):Int))
  | (some v,n)=>(v,((a+n:Nat):Int))
theorem number_ev11 (least:Int){a:Nat}(ha:a≤s.size):Ev (fun k=>exergueref11_number.f k s (a:Int) least) (numRes a (numP least ((bytesOf s).drop a))):=by
 have hA:=run_size isBl s a ha
 change a+bl ((bytesOf s).drop a)≤s.size at hA
 unfold exergueref11_number.f
 refine Ev.bind (over_ev hs ha) ?_
 have h:=number_l0 hs least (a+bl ((bytesOf s).drop a)) _ 0 rfl (by omega) (by simp)
 simp only [Nat.add_zero,Nat.zero_add,Nat.zero_min,List.take_zero] at h
 have e:numRes a (numP least ((bytesOf s).drop a))=numFin s least (a+bl ((bytesOf s).drop a)) (runL isDi ((bytesOf s).drop (a+bl ((bytesOf s).drop a)))) (decv (((bytesOf s).drop (a+bl ((bytesOf s).drop a))).take (min (runL isDi ((bytesOf s).drop (a+bl ((bytesOf s).drop a)))) 9))):=by
  unfold numP numFin
  rw [bl_drop]
  obtain ⟨A,hAA⟩:∃ A,a+bl ((bytesOf s).drop a)=A:=⟨_,rfl⟩
  simp only [hAA] at hA ⊢
  have hrd:rd ((bytesOf s).drop A) 0=if A<s.size then bt s (A:Int) else 0:=by
   by_cases hl:A<s.size
   · rw [if_pos hl,drop_bt s A hl];rfl
   rw [if_neg hl,List.drop_of_length_le (by rw [bytesOf_length];omega)];rfl
  obtain ⟨d,hdd⟩:∃ d,runL isDi ((bytesOf s).drop A)=d:=⟨_,rfl⟩
  simp only [hdd]
  have hcond:(d=0∨9<d∨(rd ((bytesOf s).drop A) 0=48∧1<d)∨decv (((bytesOf s).drop A).take d)<least) ↔ (d=0∨9<d∨(bt s (A:Int)=48∧1<d)∨decv (((bytesOf s).drop A).take (min d 9))<least):=by
   by_cases h0:d=0
   · simp [h0]
   by_cases h9:9<d
   · simp [h9]
   have hl:A<s.size:=by
    apply Classical.byContradiction
    intro hl
    have:=run_end (p:=isDi) (s:=s) hl
    omega
   rw [hrd,if_pos hl,show min d 9=d by omega]
  by_cases hc:d=0∨9<d∨(rd ((bytesOf s).drop A) 0=48∧1<d)∨decv (((bytesOf s).drop A).take d)<least
  ·rw [if_pos (hcond.1 hc),if_pos hc]
   show ((-1:Int),((a+bl ((bytesOf s).drop a):Nat):Int))=_
   rw [hAA]
  rw [if_neg (fun h=>hc (hcond.2 h)),if_neg hc]
  have h9:min d 9=d:=by
   have:¬ 9<d:=fun h=>hc (.inr (.inl h))
   omega
  show (decv (((bytesOf s).drop A).take d),((a+(bl ((bytesOf s).drop a)+d):Nat):Int))=_
  rw [h9,← Nat.add_assoc,hAA]
 rw [e]
 exact h
theorem number_none {least:Int}{a n:Nat}(ha:a≤s.size)(h:numP least ((bytesOf s).drop a)=(none,n)):Ev (fun k=>exergueref11_number.f k s (a:Int) least) (-1,((a+n:Nat):Int)):=by
 have:=number_ev11 hs least ha
 rwa [h] at this
theorem number_some {least v:Int}{a n:Nat}(ha:a≤s.size)(h:numP least ((bytesOf s).drop a)=(some v,n)):Ev (fun k=>exergueref11_number.f k s (a:Int) least) (v,((a+n:Nat):Int)):=by
 have:=number_ev11 hs least ha
 rwa [h] at this
end
end
def RelBad (W:World)(g:Nat)(s:ByteArray)(a:Nat)(e:Ending)(W':World):Prop:=(∃ c m nt A k cc,e = .returned (.agg #[.int .u8 c,.int .i64 m,.bool nt,.slice A k cc]))∧RdTo W g s a false W'
def RelGood (W:World)(g:Nat)(s:ByteArray)(a:Nat)(x:Rl)(e:Ending)(W':World):Prop:=∃ v,e = .returned (.agg #[.int .u8 x.f0,.int .i64 x.f1,.bool x.f2,v])∧Kd.R k57 57 W' W.heap.size (fun k=>k≠g) v x.f3∧RdTo W g s a true W'
set_option maxHeartbeats 4000000 in
set_option maxRecDepth 100000 in
theorem rel_noop (g:Nat)(s:ByteArray)(a n:Nat)(W:World)(h:Rdr W g s a true)(ha:a≤s.size)(hs:s.size≤140737488351232)(hop:opP ((bytesOf s).drop a)=(none,n)) :
    Calls Tryz.prog 66 #[.pointer (some ⟨g,0,none⟩)] W (RelBad W g s (a+n)):=by
 have hO:=rd_op g s a true (W.alloc (.cells #[.int .u8 0,.int .i64 0,.bool false,.slice none 0 0] 60)) (h.alloc _) ha hs
 unfold OpEndR at hO
 rw [hop] at hO
 simp only at hO
 have hg:g<W.heap.size:=blk_lt h
 have HG:=zA hg
 clear hop h hg
 go_enter Tryz.func66,Tryz.ntmps66
 go_upto_region 1 with (fail)
 go_cut [3] (fun s3 wc=>∃ g3,s3 = .pointer (some ⟨g3,0,none⟩)∧Aside0 (RelSt W g s (a+n) false W.heap.size g3 0 0 false (.slice none 0 0) [] wc))
 case first=>
  go_wp2_with (go_at_call 89;refine hO.mono ?_;rintro e W1 ⟨rfl,hr1⟩;have HR:=zA hr1;clear hr1)
  go_meet
  case rel=>exact ⟨W1.heap.size,rfl,⟨RelSt.start HR.out HG.out⟩⟩
 case rest=>
  obtain ⟨g3,rfl,HS⟩:=hcut
  obtain ⟨⟨c0,c1,c2,f1,f2⟩,d0,d1,d2,d3,k1,k2,k3,y0,y1,y2,y3,e0,e1,e2,e3⟩:=HS.out.cells
  go_wp2
  obtain ⟨z1,z2,z3⟩:=HS.out.done
  exact bodyPost_ret (results_cell_row rfl _ _ _ 60 _ (0,0) _ rfl z2 Tryz.underlying60 rfl (by kernel_rfl)) rfl ⟨⟨_,_,_,_,_,_,rfl⟩,z1⟩
theorem mod_none {t:List Int}{m:Nat}(h:modP t=(none,m)):signP [37] t=true∧∃ j,numP 1 (t.drop (bl t+1))=(none,j)∧m=bl t+1+j:=by
 unfold modP at h
 by_cases hs:signP [37] t=true
 ·rw [if_pos hs] at h
  rcases h2:numP 1 (t.drop (bl t+1)) with ⟨_|b,j⟩
  ·rw [h2] at h
   exact ⟨hs,j,rfl,(congrArg Prod.snd h).symm⟩
  rw [h2] at h;cases h
 rw [if_neg hs] at h;cases h
theorem mod_case {t:List Int}{v:Int}{m:Nat}(h:modP t=(some v,m)):(signP [37] t=true∧∃ j,numP 1 (t.drop (bl t+1))=(some v,j)∧m=bl t+1+j)∨(signP [37] t=false∧v=0∧m=0):=by
 unfold modP at h
 by_cases hs:signP [37] t=true
 ·rw [if_pos hs] at h
  rcases h2:numP 1 (t.drop (bl t+1)) with ⟨_|b,j⟩
  · rw [h2] at h;cases h
  rw [h2] at h
  simp only [Prod.mk.injEq,Option.some.injEq] at h
  obtain ⟨rfl,rfl⟩:=h
  exact .inl ⟨hs,j,rfl,rfl⟩
 rw [if_neg hs] at h
 simp only [Prod.mk.injEq,Option.some.injEq] at h
 exact .inr ⟨by simpa using hs,h.1.symm,h.2.symm⟩
structure SameAt (s:ByteArray)(P Q:Nat):Prop where
  le:P≤s.size
  sg:∀ x,signP x ((bytesOf s).drop P)=signP x ((bytesOf s).drop Q)
  bl_:P+bl ((bytesOf s).drop P)=Q+bl ((bytesOf s).drop Q)
theorem SameAt.refl {s:ByteArray}{P:Nat}(h:P≤s.size):SameAt s P P:=⟨h,fun _=>rfl,rfl⟩
theorem SameAt.skip {s:ByteArray}{P:Nat}(h:P≤s.size):SameAt s (P+bl ((bytesOf s).drop P)) P:=by
 have hb:=bl_drop s P
 refine ⟨run_size isBl s P h,fun x=>?_,?_⟩
 · rw [← hb,sign_skip]
 rw [← hb,bl_bl,Nat.add_zero]
theorem SameAt.has {s:ByteArray}{P Q:Nat}(h:SameAt s P Q)(x:ByteArray):hasTo x s P=hasTo x s Q:=by
 unfold hasTo
 rw [h.sg,h.bl_]
theorem has_same (x:ByteArray){W:World}{g:Nat}{s:ByteArray}{P Q:Nat}{b:Bool}(hq:SameAt s P Q)(h:Rdr W g s P b)(hs:s.size≤140737488351232){r:Bool}{K:Nat}(hr:signP (bytesOf x) ((bytesOf s).drop Q)=r)(hK:hasTo x s Q=K) :
    Calls Tryz.prog 90 #[.pointer (some ⟨g,0,none⟩),.string x] W fun e W'=>e = .returned (.bool r)∧RdTo W g s K b W':=by
 have:=rd_has x g s P b W h hq.le hs
 rw [hq.sg,hr,hq.has,hK] at this
 exact this
theorem num_none (least:Int){W W0 w0:World}{g:Nat}{s:ByteArray}{P n:Nat}{b:Bool}(hG:GL w0)(hB:Below w0.heap.size w0 W0)(hg:w0.heap.size≤g)(h:RdTo W0 g s P b W)(hP:P≤s.size)(hs:s.size≤140737488351232)(hn:numP least ((bytesOf s).drop P)=(none,n)) :
    Calls Tryz.prog 91 #[.pointer (some ⟨g,0,none⟩),.int .i64 least] W fun e W'=>e = .returned (.int .i64 0)∧RdTo W g s (P+n) false W':=by
 have:=rd_number least w0 hG g s P b W h.1 (h.below hB hg) hg hP hs
 unfold NumEnd at this
 rw [hn] at this
 exact this
theorem num_ok (least:Int){W W0 w0:World}{g:Nat}{s:ByteArray}{P n:Nat}{v:Int}{b:Bool}(hG:GL w0)(hB:Below w0.heap.size w0 W0)(hg:w0.heap.size≤g)(h:RdTo W0 g s P b W)(hP:P≤s.size)(hs:s.size≤140737488351232)(hn:numP least ((bytesOf s).drop P)=(some v,n)) :
    Calls Tryz.prog 91 #[.pointer (some ⟨g,0,none⟩),.int .i64 least] W fun e W'=>e = .returned (.int .i64 v)∧RdTo W g s (P+n) b W':=by
 have:=rd_number least w0 hG g s P b W h.1 (h.below hB hg) hg hP hs
 unfold NumEnd at this
 rw [hn] at this
 exact this
theorem op_le {s:ByteArray}{a n:Nat}{r:Option Int}(ha:a≤s.size)(h:opP ((bytesOf s).drop a)=(r,n)):a+n≤s.size:=by
 have h1:=run_size isBl s a ha
 change a+bl ((bytesOf s).drop a)≤s.size at h1
 unfold opP at h
 rw [bl_drop] at h
 split at h
 ·rename_i hc
  have h2:=run_size isLo s _ h1
  rw [hc.1] at h2
  have:=congrArg Prod.snd h
  simp only at this
  omega
 have:=congrArg Prod.snd h
 simp only at this
 omega
theorem num_le {s:ByteArray}{a n:Nat}{least:Int}{r:Option Int}(ha:a≤s.size)(h:numP least ((bytesOf s).drop a)=(r,n)):a+n≤s.size:=by
 have h1:=run_size isBl s a ha
 change a+bl ((bytesOf s).drop a)≤s.size at h1
 unfold numP at h
 simp only at h
 rw [bl_drop] at h
 have h2:=run_size isDi s _ h1
 split at h
 ·have:=congrArg Prod.snd h
  simp only at this
  omega
 have:=congrArg Prod.snd h
 simp only at this
 omega
set_option maxHeartbeats 4000000 in
set_option maxRecDepth 100000 in
theorem rel_nomod (w0:World)(hG:GL w0)(g:Nat)(s:ByteArray)(a n m:Nat)(c:Int)(W:World)(h:Rdr W g s a true)(hB:Below w0.heap.size w0 W)(hg0:w0.heap.size≤g)(ha:a≤s.size)(hs:s.size≤140737488351232)(hop:opP ((bytesOf s).drop a)=(some c,n))(hm:modP ((bytesOf s).drop (a+n))=(none,m)) :
    Calls Tryz.prog 66 #[.pointer (some ⟨g,0,none⟩)] W (RelBad W g s (a+n+m)):=by
 have hO:=rd_op g s a true (W.alloc (.cells #[.int .u8 0,.int .i64 0,.bool false,.slice none 0 0] 60)) (h.alloc _) ha hs
 have hn:=op_le ha hop
 unfold OpEndR at hO
 rw [hop] at hO
 simp only at hO
 have hg:g<W.heap.size:=blk_lt h
 have HG:=zA hg
 obtain ⟨m1,j,m2,rfl⟩:=mod_none hm
 have hK:hasTo ⟨#[37]⟩ s (a+n)=a+n+bl ((bytesOf s).drop (a+n))+1:=by
  unfold hasTo
  rw [show bytesOf (⟨#[37]⟩:ByteArray)=[37] from rfl,m1]
  rfl
 have hle:=hasTo_le ⟨#[37]⟩ s (a+n) hn
 rw [hK] at hle
 have HH:=zA (fun (wc:World) (hr:Rdr wc g s (a+n) true)=>has_same ⟨#[37]⟩ (SameAt.refl hn) hr hs m1 hK)
 rw [List.drop_drop,← Nat.add_assoc] at m2
 have HN:=zA (fun (wc:World) (hr:RdTo W g s (a+n+bl ((bytesOf s).drop (a+n))+1) true wc)=>num_none 1 hG hB hg0 hr hle hs m2)
 rw [show a+n+(bl ((bytesOf s).drop (a+n))+1+j)=a+n+bl ((bytesOf s).drop (a+n))+1+j by omega]
 generalize a+n+bl ((bytesOf s).drop (a+n))+1=K at *
 clear hop hm m1 m2 hK hle hG hB hg0 h hg
 go_enter Tryz.func66,Tryz.ntmps66
 go_upto_region 1 with (fail)
 go_cut [3] (fun s3 wc=>∃ g3,s3 = .pointer (some ⟨g3,0,none⟩)∧Aside0 (RelSt W g s (a+n) true W.heap.size g3 c 0 false (.slice none 0 0) [] wc))
 case first=>
  go_wp2_with (go_at_call 89;refine hO.mono ?_;rintro e W1 ⟨rfl,hr1⟩;have HR:=zA hr1;clear hr1)
  go_meet
  case rel=>exact ⟨W1.heap.size,rfl,⟨RelSt.start HR.out HG.out⟩⟩
 case rest=>
  obtain ⟨g3,rfl,HS⟩:=hcut
  clear hO
  obtain ⟨⟨c0,c1,c2,f1,f2⟩,d0,d1,d2,d3,k1,k2,k3,y0,y1,y2,y3,e0,e1,e2,e3⟩:=HS.out.cells
  go_upto_if 17 with (go_at_call 90;(with_reducible refine (HH.out _ HS.out.rd.rdr).mono ?_);rintro e W2 ⟨rfl,hr2⟩;have HS2:=zA (HS.out.call hr2);clear hr2)
  clear c0 c1 c2 f1 f2 d0 d1 d2 d3 k1 k2 k3 y0 y1 y2 y3 e0 e1 e2 e3
  go_cut [] (fun wc=>Aside0 (RelSt W g s (K+j) false W.heap.size g3 c 0 false (.slice none 0 0) [] wc))
  case first=>
   go_wp2_with (go_at_call 91;(with_reducible refine (HN.out _ HS2.out.rd).mono ?_);rintro e W3 ⟨rfl,hr3⟩;have HS3:=zA (HS2.out.call hr3);clear hr3;obtain ⟨⟨c0,c1,c2,f1,f2⟩,d0,d1,d2,d3,k1,k2,k3,y0,y1,y2,y3,e0,e1,e2,e3⟩:=HS3.out.cells)
   go_meet
   case rel=>exact ⟨HS3.out.set1 0⟩
  case rest=>
   clear HS HS2
   have HS:=hcut
   obtain ⟨⟨c0,c1,c2,f1,f2⟩,d0,d1,d2,d3,k1,k2,k3,y0,y1,y2,y3,e0,e1,e2,e3⟩:=HS.out.cells
   go_wp2
   obtain ⟨z1,z2,z3⟩:=HS.out.done
   exact bodyPost_ret (results_cell_row rfl _ _ _ 60 _ (0,0) _ rfl z2 Tryz.underlying60 rfl (by kernel_rfl)) rfl ⟨⟨_,_,_,_,_,_,rfl⟩,z1⟩
def rngO (x:Rl)(l:List Int)(wh:Bool):Option (Rg→Bool):=
  if wh=true∧x.f1>0 then (oper_Mod.f (l.length+2) l x.f1).bind fun n=>some fun g=>decide (n≥g.f0) && decide (n≤g.f1)
  else if wh=true∧¬ (∀ g ∈ x.f3,(oper_In.f l g.f0 g.f1).isSome) then none else some fun g=>wh && (oper_In.f l g.f0 g.f1 == some true)
inductive InOut (W:World) (x:Rl) (l:List Int) (p:Rg→Bool):Value→Prop
  | one (gn:Nat) (n:Int) (h:W.cell? ⟨gn,0,none⟩=some (.int .i64 n)) (hp:∀ g,p g=(decide (n≥g.f0) && decide (n≤g.f1))):InOut W x l p (.func (.func 82) #[] #[.pointer (some ⟨gn,0,none⟩)])
  | two (gw gl:Nat) (wh:Bool) (A:Option Addr) (c:Nat) (hw:W.cell? ⟨gw,0,none⟩=some (.bool wh)) (hl:W.cell? ⟨gl,0,none⟩=some (.slice A l.length c)) (hC:Kd.C (Kd.int .u8) W A l.length l) (hc:l.length≤c)
      (hI:wh=true→∀ g ∈ x.f3,(oper_In.f l g.f0 g.f1).isSome) (hp:∀ g,p g=(wh && (oper_In.f l g.f0 g.f1 == some true))):InOut W x l p (.func (.func 83) #[] #[.pointer (some ⟨gw,0,none⟩),.pointer (some ⟨gl,0,none⟩)])
theorem InOut.below {W W':World}{x:Rl}{l:List Int}{p:Rg→Bool}{v:Value}(h:InOut W x l p v)(hb:Below W.heap.size W W'):InOut W' x l p v:=by
 have hk:∀ {a:Addr} {u:Value},W.cell? a=some u→W'.cell? a=some u:=fun h=>(hb.cell (World.block_lt_of_cell? W _ h)).trans h
 cases h with
 | one gn n h hp=>exact .one gn n (hk h) hp
 | two gw gl wh A c hw hl hC hc hI hp=>exact .two gw gl wh A c (hk hw) (hk hl) (Kd.C_below hC hb) hc hI hp
theorem in_any {W:World}(x:Rl){l:List Int}{p:Rg→Bool}{v:Value}(hG:GL W)(A0:Option Addr)(c0:Nat)(h:InOut W x l p v)(hr:Kd.C k57 W A0 x.f3.length x.f3)(hc0:x.f3.length≤c0) :
    Calls Tryz.prog 60 #[.slice A0 x.f3.length c0,v] W fun e w'=>e = .returned (.bool (x.f3.any p))∧Below W.heap.size W w':=by
 cases h with
 | one gn n h hp=>
  refine cf_rg1 82 (enters_of Tryz.func82 (by kernel_rfl) rfl) (.pointer (some ⟨gn,0,none⟩)) p A0 c0 x.f3 W hr hc0 (fun g _ W' hb=>?_)
  rw [hp g]
  exact in_1 g gn n W' ((hb.cell (World.block_lt_of_cell? W _ h)).trans h)
 | two gw gl wh A c hw hl hC hc hI hp=>
  refine cf_rg2 83 (enters_of Tryz.func83 (by kernel_rfl) rfl) (.pointer (some ⟨gw,0,none⟩)) (.pointer (some ⟨gl,0,none⟩)) p A0 c0 x.f3 W hr hc0 (fun g hg W' hb=>?_)
  rw [hp g]
  refine in_2 g gw gl wh A l.length c _ W' ((hb.cell (World.block_lt_of_cell? W _ hw)).trans hw) ((hb.cell (World.block_lt_of_cell? W _ hl)).trans hl) (fun ht w1 hb1=>?_)
  obtain ⟨r,hr1⟩:=Option.isSome_iff_exists.mp (hI ht g hg)
  have:(oper_In.f l g.f0 g.f1 == some true)=r:=by rw [hr1];cases r <;> rfl
  rw [this]
  exact oper_In.calls A c l g.f0 g.f1 r w1 ((hG.below hb).below hb1) (Kd.C_below (Kd.C_below hC hb) hb1) hc hr1
theorem rule_in (x:Rl)(A3:Option Addr)(c3:Nat)(A0:Option Addr)(c0:Nat)(l0:List Int)(A1:Option Addr)(c1:Nat)(l1:List Int)(a2 a3:Int)(l:List Int)(wh:Bool)(p:Rg→Bool)(W:World)(hG:GL W)
    (h0:Kd.C (Kd.int .u8) W A0 l0.length l0) (hc0:l0.length≤c0) (h1:Kd.C (Kd.int .u8) W A1 l1.length l1) (hc1:l1.length≤c1)
    (ho:oper_Operand.f l0 l1 a2 a3 x.f0=some (l,wh)) (hp:rngO x l wh=some p) :
    Calls Tryz.prog 61 #[.agg #[.int .u8 x.f0,.int .i64 x.f1,.bool x.f2,.slice A3 x.f3.length c3],.agg #[.slice A0 l0.length c0,.slice A1 l1.length c1,.int .i64 a2,.int .i64 a3]] W fun e w'=>
      ∃ v:Value,e = .returned v∧InOut w' x l p v∧Below W.heap.size W w':=by
 have hO:∀ w,Below W.heap.size W w→Calls Tryz.prog 80 #[.agg #[.slice A0 l0.length c0,.slice A1 l1.length c1,.int .i64 a2,.int .i64 a3],.int .u8 x.f0] w fun e w'=>∃ A c,e = .returned (.tuple #[.slice A l.length c,.bool wh])∧Kd.C (Kd.int .u8) w' A l.length l∧l.length≤c∧Below w.heap.size w w':=by
  intro w hb
  refine (oper_Operand.calls (fun k=>k<W.heap.size) A0 c0 l0 (fun k=>k<W.heap.size) A1 c1 l1 a2 a3 x.f0 l wh w (hG.below hb) (Kd.V_mk hc0 (Kd.F_below (Kd.C_F (Kd.heap_int .u8) h0) hb)) (Kd.V_mk hc1 (Kd.F_below (Kd.C_F (Kd.heap_int .u8) h1) hb)) ho).mono ?_
  rintro e w' ⟨v,rfl,hV,hb'⟩
  obtain ⟨A,c,rfl⟩:=Kd.V_slice hV
  have hR:=Kd.V_reads' hV
  exact ⟨A,c,rfl,hR.2.2,hR.2.1,hb'⟩
 unfold rngO at hp
 by_cases hm:wh=true∧x.f1>0
 ·rw [if_pos hm] at hp
  obtain ⟨n,hn,hp⟩:=Option.bind_eq_some_iff.mp hp
  obtain rfl:=zE hp
  refine (in_at x A3 c3 A0 l0.length c0 A1 l1.length c1 a2 a3 l wh n W hO (fun _ _ w A c hb hC hc=>(oper_Mod.calls (l.length+2) A c l x.f1 n w hC hc hn).mono ?_)).mono ?_
  ·rintro e w' ⟨rfl,hd⟩
   exact ⟨rfl,by first|exact hd|exact hd.below⟩
  rintro e w' ⟨hb,(⟨_,_,gn,rfl,hc⟩|⟨hno,_⟩)⟩
  · exact ⟨_,rfl,.one gn n hc (fun _=>rfl),hb⟩
  exact absurd hm hno
 rw [if_neg hm] at hp
 by_cases hI:wh=true∧¬ (∀ g ∈ x.f3,(oper_In.f l g.f0 g.f1).isSome)
 · rw [if_pos hI] at hp;cases hp
 rw [if_neg hI] at hp
 obtain rfl:=zE hp
 refine (in_at x A3 c3 A0 l0.length c0 A1 l1.length c1 a2 a3 l wh 0 W hO (fun h1 h2=>absurd ⟨h1,h2⟩ hm)).mono ?_
 rintro e w' ⟨hb,(⟨h1,h2,_⟩|⟨_,gw,gl,A,c,rfl,hw,hl,hC,hc⟩)⟩
 · exact absurd ⟨h1,h2⟩ hm
 exact ⟨_,rfl,.two gw gl wh A c hw hl hC hc (fun ht=>Classical.byContradiction fun hn=>hI ⟨ht,hn⟩) (fun _=>rfl),hb⟩
def relN (l0 l1:List Int)(a2 a3:Int)(x:Rl):Option Bool:=(oper_Operand.f l0 l1 a2 a3 x.f0).bind fun q=>(rngO x q.1 q.2).bind fun p=>some (x.f3.any p == x.f2)
def rule_Holds.f (l:List (List Rl))(l0 l1:List Int)(a2 a3:Int):Option Bool:=
  if ∀ row ∈ l,∀ x ∈ row,(relN l0 l1 a2 a3 x).isSome then some (l.any fun row=>!row.any fun x=>relN l0 l1 a2 a3 x == some true) else none
theorem rule_Holds.calls (A0:Option Addr)(c0:Nat)(l0:List (List Rl))(A1_0:Option Addr)(c1_0:Nat)(l1_0:List Int)(A1_1:Option Addr)(c1_1:Nat)(l1_1:List Int)(a1_2 a1_3:Int)(r:Bool)(w:World)(hG:GL w)
    (hr0:Kd.C (Kd.slice 60 k60) w A0 l0.length l0) (hc0:l0.length≤c0) (hr1_0:Kd.C (Kd.int .u8) w A1_0 l1_0.length l1_0) (hc1_0:l1_0.length≤c1_0) (hr1_1:Kd.C (Kd.int .u8) w A1_1 l1_1.length l1_1) (hc1_1:l1_1.length≤c1_1)
    (h:rule_Holds.f l0 l1_0 l1_1 a1_2 a1_3=some r) :
    Calls Tryz.prog 37 #[.slice A0 l0.length c0,.agg #[.slice A1_0 l1_0.length c1_0,.slice A1_1 l1_1.length c1_1,.int .i64 a1_2,.int .i64 a1_3]] w fun e w'=>e = .returned (.bool r)∧Below w.heap.size w w':=by
 unfold rule_Holds.f at h
 split at h
 ·rename_i hs
  obtain rfl:=zE h
  refine holds_all l0 A0 c0 A1_0 l1_0.length c1_0 A1_1 l1_1.length c1_1 a1_2 a1_3 _ w hr0 hc0 (fun row hrow x hx w1 A3 c3 go hb q0 q1 q2 q3 hK hc3=>?_)
  obtain ⟨b,hb1⟩:=Option.isSome_iff_exists.mp (hs row hrow x hx)
  have hbb:(relN l1_0 l1_1 a1_2 a1_3 x == some true)=b:=by rw [hb1];cases b <;> rfl
  rw [hbb]
  unfold relN at hb1
  obtain ⟨⟨l,wh⟩,ho,hb1⟩:=Option.bind_eq_some_iff.mp hb1
  obtain ⟨p,hp,hb1⟩:=Option.bind_eq_some_iff.mp hb1
  obtain rfl:=zE hb1
  exact not_rel x A3 c3 go A1_0 l1_0.length c1_0 A1_1 l1_1.length c1_1 a1_2 a1_3 (x.f3.any p) (fun W v=>InOut W x l p v) w1 q0 q1 q2 q3
   (fun w2 hb2=>rule_in x A3 c3 A1_0 c1_0 l1_0 A1_1 c1_1 l1_1 a1_2 a1_3 l wh p w2 ((hG.below hb).below hb2) (Kd.C_below (Kd.C_below hr1_0 hb) hb2) hc1_0 (Kd.C_below (Kd.C_below hr1_1 hb) hb2) hc1_1 ho hp)
   (fun _ _ _ hio hb2=>hio.below hb2)
   (fun w2 v hb2 hio=>in_any x ((hG.below hb).below hb2) A3 c3 hio (Kd.C_below hK hb2) hc3)
 cases h
theorem figsB_cons (d:Int)(l:List Int):figsB (d :: l)=(!decide (d>9) && figsB l):=by unfold figsB;rw [List.any_cons,Bool.not_or]
theorem refFig_l0 (l:List Int)(hl:l.length≤9223372036854775807)(n:Nat):∀ i:Nat,i+n=l.length→exergueref07_Figures.l0 (n+1) l (i:Int)=some (figsB (l.drop i)):=by
 induction n with
 | zero=>
  intro i hi
  rw [exergueref07_Figures.l0,if_neg (by omega),List.drop_of_length_le (by omega)]
  rfl
 | succ n ih=>
  intro i hi
  rw [exergueref07_Figures.l0,if_pos (by omega),if_pos (by omega),drop_cons l i (by omega),figsB_cons]
  by_cases h:rd l i>9
  · rw [if_pos h];simp [h]
  have h2:wrap64 ((i:Int)+1)=((i+1:Nat):Int):=by rw [w64 _ (by omega) (by omega)];omega
  rw [if_neg h,h2,ih (i+1) (by omega)]
  simp [h]
theorem refFig_ev (l:List Int)(hl:l.length≤9223372036854775807):Ev (fun k=>exergueref07_Figures.f k l) (figsB l):=by
 refine Ev.of (k:=l.length+1) (fun k=>exergueref07_Figures.mono _ k) ?_
 unfold exergueref07_Figures.f
 have:=refFig_l0 l hl l.length 0 (by omega)
 simpa using this
theorem refFull_l0 (l:List Int)(hl:l.length≤1000000000)(n:Nat):∀ i:Nat,i+n=l.length→exergueref07_Full.l0 (n+1) l (fullN (l.take i):Int) (i:Int)=some (fullN l:Int):=by
 induction n with
 | zero=>
  intro i hi
  rw [exergueref07_Full.l0,if_neg (by omega),List.take_of_length_le (by omega)]
 | succ n ih=>
  intro i hi
  have h2:wrap64 ((i:Int)+1)=((i+1:Nat):Int):=by rw [w64 _ (by omega) (by omega)];omega
  have ht:=take_succ_snoc l i (by omega)
  rw [exergueref07_Full.l0,if_pos (by omega),if_pos (by omega),h2]
  by_cases h:rd l i=0
  ·have e:fullN (l.take i)=fullN (l.take (i+1)):=by rw [ht,h,fullN_zero]
   rw [if_pos h,e]
   exact ih (i+1) (by omega)
  have e:(i+1:Nat)=fullN (l.take (i+1)):=by rw [ht,fullN_other _ h,List.length_take];omega
  rw [if_neg h]
  have:=ih (i+1) (by omega)
  rwa [← e] at this
theorem refFull_ev (l:List Int)(hl:l.length≤1000000000):Ev (fun k=>exergueref07_Full.f k l) (fullN l:Int):=by
 refine Ev.of (k:=l.length+1) (fun k=>exergueref07_Full.mono _ k) ?_
 unfold exergueref07_Full.f
 have:=refFull_l0 l hl l.length 0 (by omega)
 simpa [fullN_nil] using this
theorem bare_cons (l:List Int)(h:0<l.length):Bare l ↔ rd l 0≠0:=by
 unfold Bare
 constructor
 ·rintro (rfl|h1)
  · simp at h
  exact h1
 exact .inr
theorem refRight_ev (i f:List Int)(w c:Int)(hi:i.length≤9223372036854775807)(hf:f.length≤1000000000):Ev (fun k=>exergueref07_Right.f k i f w c) (decide (RightO i f w c)):=by
 unfold exergueref07_Right.f
 refine Ev.bind (refFig_ev i hi) ?_
 refine Ev.bind (refFig_ev f (by omega)) ?_
 have off:¬ RightO i f w c→decide (RightO i f w c)=false:=fun h=>zD h
 cases h1:figsB i with
 | false=>
  rw [off (by unfold RightO;rw [h1];simp)]
  simp only [Bool.false_eq_true,if_false]
  exact Ev.now _
 | true=>
  cases h2:figsB f with
  | false=>
   rw [off (by unfold RightO;rw [h2];simp)]
   simp only [Bool.false_eq_true,if_false,if_true]
   exact Ev.now _
  | true=>
   simp only [if_true]
   have tail:Bare i→Ev (fun n=>(exergueref07_Full.f n f).bind fun t=>(some (decide (w=t) && (decide (0≤c) && decide (c≤1000))))) (decide (RightO i f w c)):=by
    intro h3
    refine Ev.bind (refFull_ev f hf) ?_
    have:(decide (w=(fullN f:Int)) && (decide (0≤c) && decide (c≤1000)))=decide (RightO i f w c):=by
     rw [Bool.eq_iff_iff]
     simp only [Bool.and_eq_true,decide_eq_true_eq]
     exact ⟨fun h=>⟨h1,h2,h3,h.1,h.2.1,h.2.2⟩,fun h=>⟨h.2.2.2.1,h.2.2.2.2.1,h.2.2.2.2.2⟩⟩
    rw [this]
    exact Ev.now _
   by_cases h0:(i.length:Int)>0
   ·have h0':(0:Int)<(i.length:Int):=h0
    simp only [if_pos h0,if_pos h0']
    by_cases h3:rd i 0=0
    ·simp only [if_pos h3]
     rw [off (by rintro ⟨_,_,h,_⟩;exact (bare_cons i (by omega)).1 h h3)]
     exact Ev.now _
    simp only [if_neg h3]
    exact tail (.inr h3)
   simp only [if_neg h0]
   exact tail (.inl (List.eq_nil_of_length_eq_zero (by omega)))
theorem mod_both (a d b m:Int):(a % m+d * (b % m)) % m=(a+d * b) % m:=by
 rw [Int.add_emod,Int.emod_emod,Int.mul_emod d (b % m),Int.emod_emod,← Int.mul_emod,← Int.add_emod]
theorem refMod_l0 {l:List Int}(hf:Figs l)(hl:l.length≤1000000){m:Int}(hm:1≤m∧m≤1000000000)(j:Nat):j≤l.length→∀ x:Int,x=(j:Int) - 1→exergueref07_Mod.l0 (j+1) l m (num (l.drop j) % m) (T10 (l.length - j) % m) x=some (num l % m):=by
 induction j with
 | zero=>
  intro _ x hx
  rw [exergueref07_Mod.l0,if_neg (by omega),List.drop_zero]
 | succ j ih=>
  intro hj x hx
  have hx':x=(j:Int):=by omega
  subst hx'
  have hd:=rd_figs hf j
  have h1:=Int.emod_nonneg (num (l.drop (j+1))) (show m≠0 by omega)
  have h2:=Int.emod_lt_of_pos (num (l.drop (j+1))) (show 0<m by omega)
  have h3:=Int.emod_nonneg (T10 (l.length - (j+1))) (show m≠0 by omega)
  have h4:=Int.emod_lt_of_pos (T10 (l.length - (j+1))) (show 0<m by omega)
  have h5:0≤rd l j * (T10 (l.length - (j+1)) % m):=Int.mul_nonneg hd.1 h3
  have h6:rd l j * (T10 (l.length - (j+1)) % m)≤9 * (T10 (l.length - (j+1)) % m):=Int.mul_le_mul_of_nonneg_right hd.2 h3
  rw [exergueref07_Mod.l0,if_pos (by omega),if_pos (by omega),if_pos (by omega),if_neg (by omega)]
  rw [w64 (rd l j) (by omega) (by omega),w64 (rd l j * _) (by omega) (by omega),w64 (_+_) (by omega) (by omega),w64 (_ * 10) (by omega) (by omega),w64 ((j:Int) - 1) (by omega) (by omega)]
  rw [Int.tmod_eq_emod_of_nonneg (by omega),Int.tmod_eq_emod_of_nonneg (by omega),mod_both]
  have e1:num (l.drop (j+1))+rd l j * T10 (l.length - (j+1))=num (l.drop j):=by
   rw [drop_cons l j (by omega),num_cons,List.length_drop]
   omega
  have e2:T10 (l.length - (j+1)) % m * 10 % m=T10 (l.length - j) % m:=by
   have e3:l.length - j=(l.length - (j+1))+1:=by omega
   rw [e3,T10_succ,Int.mul_emod,Int.emod_emod,← Int.mul_emod]
  rw [e1,e2]
  exact ih (by omega) _ rfl
theorem refMod_ev {l:List Int}(hf:Figs l)(hl:l.length≤1000000){m:Int}(hm:1≤m∧m≤1000000000):Ev (fun k=>exergueref07_Mod.f k l m) (num l % m):=by
 refine Ev.of (k:=l.length+1) (fun k=>exergueref07_Mod.mono _ _ k) ?_
 unfold exergueref07_Mod.f
 rw [if_neg (by omega),w64 _ (by omega) (by omega)]
 have:=refMod_l0 hf hl hm l.length (Nat.le_refl _) _ rfl
 rw [List.drop_length,num_nil,Nat.sub_self,T10_zero] at this
 simpa using this
end Go.Proofs.YtgfajgkjbckkgaaGreatDoor.PZ
end
section
noncomputable section
namespace Go.Proofs.YtgfajgkjbckkgaaGreatDoor.PZ
open Go.RowKit Go.Proofs.YtgfajgkjbckkgaaGreatDoorW.PrintWords Go.Proofs.YtgfajgkjbckkgaaGreatDoorW.PrintLast Go.Proofs.YtgfajgkjbckkgaaGreatDoorW.PrintMore
attribute [local go_sem] max2_int min2_int max_two min_two max_three min_three max_four min_four   -- for this text's walks alone
def exergueref11_Right.f (k:Nat)(l0:List (List (S60))):Option (Bool):=(exergueref11_Text.f k l0).bind fun aa=>((exergueref11_Parse.f k aa).bind fun ac=>(if ac.2.2=0 then ((exergueref11_Same.f k l0 ac.1).bind fun ae=>(some ae)) else (some false)))
theorem exergueref11_Right.mono:∀ a0 k,LeO (exergueref11_Right.f k a0) (exergueref11_Right.f (k+1) a0):=by
 intro a0 k
 unfold exergueref11_Right.f
 repeat' first|(with_reducible first|apply exergueref11_Parse.mono|apply exergueref11_Same.mono|apply exergueref11_Text.mono|apply LeO.refl|apply LeO.none|refine LeO.ite ?_ ?_|refine LeO.bind ?_ (fun _=>?_))|apply exergueref11_Parse.mono|apply exergueref11_Same.mono|apply exergueref11_Text.mono|apply LeO.none
set_option maxHeartbeats 8000000 in
set_option maxRecDepth 100000 in
theorem exergueref11_Right.calls (k:Nat)(A0:Option Addr)(c0:Nat)(l0:List (List (S60)))(r:Bool)(w:World)(hr0:Kd.C (Kd.slice 60 k60) w A0 l0.length l0)(hc0:l0.length≤c0)(h:exergueref11_Right.f k l0=some r) :
  Calls Tryz.prog 31 #[.slice A0 l0.length c0] w fun e w'=>e = .returned (.bool r)∧Below w.heap.size w w':=by
 have HR0:=zS hr0
 have HC0:=zS hc0
 clear hr0 hc0
 have HB:=zS (Below.refl w.heap.size w)
 have H:((exergueref11_Text.f k l0).bind fun aa=>((exergueref11_Parse.f k aa).bind fun ac=>(if ac.2.2=0 then ((exergueref11_Same.f k l0 ac.1).bind fun ae=>(some ae)) else (some false))))=some r:=h
 clear h
 replace H:=Option.bind_eq_some_iff.mp H
 obtain ⟨aa,A20,H⟩:=H
 try dsimp only at H
 have A2:=zS A20
 clear A20
 replace H:=Option.bind_eq_some_iff.mp H
 obtain ⟨⟨af,ag,ad⟩,A30,H⟩:=H
 try dsimp only at H
 have A3:=zS A30
 clear A30
 by_cases c4:ad=0
 ·rw [if_pos c4] at H
  have ah:(ad == 0)=true:=zH c4
  have ai:(ad != 0)=false:=zG c4
  clear c4
  replace H:=Option.bind_eq_some_iff.mp H
  obtain ⟨ae,A50,H⟩:=H
  try dsimp only at H
  have A5:=zS A50
  clear A50
  obtain rfl:=zE H
  go_enter Tryz.func31,Tryz.ntmps31
  go_wp2_with (first|((with_reducible refine gate_callee (f:=36) rfl ?_);refine gL (some 8) Tryz.func36 #[.slice A0 l0.length c0] ?_;(with_reducible refine (exergueref11_Text.calls k _ _ l0 aa _ ?side1 HC0.out A2.out).mono ?_);(case side1=>repeat (first|exact HR0.out|(with_reducible refine Kd.C_alloc ?_ _)|(with_reducible refine Kd.C_drewN ?_ _)|(with_reducible refine Kd.C_drew ?_)));rintro e w6 ⟨rfl,hb⟩;refine ⟨_,rfl,?_⟩;replace HB:=bs HB hb;(try clear hb))|((with_reducible refine gate_callee (f:=51) rfl ?_);refine gL (some 9) Tryz.func51 #[.string aa] ?_;(with_reducible refine (exergueref11_Parse.calls k aa af ag ad _ A3.out).mono ?_);rintro e w7 ⟨aj,rfl,ho0,hb⟩;refine ⟨_,rfl,?_⟩;have ab:=zS (Kd.R_lower ho0 (bz HB));replace HB:=bs HB hb;(try clear hb);(try clear hb2);(try clear hk);(try clear hi);(try clear ho0);obtain ⟨Ao8,co8,eo8⟩:=Kd.R_slice ab.out;subst eo8)|(go_at_call 34;(with_reducible refine (exergueref11_Same.calls k _ _ l0 _ _ af ae _ (cb HR0 HB) HC0.out (rc ab) (rl ab) A5.out).mono ?_);rintro e w9 ⟨rfl,hb⟩;replace ab:=rb ab hb;replace HB:=bs HB hb;(try clear hb);(try clear hb2);(try clear hk);(try clear hi)))
  go_ret
  exact ⟨by first|rfl|(simp <;> rfl)|(simp [*] <;> rfl),bQ HB⟩
 rw [if_neg c4] at H
 have ah:(ad == 0)=false:=zF c4
 have ai:(ad != 0)=true:=zI c4
 obtain rfl:=zE H
 go_enter Tryz.func31,Tryz.ntmps31
 go_wp2_with (first|((with_reducible refine gate_callee (f:=36) rfl ?_);refine gL (some 8) Tryz.func36 #[.slice A0 l0.length c0] ?_;(with_reducible refine (exergueref11_Text.calls k _ _ l0 aa _ ?side1 HC0.out A2.out).mono ?_);(case side1=>repeat (first|exact HR0.out|(with_reducible refine Kd.C_alloc ?_ _)|(with_reducible refine Kd.C_drewN ?_ _)|(with_reducible refine Kd.C_drew ?_)));rintro e w10 ⟨rfl,hb⟩;refine ⟨_,rfl,?_⟩;replace HB:=bs HB hb;(try clear hb);(try clear hb2);(try clear hk);(try clear hi))|((with_reducible refine gate_callee (f:=51) rfl ?_);refine gL (some 9) Tryz.func51 #[.string aa] ?_;(with_reducible refine (exergueref11_Parse.calls k aa af ag ad _ A3.out).mono ?_);rintro e w11 ⟨aj,rfl,ho0,hb⟩;refine ⟨_,rfl,?_⟩;have ab:=zS (Kd.R_lower ho0 (bz HB));replace HB:=bs HB hb;(try clear hb);(try clear hb2);(try clear hk);(try clear hi);(try clear ho0)))
 go_ret
 exact ⟨by first|rfl|(simp <;> rfl)|(simp [*] <;> rfl),bQ HB⟩
end Go.Proofs.YtgfajgkjbckkgaaGreatDoor.PZ
end
end
