/- Texts of this seat, joined. Conditions: none beyond each statement's own. -/
import Derived.Test.YtgfajgkjbckkgaaGreatDoorPd19
set_option linter.all false
section
set_option maxRecDepth 100000
namespace Go.Proofs.YtgfajgkjbckkgaaGreatDoor.PZ
open Go.RowKit Go.Proofs.YtgfajgkjbckkgaaGreatDoorW.PrintWords Go.Proofs.YtgfajgkjbckkgaaGreatDoorW.PrintLast
theorem set_same {l:List Ru}{i:Nat}(hi:i<l.length)(c:Int):(decide (l=l.set i ⟨c,(l.getD i ⟨0,[]⟩).f1⟩) == ((l.getD i ⟨0,[]⟩).f0 == c))=true:=by
 have hg:l.getD i ⟨0,[]⟩=l[i]:=by rw [List.getD_eq_getElem?_getD,List.getElem?_eq_getElem hi];rfl
 rw [hg]
 by_cases e:(l[i]).f0=c
 ·have h:l.set i ⟨c,(l[i]).f1⟩=l:=by
   rw [← e]
   exact List.set_getElem_self hi
  rw [h,zC rfl,e]
  simp
 have h:¬ l=l.set i ⟨c,(l[i]).f1⟩:=by
  intro h
  have h2:l[i]=(⟨c,(l[i]).f1⟩:Ru):=by
   have h3:l[i]?=(l.set i ⟨c,(l[i]).f1⟩)[i]?:=by rw [← h]
   rw [List.getElem?_set_self hi,List.getElem?_eq_getElem hi] at h3
   exact zE h3
  exact e (congrArg (·.f0) h2)
 rw [zD h]
 simp [e]
theorem Pure.PlurSames:∀ (x0:List S65) (x1:Int) (x2:Int),OkRus x0→(Lit.int .i64 x1).wf=true→(Lit.int .i64 x2).wf=true→∃ k,exerguelaw12_PlurSames.f k x0 x1 x2=some true:=by
 intro l a c hl ha hc
 refine Ev.rounds ?_
 unfold exerguelaw12_PlurSames.f
 refine Ev.bind shown12_ev ?_
 obtain ⟨s1,S1,P1⟩:=shortR_ev hl.len.1 hl.len.2
 refine Ev.bind S1 ?_
 cases s1 with
 | false=>simp only [Bool.false_eq_true,if_false];exact Ev.now _
 | true=>
  simp only [if_true]
  by_cases q0:0≤a
  ·by_cases q1:a<(l.length:Int)
   ·have h8:l.length≤1000:=by have:=(P1 rfl).1;omega
    have hi:a.toNat<l.length:=by omega
    have e1:decide (l=l.take (l.length - 1))=false:=by
     refine zD (fun e=>?_)
     have:=congrArg List.length e
     rw [List.length_take] at this
     omega
    simp only [if_pos q0,if_pos q1,if_pos h8,e1,set_same hi]
    exact Ev.now _
   simp only [if_pos q0,if_neg q1];exact Ev.now _
  simp only [if_neg q0];exact Ev.now _
end Go.Proofs.YtgfajgkjbckkgaaGreatDoor.PZ
end
