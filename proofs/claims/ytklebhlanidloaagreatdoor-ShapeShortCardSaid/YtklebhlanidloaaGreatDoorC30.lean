/- Texts of this seat, joined. Conditions: none beyond each statement's own. -/
import Derived.Test.YtklebhlanidloaaGreatDoorC28
section
set_option maxRecDepth 100000
set_option linter.unusedSimpArgs false
set_option linter.unusedVariables false
namespace Go.Proofs.YtklebhlanidloaaGreatDoor.PZ
open Go.RowKit Go.Proofs.YtklebhlanidloaaGreatDoorW.PrintWords Go.Proofs.YtklebhlanidloaaGreatDoorW.PrintLast
structure OfOk (s:PS)(dg:Int):Prop where
  n:s.nums
  ok:s.ok
  dg:dg≤40
theorem numsB_ok {s q:PS}(h:numsB s q=true)(hq:q.ok):s.ok:=by
 simp only [numsB,numsB1,numsB2,numsB3,Bool.and_eq_true,beq_iff_eq] at h
 obtain ⟨_,⟨_,_,h1,h2⟩,h3,h4,_⟩:=h
 unfold PS.ok at hq ⊢
 rw [h1,h2,h3,h4]
 exact hq
theorem rightB_ok {s:PS}{l0 l1 l2 l3:PRow}(h:rightB s l0 l1 l2 l3=true):s.nums∧s.ok:=by
 unfold rightB at h
 split at h
 ·rename_i h1
  refine ⟨nums_all h1,?_⟩
  split at h
  ·split at h
   ·split at h
    ·cases hp:parseO (bytesOf (textS s l0 l1 l2 l3)) with
     | none=>rw [hp] at h;cases h
     | some r=>
      obtain ⟨q,m0,m1,m2,m3⟩:=r
      rw [hp] at h
      simp only [backB,Bool.and_eq_true] at h
      exact numsB_ok h.2.2 (parseO_ok hp)
    cases h
   cases h
  cases h
 cases h
theorem of_cases (l0 l1 l2 l3:PRow)(a4:Bool)(a5 a6 a7 a8 a9 a10 a11 a12 a13:Int)(a14:Bool)(a15 a16 dg:Int)(h0:l0.length≤140737488351232)(h1:l1.length≤140737488351232)(h2:l2.length≤140737488351232)(h3:l3.length≤140737488351232) :
    (exerguelaw17_of.f l0 l1 l2 l3 a4 a5 a6 a7 a8 a9 a10 a11 a12 a13 a14 a15 a16 dg=some true∧OfOk ⟨a4,a5,a6,a7,a8,a9,a10,a11,a12,a13,a14,a15,a16⟩ dg)∨exerguelaw17_of.f l0 l1 l2 l3 a4 a5 a6 a7 a8 a9 a10 a11 a12 a13 a14 a15 a16 dg=some false:=by
 unfold exerguelaw17_of.f exergueref10_Few.f
 rw [w64 ((l0.length:Int)+l1.length) (by omega) (by omega),w64 ((l0.length:Int)+l1.length+l2.length) (by omega) (by omega),w64 ((l0.length:Int)+l1.length+l2.length+l3.length) (by omega) (by omega)]
 simp only [Option.bind_some]
 by_cases hf:(l0.length:Int)+l1.length+l2.length+l3.length≤300
 ·rw [decide_eq_true hf,if_pos rfl]
  unfold exergueref10_Right.f
  rw [if_pos (by omega)]
  simp only [Option.bind_some]
  cases hr:rightB ⟨a4,a5,a6,a7,a8,a9,a10,a11,a12,a13,a14,a15,a16⟩ l0 l1 l2 l3 with
  | true=>
   rw [if_pos rfl]
   by_cases hd:dg≤40
   ·rw [decide_eq_true hd]
    exact .inl ⟨rfl,(rightB_ok hr).1,(rightB_ok hr).2,hd⟩
   rw [decide_eq_false hd]
   exact .inr rfl
  | false=>exact .inr rfl
 rw [decide_eq_false hf]
 exact .inr rfl
theorem OfOk.fig {s:PS}{dg:Int}(h:OfOk s dg){l:List Int}{e:Int}(hl:l.length≤100000)(he : -100000≤e∧e≤100000):FigOk s dg l e:=
  ⟨hl,he,by have:=h.dg;omega,by have:=h.n.minInt;omega,by have:=h.n.minFrac;omega,by have:=h.n.minSig;omega⟩
end Go.Proofs.YtklebhlanidloaaGreatDoor.PZ
end
section
set_option maxRecDepth 100000
namespace Go.Proofs.YtklebhlanidloaaGreatDoor.PZ
open Go.RowKit Go.Proofs.YtklebhlanidloaaGreatDoorW.PrintWords Go.Proofs.YtklebhlanidloaaGreatDoorW.PrintLast
theorem shown_true:exerguelaw17_shown.f 60=some true:=by kernel_rfl
theorem shown_ev:Ev (fun k=>exerguelaw17_shown.f k) true:=Ev.of (k:=60) exerguelaw17_shown.mono shown_true
end Go.Proofs.YtklebhlanidloaaGreatDoor.PZ
end
