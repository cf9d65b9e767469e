/- Texts of this seat, joined. Conditions: none beyond each statement's own. -/
import Derived.Test.YtgfajgkjbckkgaaGreatDoorPc21
import Derived.Test.YtgfajgkjbckkgaaGreatDoorPc20
set_option linter.all false
section
noncomputable section
namespace Go.Proofs.YtgfajgkjbckkgaaGreatDoor.PZ
open Go.RowKit Go.Proofs.YtgfajgkjbckkgaaGreatDoorW.PrintWords Go.Proofs.YtgfajgkjbckkgaaGreatDoorW.PrintLast Go.Proofs.YtgfajgkjbckkgaaGreatDoorW.PrintMore
attribute [local go_sem] max2_int min2_int max_two min_two max_three min_three max_four min_four   -- for this text's walks alone
def rule_Right.f (k:Nat)(l0:List (List (S60))):Option (Bool):=(rule_Text.f k l0).bind fun aa=>((rule_Parse.f aa).bind fun ac=>(if ac.2.2=0 then ((rule_Same.f l0 ac.1).bind fun ae=>(some ae)) else (some false)))
theorem rule_Right.mono:∀ a0 k,LeO (rule_Right.f k a0) (rule_Right.f (k+1) a0):=by
 intro a0 k
 unfold rule_Right.f
 repeat' first|(with_reducible first|apply rule_Text.mono|apply LeO.refl|apply LeO.none|refine LeO.ite ?_ ?_|refine LeO.bind ?_ (fun _=>?_))|apply rule_Text.mono|apply LeO.none
set_option maxHeartbeats 8000000 in
set_option maxRecDepth 100000 in
theorem rule_Right.calls (k:Nat)(A0:Option Addr)(c0:Nat)(l0:List (List (S60)))(r:Bool)(w:World)(hG:GL w)(hr0:Kd.C (Kd.slice 60 k60) w A0 l0.length l0)(hc0:l0.length≤c0)(h:rule_Right.f k l0=some r) :
  Calls Tryz.prog 32 #[.slice A0 l0.length c0] w fun e w'=>e = .returned (.bool r)∧Below w.heap.size w w':=by
 have HR0:=zS hr0
 have HC0:=zS hc0
 clear hr0 hc0
 have HB:=zS (Below.refl w.heap.size w)
 have HG:=zS hG
 clear hG
 have H:((rule_Text.f k l0).bind fun aa=>((rule_Parse.f aa).bind fun ac=>(if ac.2.2=0 then ((rule_Same.f l0 ac.1).bind fun ae=>(some ae)) else (some false))))=some r:=h
 clear h
 replace H:=Option.bind_eq_some_iff.mp H
 obtain ⟨aa,A20,H⟩:=H
 try dsimp only at H
 have A2:=zS A20
 clear A20
 replace H:=Option.bind_eq_some_iff.mp H
 obtain ⟨⟨af,ag,ad⟩,A30,H⟩:=H
 try dsimp only at H
 have A3:=zS A30
 clear A30
 by_cases c4:ad=0
 ·rw [if_pos c4] at H
  have ah:(ad == 0)=true:=zH c4
  have ai:(ad != 0)=false:=zG c4
  clear c4
  replace H:=Option.bind_eq_some_iff.mp H
  obtain ⟨ae,A50,H⟩:=H
  try dsimp only at H
  have A5:=zS A50
  clear A50
  obtain rfl:=zE H
  go_enter Tryz.func32,Tryz.ntmps32
  go_wp2_with (first|((with_reducible refine gate_callee (f:=35) rfl ?_);refine gL (some 8) Tryz.func35 #[.slice A0 l0.length c0] ?_;(with_reducible refine (rule_Text.calls k _ _ l0 aa _ ?side3 ?side1 HC0.out A2.out).mono ?_);(case side1=>repeat (first|exact HR0.out|(with_reducible refine Kd.C_alloc ?_ _)|(with_reducible refine Kd.C_drewN ?_ _)|(with_reducible refine Kd.C_drew ?_)));(case side3=>refine GL.below HG.out ?_;exact bQ HB);rintro e w6 ⟨rfl,hb⟩;refine ⟨_,rfl,?_⟩;replace HB:=bs HB hb;(try clear hb))|((with_reducible refine gate_callee (f:=39) rfl ?_);refine gL (some 9) Tryz.func39 #[.string aa] ?_;(with_reducible refine (rule_Parse.calls aa af ag ad _ ?side1 A3.out).mono ?_);(case side1=>refine GL.below HG.out ?_;exact bQ HB);rintro e w7 ⟨aj,rfl,ho0,hb⟩;refine ⟨_,rfl,?_⟩;have ab:=zS (Kd.R_lower ho0 (bz HB));replace HB:=bs HB hb;(try clear hb);(try clear hb2);(try clear hk);(try clear hi);(try clear ho0);obtain ⟨Ao8,co8,eo8⟩:=Kd.R_slice ab.out;subst eo8)|(go_at_call 33;(with_reducible refine (rule_Same.calls _ _ l0 _ _ af ae _ (cb HR0 HB) HC0.out (rc ab) (rl ab) A5.out).mono ?_);rintro e w9 ⟨rfl,hb⟩;replace ab:=rb ab hb;replace HB:=bs HB hb;(try clear hb);(try clear hb2);(try clear hk);(try clear hi)))
  go_ret
  exact ⟨by first|rfl|(simp <;> rfl)|(simp [*] <;> rfl),bQ HB⟩
 rw [if_neg c4] at H
 have ah:(ad == 0)=false:=zF c4
 have ai:(ad != 0)=true:=zI c4
 obtain rfl:=zE H
 go_enter Tryz.func32,Tryz.ntmps32
 go_wp2_with (first|((with_reducible refine gate_callee (f:=35) rfl ?_);refine gL (some 8) Tryz.func35 #[.slice A0 l0.length c0] ?_;(with_reducible refine (rule_Text.calls k _ _ l0 aa _ ?side3 ?side1 HC0.out A2.out).mono ?_);(case side1=>repeat (first|exact HR0.out|(with_reducible refine Kd.C_alloc ?_ _)|(with_reducible refine Kd.C_drewN ?_ _)|(with_reducible refine Kd.C_drew ?_)));(case side3=>refine GL.below HG.out ?_;exact bQ HB);rintro e w10 ⟨rfl,hb⟩;refine ⟨_,rfl,?_⟩;replace HB:=bs HB hb;(try clear hb);(try clear hb2);(try clear hk);(try clear hi))|((with_reducible refine gate_callee (f:=39) rfl ?_);refine gL (some 9) Tryz.func39 #[.string aa] ?_;(with_reducible refine (rule_Parse.calls aa af ag ad _ ?side1 A3.out).mono ?_);(case side1=>refine GL.below HG.out ?_;exact bQ HB);rintro e w11 ⟨aj,rfl,ho0,hb⟩;refine ⟨_,rfl,?_⟩;have ab:=zS (Kd.R_lower ho0 (bz HB));replace HB:=bs HB hb;(try clear hb);(try clear hb2);(try clear hk);(try clear hi);(try clear ho0)))
 go_ret
 exact ⟨by first|rfl|(simp <;> rfl)|(simp [*] <;> rfl),bQ HB⟩
end Go.Proofs.YtgfajgkjbckkgaaGreatDoor.PZ
end
end
section
set_option maxRecDepth 100000
namespace Go.Proofs.YtgfajgkjbckkgaaGreatDoor.PZ
open Go.RowKit Go.Proofs.YtgfajgkjbckkgaaGreatDoorW.PrintWords Go.Proofs.YtgfajgkjbckkgaaGreatDoorW.PrintLast
section
section
variable {i f:List Int}{w c:Int}(h:OpOk i f w c)
include h
end
theorem refRight11 {c:List (List Rl)}(hc:TxtOk c)(hl:LenOk c):Ev (fun k=>exergueref11_Right.f k c) (rightP c):=by
 unfold exergueref11_Right.f rightP
 refine Ev.bind (rtext_ev hc) ?_
 refine Ev.bind (refParse_ev _) ?_
 rw [condB_bytes hc.n]
 generalize parseP (condT [32] c)=p
 obtain ⟨d,n,e⟩:=p
 simp only
 by_cases he:e=0
 ·simp only [if_pos he,zC he,Bool.true_and]
  exact Ev.bind (same_ev11 hl) (Ev.now _)
 simp only [if_neg he,zD he,Bool.false_and]
 exact Ev.now _
theorem ruleRight11 {c:List (List Rl)}(hc:TxtOk c):Ev (fun k=>rule_Right.f k c) (rightP c):=by
 have hlen:=condT_len hc.n
 have hw:=hc.w
 unfold rule_Right.f rightP
 refine Ev.bind (text_ev hc) ?_
 unfold rule_Parse.f
 rw [condB_bytes hc.n,strOfNums_size]
 simp only [if_pos (show (condT [32] c).length≤140737488351232 by omega),Option.bind_some]
 generalize parseP (condT [32] c)=p
 obtain ⟨d,n,e⟩:=p
 simp only
 by_cases he:e=0
 ·simp only [if_pos he,zC he,Bool.true_and]
  unfold rule_Same.f
  exact Ev.now _
 simp only [if_neg he,zD he,Bool.false_and]
 exact Ev.now _
theorem mem_rows:∀ {r:List (Rl×Bool)} {l:List Rl} {row:List Rl} {x:Rl},row ∈ rowsOf l r→x ∈ row→x ∈ l∨∃ o,(x,o) ∈ r
  | [],l,row,x,h1,h2=>by
    simp only [rowsOf,List.mem_singleton] at h1
    subst h1;exact .inl h2
  | (y,true) :: r,l,row,x,h1,h2=>by
    simp only [rowsOf,List.mem_cons] at h1
    rcases h1 with rfl|h1
    · rcases List.mem_append.1 h2 with h|h
      · exact .inl h
      · rw [List.mem_singleton] at h;subst h;exact .inr ⟨true,by simp⟩
    · rcases mem_rows h1 h2 with h|⟨o,h⟩
      · cases h
      · exact .inr ⟨o,by simp [h]⟩
  | (y,false) :: r,l,row,x,h1,h2=>by
    simp only [rowsOf] at h1
    rcases mem_rows h1 h2 with h|⟨o,h⟩
    · rcases List.mem_append.1 h with h|h
      · exact .inl h
      · rw [List.mem_singleton] at h;subst h;exact .inr ⟨false,by simp⟩
    · exact .inr ⟨o,by simp [h]⟩
theorem wC_rows:∀ (r:List (Rl×Bool)) (l:List Rl),wC (rowsOf l r)≤1+r.length+(l.map wR).sum+(r.map fun x=>wR x.1).sum
  | [],l=>by simp [rowsOf,wC,wRow]
  | (y,true) :: r,l=>by
    have:=wC_rows r []
    simp only [rowsOf]
    unfold wC at this ⊢
    rw [List.map_cons,List.sum_cons]
    simp only [wRow,List.map_append,List.sum_append,List.map_cons,List.map_nil,List.sum_cons,List.sum_nil,List.length_cons] at this ⊢
    omega
  | (y,false) :: r,l=>by
    have:=wC_rows r (l ++ [y])
    simp only [rowsOf]
    simp only [List.map_append,List.sum_append,List.map_cons,List.map_nil,List.sum_cons,List.sum_nil,List.length_cons] at this ⊢
    omega
theorem wC_full {r:List (Rl×Bool)}(h:fullP r=false):wC (rowsOf [] r)≤1000:=by
 unfold fullP at h
 rw [Bool.or_eq_false_iff,decide_eq_false_iff_not,List.any_eq_false] at h
 have h1:=wC_rows r []
 have h2:=sum_le (f:=fun x:Rl×Bool=>wR x.1) (g:=fun _=>21) (l:=r) (fun x hx=>by
  have:=h.2 x hx
  simp at this
  unfold wR;omega)
 rw [sum_const] at h2
 simp only [List.map_nil,List.sum_nil] at h1
 omega
structure GoodC (c:List (List Rl)):Prop where
  gw:wC c≤1000
  gx:∀ row ∈ c,∀ x ∈ row,GoodX x
theorem goodC_nil:GoodC []:=⟨by simp [wC],by simp⟩
theorem parse_good (t:List Int):GoodC (parseP t).1:=by
 unfold parseP
 split
 · exact goodC_nil
 rcases hh:relsP t with ⟨_|r,n⟩
 · exact goodC_nil
 obtain ⟨hE,hg⟩:=rels_some _ _ _ _ hh
 by_cases hf:fullP r=true
 · simp only [if_pos hf];exact goodC_nil
 simp only [if_neg hf]
 refine ⟨wC_full (by simpa using hf),fun row hr x hx=>?_⟩
 rcases mem_rows hr hx with h|⟨o,h⟩
 · cases h
 exact hg (x,o) h
theorem right_good {c:List (List Rl)}(h:rightP c=true):GoodC c:=by
 obtain ⟨r,_,hg,hr,_,hf,_⟩:=right_runs h
 subst hr
 refine ⟨wC_full hf,fun row hrow x hx=>?_⟩
 rcases mem_rows hrow hx with h|⟨o,h⟩
 · cases h
 exact hg (x,o) h
theorem isOp_byte {c:Int}(h:isOp c=true):0≤c∧c≤255:=by
 have:=op_low h
 unfold isLo at this
 simp at this
 omega
theorem GoodC.txt {c:List (List Rl)}(h:GoodC c):TxtOk c:=by
 refine ⟨by have:=h.gw;omega,fun row hr x hx=>?_⟩
 obtain ⟨g0,g1,g2,_,g3⟩:=h.gx row hr x hx
 refine ⟨isOp_byte g0,⟨by omega,by omega⟩,fun r hrr=>?_⟩
 obtain ⟨r0,r1,r2⟩:=g3 r hrr
 exact ⟨⟨by omega,by omega⟩,⟨by omega,by omega⟩⟩
theorem GoodC.len {c:List (List Rl)}(h:GoodC c):LenOk c:=by
 have hw:=h.gw
 refine ⟨by have:=len_wC c;omega,fun row hr=>?_,fun row hr x hx=>?_⟩
 · have:=wRow_le hr;have:=len_wRow row;omega
 have:=wRow_le hr;have:=wR_le hx;unfold wR at this;omega
theorem GoodC.num {c:List (List Rl)}(h:GoodC c):∀ row ∈ c,∀ x ∈ row,NumX x:=fun row hr x hx=>(h.gx row hr x hx).numX
theorem parse_f {s:ByteArray}(h:s.size≤140737488351232):rule_Parse.f s=some (parseP (bytesOf s)):=by
 unfold rule_Parse.f;rw [if_pos h]
end
end Go.Proofs.YtgfajgkjbckkgaaGreatDoor.PZ
end
section
noncomputable section
namespace Go.Proofs.YtgfajgkjbckkgaaGreatDoor.PZ
open Go.RowKit Go.Proofs.YtgfajgkjbckkgaaGreatDoorW.PrintWords Go.Proofs.YtgfajgkjbckkgaaGreatDoorW.PrintLast Go.Proofs.YtgfajgkjbckkgaaGreatDoorW.PrintMore
attribute [local go_sem] max2_int min2_int max_two min_two max_three min_three max_four min_four   -- for this text's walks alone
def exerguelaw11_shown.f (k:Nat)  : Option (Bool):=(rule_Parse.f (⟨#[110,32,37,32,49,48,32,61,32,49,32,97,110,100,32,110,32,37,32,49,48,48,32,33,61,32,49,49]⟩:ByteArray)).bind fun ac=>(if ac.2.2=0 then (if ac.2.1=0 then (if (ac.1.length:Int)=1 then (if 0<(ac.1.length:Int) then (if ((rd_L7 ac.1 0).length:Int)=2 then ((rule_Holds.f ac.1 (([2,1]:List Int)) ([]:List Int) 0 0).bind fun am=>(if am=true then ((rule_Holds.f ac.1 (([1,1]:List Int)) ([]:List Int) 0 0).bind fun ah=>(if ah=true then (none) else ((rule_Text.f k ac.1).bind fun ag=>(if ag.toList=([110,32,37,32,49,48,32,61,32,49,32,97,110,100,32,110,32,37,32,49,48,48,32,33,61,32,49,49]:List UInt8) then ((rule_Right.f k ac.1).bind fun ai=>(some ai)) else (none))))) else (none))) else (none)) else (none)) else (none)) else (none)) else (none))
theorem exerguelaw11_shown.mono:∀ k,LeO (exerguelaw11_shown.f k ) (exerguelaw11_shown.f (k+1) ):=by
 intro  k
 unfold exerguelaw11_shown.f
 repeat' first|(with_reducible first|apply rule_Right.mono|apply rule_Text.mono|apply LeO.refl|apply LeO.none|refine LeO.ite ?_ ?_|refine LeO.bind ?_ (fun _=>?_))|apply rule_Right.mono|apply rule_Text.mono|apply LeO.none
set_option maxHeartbeats 8000000 in
set_option maxRecDepth 100000 in
theorem exerguelaw11_shown.calls (k:Nat)  (r:Bool)(w:World)(hG:GL w)(h:exerguelaw11_shown.f k  = some r) :
  Calls Tryz.prog 29 #[] w fun e w'=>e = .returned (.bool r)∧Below w.heap.size w w':=by
 have hu36:=Tryz.underlying36
 have HB:=zS (Below.refl w.heap.size w)
 have HG:=zS hG
 clear hG
 have H:((rule_Parse.f (⟨#[110,32,37,32,49,48,32,61,32,49,32,97,110,100,32,110,32,37,32,49,48,48,32,33,61,32,49,49]⟩:ByteArray)).bind fun ac=>(if ac.2.2=0 then (if ac.2.1=0 then (if (ac.1.length:Int)=1 then (if 0<(ac.1.length:Int) then (if ((rd_L7 ac.1 0).length:Int)=2 then ((rule_Holds.f ac.1 (([2,1]:List Int)) ([]:List Int) 0 0).bind fun am=>(if am=true then ((rule_Holds.f ac.1 (([1,1]:List Int)) ([]:List Int) 0 0).bind fun ah=>(if ah=true then (none) else ((rule_Text.f k ac.1).bind fun ag=>(if ag.toList=([110,32,37,32,49,48,32,61,32,49,32,97,110,100,32,110,32,37,32,49,48,48,32,33,61,32,49,49]:List UInt8) then ((rule_Right.f k ac.1).bind fun ai=>(some ai)) else (none))))) else (none))) else (none)) else (none)) else (none)) else (none)) else (none)))=some r:=h
 clear h
 replace H:=Option.bind_eq_some_iff.mp H
 obtain ⟨⟨ad,ap,aq⟩,A10,H⟩:=H
 try dsimp only at H
 have A1:=zS A10
 clear A10
 by_cases c2:aq=0
 rotate_left
 ·rw [if_neg c2] at H
  exact absurd H (by simp)
 rw [if_pos c2] at H
 have aL:(aq == 0)=true:=zH c2
 have aM:(aq != 0)=false:=zG c2
 clear c2
 by_cases c3:ap=0
 rotate_left
 ·rw [if_neg c3] at H
  exact absurd H (by simp)
 rw [if_pos c3] at H
 have aN:(ap == 0)=true:=zH c3
 have aO:(ap != 0)=false:=zG c3
 clear c3
 by_cases c4:(ad.length:Int)=1
 rotate_left
 ·rw [if_neg c4] at H
  exact absurd H (by simp)
 rw [if_pos c4] at H
 have aP:((ad.length:Int) == 1)=true:=zH c4
 have aQ:((ad.length:Int) != 1)=false:=zG c4
 clear c4
 by_cases c5:0<(ad.length:Int)
 rotate_left
 ·rw [if_neg c5] at H
  exact absurd H (by simp)
 rw [if_pos c5] at H
 have aR:=zC c5
 have aS:decide (0<ad.length)=true:=zC (by omega)
 clear c5
 by_cases c6:((rd_L7 ad 0).length:Int)=2
 rotate_left
 ·rw [if_neg c6] at H
  exact absurd H (by simp)
 rw [if_pos c6] at H
 have aT:(((rd_L7 ad 0).length:Int) == 2)=true:=zH c6
 have aU:(((rd_L7 ad 0).length:Int) != 2)=false:=zG c6
 clear c6
 obtain ⟨ax,ak⟩:∃ y_:List Int,y_=(([2,1]:List Int)):=⟨_,rfl⟩
 replace H:((rule_Holds.f ad ax ([]:List Int) 0 0).bind fun am=>(if am=true then ((rule_Holds.f ad (([1,1]:List Int)) ([]:List Int) 0 0).bind fun ah=>(if ah=true then (none) else ((rule_Text.f k ad).bind fun ag=>(if ag.toList=([110,32,37,32,49,48,32,61,32,49,32,97,110,100,32,110,32,37,32,49,48,48,32,33,61,32,49,49]:List UInt8) then ((rule_Right.f k ad).bind fun ai=>(some ai)) else (none))))) else (none)))=some r:=by first|(rw [ak];with_reducible exact H)|(have H2_:=(Option.bind_some _ _).symm.trans H;rw [ak];with_reducible exact H2_)|(have H2_:=(Option.bind_some _ _).symm.trans H;with_reducible exact H2_)|with_reducible exact H|(rw [ak];exact H)|exact H
 have av:=zS ak
 clear ak
 replace H:=Option.bind_eq_some_iff.mp H
 obtain ⟨am,A70,H⟩:=H
 try dsimp only at H
 have A7:=zS A70
 clear A70
 by_cases c8:am=true
 rotate_left
 ·replace c8:=Bool.eq_false_iff.mpr c8
  subst c8
  rw [if_neg (show ¬ (false=true) by decide)] at H
  exact absurd H (by simp)
 subst c8
 rw [if_pos rfl] at H
 obtain ⟨ay,al⟩:∃ y_:List Int,y_=(([1,1]:List Int)):=⟨_,rfl⟩
 replace H:((rule_Holds.f ad ay ([]:List Int) 0 0).bind fun ah=>(if ah=true then (none) else ((rule_Text.f k ad).bind fun ag=>(if ag.toList=([110,32,37,32,49,48,32,61,32,49,32,97,110,100,32,110,32,37,32,49,48,48,32,33,61,32,49,49]:List UInt8) then ((rule_Right.f k ad).bind fun ai=>(some ai)) else (none)))))=some r:=by first|(rw [al];with_reducible exact H)|(have H2_:=(Option.bind_some _ _).symm.trans H;rw [al];with_reducible exact H2_)|(have H2_:=(Option.bind_some _ _).symm.trans H;with_reducible exact H2_)|with_reducible exact H|(rw [al];exact H)|exact H
 have aw:=zS al
 clear al
 replace H:=Option.bind_eq_some_iff.mp H
 obtain ⟨ah,A90,H⟩:=H
 try dsimp only at H
 have A9:=zS A90
 clear A90
 by_cases c10:ah=true
 ·subst c10
  rw [if_pos rfl] at H
  exact absurd H (by simp)
 replace c10:=Bool.eq_false_iff.mpr c10
 subst c10
 rw [if_neg (show ¬ (false=true) by decide)] at H
 replace H:=Option.bind_eq_some_iff.mp H
 obtain ⟨ag,az,H⟩:=H
 try dsimp only at H
 have A11:=zS az
 clear az
 by_cases c12:ag.toList=([110,32,37,32,49,48,32,61,32,49,32,97,110,100,32,110,32,37,32,49,48,48,32,33,61,32,49,49]:List UInt8)
 rotate_left
 ·rw [if_neg c12] at H
  exact absurd H (by simp)
 rw [if_pos c12] at H
 have aI:(ag.toList == ([110,32,37,32,49,48,32,61,32,49,32,97,110,100,32,110,32,37,32,49,48,48,32,33,61,32,49,49]:List UInt8))=true:=zH c12
 have aJ:(ag.toList != ([110,32,37,32,49,48,32,61,32,49,32,97,110,100,32,110,32,37,32,49,48,48,32,33,61,32,49,49]:List UInt8))=false:=zG c12
 clear c12
 replace H:=Option.bind_eq_some_iff.mp H
 obtain ⟨ai,aA,H⟩:=H
 try dsimp only at H
 have A13:=zS aA
 clear aA
 obtain rfl:=zE H
 go_enter Tryz.func29,Tryz.ntmps29
 have tok_0:=zA (show Aside0 (0=0) from ⟨rfl⟩)
 have tok_1:=zA (show Aside0 (1=1) from ⟨rfl⟩)
 go_wp2_with (first|((with_reducible refine gate_callee (f:=39) rfl ?_);refine gL (some 5) Tryz.func39 #[.string (⟨#[110,32,37,32,49,48,32,61,32,49,32,97,110,100,32,110,32,37,32,49,48,48,32,33,61,32,49,49]⟩:ByteArray)] ?_;(with_reducible refine (rule_Parse.calls (⟨#[110,32,37,32,49,48,32,61,32,49,32,97,110,100,32,110,32,37,32,49,48,48,32,33,61,32,49,49]⟩:ByteArray) ad ap aq _ ?side1 A1.out).mono ?_);(case side1=>refine GL.below HG.out ?_;exact bQ HB);rintro e w14 ⟨aV,rfl,ho0,hb⟩;refine ⟨_,rfl,?_⟩;have ab:=zS (Kd.R_lower ho0 (bz HB));replace HB:=bs HB hb;(try clear hb);(try clear ho0);obtain ⟨aW,aX,aC⟩:=Kd.R_slice ab.out;subst aC;have ar:0≤(0:Int):=(by omega);have au:0<(ad.length:Int):=zB (by first|(with_reducible assumption)|assumption);obtain ⟨aK,aD,aE,aF,aj,hl182_0,hi182_0⟩:=at_L7 (Kd.R_reads' ab.out).2.2 0 ar au;cases aF;obtain ⟨ce182,hce182,hMe182,hcc182⟩:=Kd.R_get ab.out [] 0 ar (by first|exact au|exact zB (by first|(with_reducible assumption)|assumption)|(have e_:=(Kd.R_reads' ab.out).1;omega));obtain ⟨ve182_0,rfl,ge182_0⟩:=hMe182;have hv182_0:=hcc182 0 _ rfl;rw [Nat.add_zero,show ((Kd.slice 60 k60)).sz=1 from rfl,Nat.mul_one] at hv182_0;replace hv182_0:=zE (hv182_0.symm.trans aj);rw [hv182_0] at ge182_0;have HL182_0:=zS (show Kd.R k60 60 _ _ _ _ (rd_L7 ad 0) from ge182_0);clear hv182_0 ge182_0;clear hcc182 hce182;have qi182:(0<ad.length)=True:=eq_true (by omega);(try rw [show ((0:Int)).toNat=0 from rfl] at aj);(try rw [Addr.add_zero'] at aj);have aa:=zS hi182_0;have aB:=zS hl182_0;clear hi182_0 hl182_0;replace ar:=eq_true ar;replace au:=eq_true au)|((with_reducible refine gate_dst (N:=29) rfl ?_);(try (refine gate_guard (by rfl) ?_;dsimp only));refine Kd.R_lit (Kd.int .u8) _ 5 ?hg (N:=29) ?hd (xs:=([2,1]:List Int)) (inner:=[.int .u8 2,.int .u8 1]) (ok:=fun _=>True) (okp:=fun _=>True) ?hr ?hp (fun _ hk=>hk) trivial (Below.refl _ _) (Nat.le_refl _) (by simp) ?_;(case hd=>rfl);(case hg=>rfl);(case hr=>first|(go_simp;done)|(go_simp;rfl));(case hp=>exact (Reps.one (show Kd.M (Kd.int .u8) _ _ _ 2 [.int .u8 2] from rfl) (Reps.one (show Kd.M (Kd.int .u8) _ _ _ 1 [.int .u8 1] from rfl) (Reps.none _ _))));intro aY w16 ao hb hg_ hnew_;clear hg_ hnew_;(first|rw [← av.out] at ao|(simp only [Int.reduceToNat] at ao;rw [← av.out] at ao));replace ab:=rb ab hb;replace HL182_0:=zS (Kd.R_below (by (with_reducible repeat (first|apply Kd.R_alloc|apply Kd.R_drewN|apply Kd.R_drew));exact HL182_0.out) hb);have ae:=zS (Kd.R_lower ao (bz HB));replace aa:=zS (Kd.C_below (by repeat (first|(with_reducible exact aa.out)|(with_reducible refine Kd.C_alloc ?_ _)|(with_reducible refine Kd.C_drewN ?_ _)|(with_reducible refine Kd.C_drew ?_)|exact aa.out)) hb);replace HB:=bs HB hb;clear hb ao;obtain ⟨aZ,a0,aG⟩:=Kd.R_slice ae.out;subst aG)|(go_at_call 37;clear tok_0;(refine (rule_Holds.calls _ _ ad _ _ ax _ _ ([]:List Int) 0 0 true _ ?side7 (rc ab) (rl ab) (rc ae) (rl ae) ?side5 ?side6 A7.out).mono ?_);(case side5=>exact Kd.C_nil _ _);(case side6=>exact Nat.le_refl _);(case side7=>refine GL.below HG.out ?_;exact bQ HB);rintro e w19 ⟨rfl,hb⟩;replace ab:=rb ab hb;replace HL182_0:=zS (Kd.R_below (by (with_reducible repeat (first|apply Kd.R_alloc|apply Kd.R_drewN|apply Kd.R_drew));exact HL182_0.out) hb);replace ae:=rb ae hb;replace aa:=zS (Kd.C_below (by repeat (first|(with_reducible exact aa.out)|(with_reducible refine Kd.C_alloc ?_ _)|(with_reducible refine Kd.C_drewN ?_ _)|(with_reducible refine Kd.C_drew ?_)|exact aa.out)) hb);replace HB:=bs HB hb;(try clear hb))|((with_reducible refine gate_dst (N:=35) rfl ?_);(try (refine gate_guard (by rfl) ?_;dsimp only));refine Kd.R_lit (Kd.int .u8) _ 5 ?hg (N:=35) ?hd (xs:=([1,1]:List Int)) (inner:=[.int .u8 1,.int .u8 1]) (ok:=fun _=>True) (okp:=fun _=>True) ?hr ?hp (fun _ hk=>hk) trivial (Below.refl _ _) (Nat.le_refl _) (by simp) ?_;(case hd=>rfl);(case hg=>rfl);(case hr=>first|(go_simp;done)|(go_simp;rfl));(case hp=>exact (Reps.one (show Kd.M (Kd.int .u8) _ _ _ 1 [.int .u8 1] from rfl) (Reps.one (show Kd.M (Kd.int .u8) _ _ _ 1 [.int .u8 1] from rfl) (Reps.none _ _))));intro a1 w20 an hb hg_ hnew_;clear hg_ hnew_;(first|rw [← aw.out] at an|(simp only [Int.reduceToNat] at an;rw [← aw.out] at an));replace ab:=rb ab hb;replace HL182_0:=zS (Kd.R_below (by (with_reducible repeat (first|apply Kd.R_alloc|apply Kd.R_drewN|apply Kd.R_drew));exact HL182_0.out) hb);have af:=zS (Kd.R_lower (Kd.R_new' an (Kd.R_lt (ro ae))) (bz HB));replace ae:=zS (Kd.R_elder' (ro ae) (Kd.R_base an) hb);replace aa:=zS (Kd.C_below (by repeat (first|(with_reducible exact aa.out)|(with_reducible refine Kd.C_alloc ?_ _)|(with_reducible refine Kd.C_drewN ?_ _)|(with_reducible refine Kd.C_drew ?_)|exact aa.out)) hb);replace HB:=bs HB hb;clear hb an;obtain ⟨a2,a3,aH⟩:=Kd.R_slice af.out;subst aH)|(go_at_call 37;clear tok_1;(refine (rule_Holds.calls _ _ ad _ _ ay _ _ ([]:List Int) 0 0 false _ ?side7 (rc ab) (rl ab) (rc af) (rl af) ?side5 ?side6 A9.out).mono ?_);(case side5=>exact Kd.C_nil _ _);(case side6=>exact Nat.le_refl _);(case side7=>refine GL.below HG.out ?_;exact bQ HB);rintro e w23 ⟨rfl,hb⟩;replace ab:=rb ab hb;replace HL182_0:=zS (Kd.R_below (by (with_reducible repeat (first|apply Kd.R_alloc|apply Kd.R_drewN|apply Kd.R_drew));exact HL182_0.out) hb);replace ae:=rb ae hb;replace af:=rb af hb;replace aa:=zS (Kd.C_below (by repeat (first|(with_reducible exact aa.out)|(with_reducible refine Kd.C_alloc ?_ _)|(with_reducible refine Kd.C_drewN ?_ _)|(with_reducible refine Kd.C_drew ?_)|exact aa.out)) hb);replace HB:=bs HB hb;(try clear hb))|(go_at_call 35;(with_reducible refine (rule_Text.calls k _ _ ad ag _ ?side3 (rc ab) (rl ab) A11.out).mono ?_);(case side3=>refine GL.below HG.out ?_;exact bQ HB);rintro e w24 ⟨rfl,hb⟩;replace ab:=rb ab hb;replace HL182_0:=zS (Kd.R_below (by (with_reducible repeat (first|apply Kd.R_alloc|apply Kd.R_drewN|apply Kd.R_drew));exact HL182_0.out) hb);replace ae:=rb ae hb;replace af:=rb af hb;replace aa:=zS (Kd.C_below (by repeat (first|(with_reducible exact aa.out)|(with_reducible refine Kd.C_alloc ?_ _)|(with_reducible refine Kd.C_drewN ?_ _)|(with_reducible refine Kd.C_drew ?_)|exact aa.out)) hb);replace HB:=bs HB hb;(try clear hb);(try clear hb2);(try clear hk);(try clear hi))|(go_at_call 32;(with_reducible refine (rule_Right.calls k _ _ ad ai _ ?side3 (rc ab) (rl ab) A13.out).mono ?_);(case side3=>refine GL.below HG.out ?_;exact bQ HB);rintro e w25 ⟨rfl,hb⟩;replace ab:=rb ab hb;replace HL182_0:=zS (Kd.R_below (by (with_reducible repeat (first|apply Kd.R_alloc|apply Kd.R_drewN|apply Kd.R_drew));exact HL182_0.out) hb);replace ae:=rb ae hb;replace af:=rb af hb;replace aa:=zS (Kd.C_below (by repeat (first|(with_reducible exact aa.out)|(with_reducible refine Kd.C_alloc ?_ _)|(with_reducible refine Kd.C_drewN ?_ _)|(with_reducible refine Kd.C_drew ?_)|exact aa.out)) hb);replace HB:=bs HB hb;(try clear hb);(try clear hb2);(try clear hk);(try clear hi)))
 go_ret
 exact ⟨by first|rfl|(simp <;> rfl)|(simp [*] <;> rfl),bQ HB⟩
end Go.Proofs.YtgfajgkjbckkgaaGreatDoor.PZ
end
end
section
set_option maxRecDepth 100000
namespace Go.Proofs.YtgfajgkjbckkgaaGreatDoor.PZ
open Go.RowKit Go.Proofs.YtgfajgkjbckkgaaGreatDoorW.PrintWords Go.Proofs.YtgfajgkjbckkgaaGreatDoorW.PrintLast
theorem pw_dig {n:Int}(h0:0≤n)(h1:n<10):pw n=[48+n]:=by
 rw [pw_nat h0,digsN_small (by omega)]
 simp only [List.map_cons,List.map_nil,chr]
 congr 1;omega
theorem pw_two {n:Int}(h0:10≤n)(h1:n<100):pw n=[48+n / 10,48+n % 10]:=by
 rw [pw_nat (by omega),digsN_big (by omega),digsN_small (by omega)]
 simp only [List.map_append,List.map_cons,List.map_nil,chr,List.cons_append,List.nil_append]
 congr 2 <;> (try congr 1) <;> omega
theorem pw_100:pw 100=[49,48,48]:=by
 rw [pw_nat (by omega),digsN_big (by decide),digsN_big (by decide),digsN_small (by decide)]
 rfl
def shC:List (List Rl):=[[⟨110,10,false,[⟨1,1⟩]⟩,⟨110,100,true,[⟨11,11⟩]⟩]]
def shT:List Int:=[110,32,37,32,49,48,32,61,32,49,32,97,110,100,32,110,32,37,32,49,48,48,32,33,61,32,49,49]
theorem sh_parse:parseP shT=(shC,0,0):=by decide +kernel
theorem sh_text:condT [32] shC=shT:=by
 unfold condT shC rowT relT rgT joinT wordAnd
 simp only [List.map_cons,List.map_nil,pw_100,pw_dig (show (0:Int)≤1 by decide) (by decide),pw_two (show (10:Int)≤10 by decide) (by decide),pw_two (show (10:Int)≤11 by decide) (by decide)]
 decide
theorem sh_right:rightP shC=true:=by
 unfold rightP
 rw [sh_text,sh_parse]
 decide
theorem op_ok (l:List Int)(hl:l=[2,1]∨l=[1,1]∨l=[1]∨l=[2]):OpOk l [] 0 0:=by
 rcases hl with rfl|rfl|rfl|rfl <;> exact ⟨by unfold RightO;decide,by decide,by decide,by decide,by decide⟩
theorem sh_yes:condX [2,1] [] 0 0 shC=true:=by decide
theorem sh_no:condX [1,1] [] 0 0 shC=false:=by decide
theorem shown_ev:Ev (fun k=>exerguelaw11_shown.f k) true:=by
 have hg:=right_good sh_right
 have p:=parse_f (s:=(⟨#[110,32,37,32,49,48,32,61,32,49,32,97,110,100,32,110,32,37,32,49,48,48,32,33,61,32,49,49]⟩:ByteArray)) (by decide)
 have e:bytesOf (⟨#[110,32,37,32,49,48,32,61,32,49,32,97,110,100,32,110,32,37,32,49,48,48,32,33,61,32,49,49]⟩:ByteArray)=shT:=by decide
 rw [e,sh_parse] at p
 have h1:=holds_f (op_ok [2,1] (by simp)) hg.num
 have h2:=holds_f (op_ok [1,1] (by simp)) hg.num
 rw [sh_yes] at h1
 rw [sh_no] at h2
 have q1:(shC.length:Int)=1:=by decide
 have q2:(0:Int)<(shC.length:Int):=by decide
 have q3:((rd_L7 shC 0).length:Int)=2:=by decide
 unfold exerguelaw11_shown.f
 simp only [p,Option.bind_some,if_true,if_pos q1,if_pos q2,if_pos q3,h1,h2,Bool.false_eq_true,if_false]
 refine Ev.bind (text_ev hg.txt) ?_
 rw [sh_text]
 have e2:(strOfNums shT).toList=([110,32,37,32,49,48,32,61,32,49,32,97,110,100,32,110,32,37,32,49,48,48,32,33,61,32,49,49]:List UInt8):=by rw [ByteArray.toList_eq];decide
 simp only [if_pos e2]
 have:=ruleRight11 hg.txt
 rw [sh_right] at this
 exact Ev.bind this (Ev.now _)
end Go.Proofs.YtgfajgkjbckkgaaGreatDoor.PZ
end
