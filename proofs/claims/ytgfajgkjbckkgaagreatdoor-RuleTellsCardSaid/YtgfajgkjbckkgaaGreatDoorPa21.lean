/- Texts of this seat, joined. Conditions: none beyond each statement's own. -/
import Derived.Test.YtgfajgkjbckkgaaGreatDoorPa18
import Derived.Test.YtgfajgkjbckkgaaGreatDoorPa19
import Derived.Handy
set_option linter.all false
section
set_option maxRecDepth 100000
set_option linter.unusedSimpArgs false
set_option linter.unusedVariables false
namespace Go.Proofs.YtgfajgkjbckkgaaGreatDoor.PZ
open Go.RowKit Go.Proofs.YtgfajgkjbckkgaaGreatDoorW.PrintWords Go.Proofs.YtgfajgkjbckkgaaGreatDoorW.PrintLast
def rngO (x:Rl)(l:List Int)(wh:Bool):Option (Rg→Bool):=
  if wh=true∧x.f1>0 then (oper_Mod.f (l.length+2) l x.f1).bind fun n=>some fun g=>decide (n≥g.f0) && decide (n≤g.f1)
  else if wh=true∧¬ (∀ g ∈ x.f3,(oper_In.f l g.f0 g.f1).isSome) then none else some fun g=>wh && (oper_In.f l g.f0 g.f1 == some true)
inductive InOut (W:World) (x:Rl) (l:List Int) (p:Rg→Bool):Value→Prop
  | one (gn:Nat) (n:Int) (h:W.cell? ⟨gn,0,none⟩=some (.int .i64 n)) (hp:∀ g,p g=(decide (n≥g.f0) && decide (n≤g.f1))):InOut W x l p (.func (.func 82) #[] #[.pointer (some ⟨gn,0,none⟩)])
  | two (gw gl:Nat) (wh:Bool) (A:Option Addr) (c:Nat) (hw:W.cell? ⟨gw,0,none⟩=some (.bool wh)) (hl:W.cell? ⟨gl,0,none⟩=some (.slice A l.length c)) (hC:Kd.C (Kd.int .u8) W A l.length l) (hc:l.length≤c)
      (hI:wh=true→∀ g ∈ x.f3,(oper_In.f l g.f0 g.f1).isSome) (hp:∀ g,p g=(wh && (oper_In.f l g.f0 g.f1 == some true))):InOut W x l p (.func (.func 83) #[] #[.pointer (some ⟨gw,0,none⟩),.pointer (some ⟨gl,0,none⟩)])
theorem InOut.below {W W':World}{x:Rl}{l:List Int}{p:Rg→Bool}{v:Value}(h:InOut W x l p v)(hb:Below W.heap.size W W'):InOut W' x l p v:=by
 have hk:∀ {a:Addr} {u:Value},W.cell? a=some u→W'.cell? a=some u:=fun h=>(hb.cell (World.block_lt_of_cell? W _ h)).trans h
 cases h with
 | one gn n h hp=>exact .one gn n (hk h) hp
 | two gw gl wh A c hw hl hC hc hI hp=>exact .two gw gl wh A c (hk hw) (hk hl) (Kd.C_below hC hb) hc hI hp
theorem in_any {W:World}(x:Rl){l:List Int}{p:Rg→Bool}{v:Value}(hG:GL W)(A0:Option Addr)(c0:Nat)(h:InOut W x l p v)(hr:Kd.C k57 W A0 x.f3.length x.f3)(hc0:x.f3.length≤c0) :
    Calls Tryz.prog 60 #[.slice A0 x.f3.length c0,v] W fun e w'=>e = .returned (.bool (x.f3.any p))∧Below W.heap.size W w':=by
 cases h with
 | one gn n h hp=>
  refine cf_rg1 82 (enters_of Tryz.func82 (by kernel_rfl) rfl) (.pointer (some ⟨gn,0,none⟩)) p A0 c0 x.f3 W hr hc0 (fun g _ W' hb=>?_)
  rw [hp g]
  exact in_1 g gn n W' ((hb.cell (World.block_lt_of_cell? W _ h)).trans h)
 | two gw gl wh A c hw hl hC hc hI hp=>
  refine cf_rg2 83 (enters_of Tryz.func83 (by kernel_rfl) rfl) (.pointer (some ⟨gw,0,none⟩)) (.pointer (some ⟨gl,0,none⟩)) p A0 c0 x.f3 W hr hc0 (fun g hg W' hb=>?_)
  rw [hp g]
  refine in_2 g gw gl wh A l.length c _ W' ((hb.cell (World.block_lt_of_cell? W _ hw)).trans hw) ((hb.cell (World.block_lt_of_cell? W _ hl)).trans hl) (fun ht w1 hb1=>?_)
  obtain ⟨r,hr1⟩:=Option.isSome_iff_exists.mp (hI ht g hg)
  have:(oper_In.f l g.f0 g.f1 == some true)=r:=by rw [hr1];cases r <;> rfl
  rw [this]
  exact oper_In.calls A c l g.f0 g.f1 r w1 ((hG.below hb).below hb1) (Kd.C_below (Kd.C_below hC hb) hb1) hc hr1
theorem rule_in (x:Rl)(A3:Option Addr)(c3:Nat)(A0:Option Addr)(c0:Nat)(l0:List Int)(A1:Option Addr)(c1:Nat)(l1:List Int)(a2 a3:Int)(l:List Int)(wh:Bool)(p:Rg→Bool)(W:World)(hG:GL W)
    (h0:Kd.C (Kd.int .u8) W A0 l0.length l0) (hc0:l0.length≤c0) (h1:Kd.C (Kd.int .u8) W A1 l1.length l1) (hc1:l1.length≤c1)
    (ho:oper_Operand.f l0 l1 a2 a3 x.f0=some (l,wh)) (hp:rngO x l wh=some p) :
    Calls Tryz.prog 61 #[.agg #[.int .u8 x.f0,.int .i64 x.f1,.bool x.f2,.slice A3 x.f3.length c3],.agg #[.slice A0 l0.length c0,.slice A1 l1.length c1,.int .i64 a2,.int .i64 a3]] W fun e w'=>
      ∃ v:Value,e = .returned v∧InOut w' x l p v∧Below W.heap.size W w':=by
 have hO:∀ w,Below W.heap.size W w→Calls Tryz.prog 80 #[.agg #[.slice A0 l0.length c0,.slice A1 l1.length c1,.int .i64 a2,.int .i64 a3],.int .u8 x.f0] w fun e w'=>∃ A c,e = .returned (.tuple #[.slice A l.length c,.bool wh])∧Kd.C (Kd.int .u8) w' A l.length l∧l.length≤c∧Below w.heap.size w w':=by
  intro w hb
  refine (oper_Operand.calls (fun k=>k<W.heap.size) A0 c0 l0 (fun k=>k<W.heap.size) A1 c1 l1 a2 a3 x.f0 l wh w (hG.below hb) (Kd.V_mk hc0 (Kd.F_below (Kd.C_F (Kd.heap_int .u8) h0) hb)) (Kd.V_mk hc1 (Kd.F_below (Kd.C_F (Kd.heap_int .u8) h1) hb)) ho).mono ?_
  rintro e w' ⟨v,rfl,hV,hb'⟩
  obtain ⟨A,c,rfl⟩:=Kd.V_slice hV
  have hR:=Kd.V_reads' hV
  exact ⟨A,c,rfl,hR.2.2,hR.2.1,hb'⟩
 unfold rngO at hp
 by_cases hm:wh=true∧x.f1>0
 ·rw [if_pos hm] at hp
  obtain ⟨n,hn,hp⟩:=Option.bind_eq_some_iff.mp hp
  obtain rfl:=Option.some.inj hp
  refine (in_at x A3 c3 A0 l0.length c0 A1 l1.length c1 a2 a3 l wh n W hO (fun _ _ w A c hb hC hc=>(oper_Mod.calls (l.length+2) A c l x.f1 n w hC hc hn).mono ?_)).mono ?_
  ·rintro e w' ⟨rfl,hd⟩
   exact ⟨rfl,by first|exact hd|exact hd.below⟩
  rintro e w' ⟨hb,(⟨_,_,gn,rfl,hc⟩|⟨hno,_⟩)⟩
  · exact ⟨_,rfl,.one gn n hc (fun _=>rfl),hb⟩
  exact absurd hm hno
 rw [if_neg hm] at hp
 by_cases hI:wh=true∧¬ (∀ g ∈ x.f3,(oper_In.f l g.f0 g.f1).isSome)
 · rw [if_pos hI] at hp;cases hp
 rw [if_neg hI] at hp
 obtain rfl:=Option.some.inj hp
 refine (in_at x A3 c3 A0 l0.length c0 A1 l1.length c1 a2 a3 l wh 0 W hO (fun h1 h2=>absurd ⟨h1,h2⟩ hm)).mono ?_
 rintro e w' ⟨hb,(⟨h1,h2,_⟩|⟨_,gw,gl,A,c,rfl,hw,hl,hC,hc⟩)⟩
 · exact absurd ⟨h1,h2⟩ hm
 exact ⟨_,rfl,.two gw gl wh A c hw hl hC hc (fun ht=>Classical.byContradiction fun hn=>hI ⟨ht,hn⟩) (fun _=>rfl),hb⟩
def relN (l0 l1:List Int)(a2 a3:Int)(x:Rl):Option Bool:=(oper_Operand.f l0 l1 a2 a3 x.f0).bind fun q=>(rngO x q.1 q.2).bind fun p=>some (x.f3.any p == x.f2)
def rule_Holds.f (l:List (List Rl))(l0 l1:List Int)(a2 a3:Int):Option Bool:=
  if ∀ row ∈ l,∀ x ∈ row,(relN l0 l1 a2 a3 x).isSome then some (l.any fun row=>!row.any fun x=>relN l0 l1 a2 a3 x == some true) else none
theorem rule_Holds.calls (A0:Option Addr)(c0:Nat)(l0:List (List Rl))(A1_0:Option Addr)(c1_0:Nat)(l1_0:List Int)(A1_1:Option Addr)(c1_1:Nat)(l1_1:List Int)(a1_2 a1_3:Int)(r:Bool)(w:World)(hG:GL w)
    (hr0:Kd.C (Kd.slice 60 k60) w A0 l0.length l0) (hc0:l0.length≤c0) (hr1_0:Kd.C (Kd.int .u8) w A1_0 l1_0.length l1_0) (hc1_0:l1_0.length≤c1_0) (hr1_1:Kd.C (Kd.int .u8) w A1_1 l1_1.length l1_1) (hc1_1:l1_1.length≤c1_1)
    (h:rule_Holds.f l0 l1_0 l1_1 a1_2 a1_3=some r) :
    Calls Tryz.prog 37 #[.slice A0 l0.length c0,.agg #[.slice A1_0 l1_0.length c1_0,.slice A1_1 l1_1.length c1_1,.int .i64 a1_2,.int .i64 a1_3]] w fun e w'=>e = .returned (.bool r)∧Below w.heap.size w w':=by
 unfold rule_Holds.f at h
 split at h
 ·rename_i hs
  obtain rfl:=Option.some.inj h
  refine holds_all l0 A0 c0 A1_0 l1_0.length c1_0 A1_1 l1_1.length c1_1 a1_2 a1_3 _ w hr0 hc0 (fun row hrow x hx w1 A3 c3 go hb q0 q1 q2 q3 hK hc3=>?_)
  obtain ⟨b,hb1⟩:=Option.isSome_iff_exists.mp (hs row hrow x hx)
  have hbb:(relN l1_0 l1_1 a1_2 a1_3 x == some true)=b:=by rw [hb1];cases b <;> rfl
  rw [hbb]
  unfold relN at hb1
  obtain ⟨⟨l,wh⟩,ho,hb1⟩:=Option.bind_eq_some_iff.mp hb1
  obtain ⟨p,hp,hb1⟩:=Option.bind_eq_some_iff.mp hb1
  obtain rfl:=Option.some.inj hb1
  exact not_rel x A3 c3 go A1_0 l1_0.length c1_0 A1_1 l1_1.length c1_1 a1_2 a1_3 (x.f3.any p) (fun W v=>InOut W x l p v) w1 q0 q1 q2 q3
   (fun w2 hb2=>rule_in x A3 c3 A1_0 c1_0 l1_0 A1_1 c1_1 l1_1 a1_2 a1_3 l wh p w2 ((hG.below hb).below hb2) (Kd.C_below (Kd.C_below hr1_0 hb) hb2) hc1_0 (Kd.C_below (Kd.C_below hr1_1 hb) hb2) hc1_1 ho hp)
   (fun _ _ _ hio hb2=>hio.below hb2)
   (fun w2 v hb2 hio=>in_any x ((hG.below hb).below hb2) A3 c3 hio (Kd.C_below hK hb2) hc3)
 cases h
end Go.Proofs.YtgfajgkjbckkgaaGreatDoor.PZ
end
