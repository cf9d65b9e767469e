/- Texts of this seat, joined. Conditions: none beyond each statement's own. -/
import Derived.Test.YtgfajgkjbckkgaaGreatDoorPd12
import Derived.Test.YtgfajgkjbckkgaaGreatDoorPd11
set_option linter.all false
section
set_option maxRecDepth 100000
namespace Go.Proofs.YtgfajgkjbckkgaaGreatDoor.PZ
open Go.RowKit Go.Proofs.YtgfajgkjbckkgaaGreatDoorW.PrintWords Go.Proofs.YtgfajgkjbckkgaaGreatDoorW.PrintLast
section
theorem run_store_fn (P:Program)(w:World)(a:Addr)(f:Fn)(b c:Array Value)(m:Mode):(store a (.func f b c) m).run P w=stored P w a (.func f b c) m:=run_store P w a _ m rfl
attribute [local go_sem] run_store_fn
def HS (B W2:World)(g go:Nat)(x:Rl)(A3:Option Addr)(c3:Nat)(A0:Option Addr)(n0 c0:Nat)(A1:Option Addr)(n1 c1:Nat)(a2 a3:Int)(w':World):Prop:=
  w'.cell? ⟨g,0,none⟩=some (.int .u8 x.f0)∧w'.cell? ⟨g,1,none⟩=some (.int .i64 x.f1)∧w'.cell? ⟨g,2,none⟩=some (.bool x.f2)∧w'.cell? ⟨g,3,none⟩=some (.slice A3 x.f3.length c3) ∧
  w'.cell? ⟨go,0,none⟩=some (.slice A0 n0 c0)∧w'.cell? ⟨go,1,none⟩=some (.slice A1 n1 c1)∧w'.cell? ⟨go,2,none⟩=some (.int .i64 a2)∧w'.cell? ⟨go,3,none⟩=some (.int .i64 a3)∧Below W2.heap.size W2 w'
theorem hs_below {B W2 w1:World}{g go:Nat}{x:Rl}{A3:Option Addr}{c3:Nat}{A0:Option Addr}{n0 c0:Nat}{A1:Option Addr}{n1 c1:Nat}{a2 a3:Int}(h:HS B W2 g go x A3 c3 A0 n0 c0 A1 n1 c1 a2 a3 W2)(hb:Below W2.heap.size W2 w1):HS B W2 g go x A3 c3 A0 n0 c0 A1 n1 c1 a2 a3 w1:=by
 have hk:∀ {a:Addr} {u:Value},W2.cell? a=some u→w1.cell? a=some u:=fun h=>(hb.cell (World.block_lt_of_cell? W2 _ h)).trans h
 obtain ⟨q0,q1,q2,q3,q4,q5,q6,q7,_⟩:=h
 exact ⟨hk q0,hk q1,hk q2,hk q3,hk q4,hk q5,hk q6,hk q7,hb⟩
set_option maxHeartbeats 4000000 in
set_option maxRecDepth 100000 in
theorem not_rel (x:Rl)(A3:Option Addr)(c3:Nat)(go:Nat)(A0:Option Addr)(n0 c0:Nat)(A1:Option Addr)(n1 c1:Nat)(a2 a3:Int)(r:Bool)(P:World→Value→Prop)(W:World)
    (h0:W.cell? ⟨go,0,none⟩=some (.slice A0 n0 c0)) (h1:W.cell? ⟨go,1,none⟩=some (.slice A1 n1 c1)) (h2:W.cell? ⟨go,2,none⟩=some (.int .i64 a2)) (h3:W.cell? ⟨go,3,none⟩=some (.int .i64 a3))
    (hI:∀ w,Below W.heap.size W w→Calls Tryz.prog 61 #[.agg #[.int .u8 x.f0,.int .i64 x.f1,.bool x.f2,.slice A3 x.f3.length c3],.agg #[.slice A0 n0 c0,.slice A1 n1 c1,.int .i64 a2,.int .i64 a3]] w fun e w2=>∃ v:Value,e = .returned v∧P w2 v∧Below w.heap.size w w2)
    (hP:∀ w w2 v,P w v→Below w.heap.size w w2→P w2 v)
    (hA:∀ w v,Below W.heap.size W w→P w v→Calls Tryz.prog 60 #[.slice A3 x.f3.length c3,v] w fun e w2=>e = .returned (.bool r)∧Below w.heap.size w w2) :
    Calls Tryz.prog 59 #[.agg #[.int .u8 x.f0,.int .i64 x.f1,.bool x.f2,.slice A3 x.f3.length c3],.pointer (some ⟨go,0,none⟩)] W fun e w'=>e = .returned (.bool (r == x.f2))∧Below W.heap.size W w':=by
 have g0:=World.block_lt_of_cell? W _ h0
 have g1:=World.block_lt_of_cell? W _ h1
 have g2:=World.block_lt_of_cell? W _ h2
 have g3:=World.block_lt_of_cell? W _ h3
 replace h0:=zA h0
 replace h1:=zA h1
 replace h2:=zA h2
 replace h3:=zA h3
 have HI:=zA hI
 have HP:=zA hP
 have HA:=zA hA
 clear hI hP hA
 go_enter Tryz.func59,Tryz.ntmps59
 go_upto_region 1 with (fail)
 have HB:=below_alloc (Below.refl W.heap.size W) (.cells #[.int .u8 x.f0,.int .i64 x.f1,.bool x.f2,.slice A3 x.f3.length c3] 60)
 have hx:=heap_alloc_new W (.cells #[.int .u8 x.f0,.int .i64 x.f1,.bool x.f2,.slice A3 x.f3.length c3] 60)
 have HS0:HS W (W.alloc (.cells #[.int .u8 x.f0,.int .i64 x.f1,.bool x.f2,.slice A3 x.f3.length c3] 60)) W.heap.size go x A3 c3 A0 n0 c0 A1 n1 c1 a2 a3 (W.alloc (.cells #[.int .u8 x.f0,.int .i64 x.f1,.bool x.f2,.slice A3 x.f3.length c3] 60)):=
  ⟨(blk_cell hx 0).trans rfl,(blk_cell hx 1).trans rfl,(blk_cell hx 2).trans rfl,(blk_cell hx 3).trans rfl,(HB.cell g0).trans h0.out,(HB.cell g1).trans h1.out,(HB.cell g2).trans h2.out,(HB.cell g3).trans h3.out,Below.refl _ _⟩
 clear hx
 generalize W.alloc (.cells #[.int .u8 x.f0,.int .i64 x.f1,.bool x.f2,.slice A3 x.f3.length c3] 60)=W2 at *
 have HBB:=zA HB
 clear HB
 have HK:=fun (w':World) (hb:Below W2.heap.size W2 w')=>hs_below HS0 hb
 replace HK:=zA HK
 clear h0 h1 h2 h3 g0 g1 g2 g3 HS0
 go_region_held3 (fun w'=>w'.cell? ⟨W.heap.size,0,none⟩=some (.int .u8 x.f0)∧w'.cell? ⟨W.heap.size,1,none⟩=some (.int .i64 x.f1)∧w'.cell? ⟨W.heap.size,2,none⟩=some (.bool x.f2)∧w'.cell? ⟨W.heap.size,3,none⟩=some (.slice A3 x.f3.length c3)∧w'.cell? ⟨go,0,none⟩=some (.slice A0 n0 c0)∧w'.cell? ⟨go,1,none⟩=some (.slice A1 n1 c1)∧w'.cell? ⟨go,2,none⟩=some (.int .i64 a2)∧w'.cell? ⟨go,3,none⟩=some (.int .i64 a3)∧Below W2.heap.size W2 w') (first|exact HK.out _ (below_drew (Below.refl _ _))|exact HK.out _ hB6.out|exact HK.out _ hB5.out)
  (first
    | (go_at_call 61;refine (HI.out _ (below_step HBB.out (below_drew (Below.refl _ _)))).mono ?_;rintro e w5 ⟨v,rfl,hp5,hb5⟩;have hB5:=zA (below_step (below_drew (Below.refl W2.heap.size W2)) hb5);have hP5:=zA hp5;clear hp5 hb5)
    | (go_at_call 60;refine (HA.out _ _ (below_step HBB.out hB5.out) hP5.out).mono ?_;rintro e w6 ⟨rfl,hb6⟩;have hB6:=zA (below_step hB5.out hb6);clear hb6))
 go_wp2
 go_ret
 exact ⟨rfl,below_step HBB.out hB6.out⟩
set_option maxHeartbeats 2000000 in
set_option maxRecDepth 100000 in
theorem row_not (row:List Rl)(A0:Option Addr)(c0:Nat)(gf go:Nat)(q:Rl→Bool)(W:World)(hf:W.cell? ⟨gf,0,none⟩=some (.func (.func 59) #[] #[.pointer (some ⟨go,0,none⟩)]))
    (hr0:Kd.C k60 W A0 row.length row) (hc0:row.length≤c0)
    (hQ:∀ x ∈ row,∀ w A3 c3,Below W.heap.size W w→Kd.C k57 w A3 x.f3.length x.f3→x.f3.length≤c3→Calls Tryz.prog 59 #[.agg #[.int .u8 x.f0,.int .i64 x.f1,.bool x.f2,.slice A3 x.f3.length c3],.pointer (some ⟨go,0,none⟩)] w fun e w'=>e = .returned (.bool (q x))∧Below w.heap.size w w') :
    Calls Tryz.prog 63 #[.slice A0 row.length c0,.pointer (some ⟨gf,0,none⟩)] W fun e w'=>e = .returned (.bool (!row.any q))∧Below W.heap.size W w':=by
 have HE:=cf_rl1 59 (enters_of Tryz.func59 (by kernel_rfl) rfl) (.pointer (some ⟨go,0,none⟩)) q A0 c0 row W hr0 hc0 hQ
 replace HE:=zA HE
 clear hr0 hQ
 go_enter Tryz.func63,Tryz.ntmps63
 go_wp2_with (go_at_call 64;refine HE.out.mono ?_;rintro e w5 ⟨rfl,hb5⟩;have hB5:=zA hb5;clear hb5)
 go_ret
 exact ⟨rfl,hB5.out⟩
theorem holds_at (l:List (List Rl))(A:Option Addr)(c:Nat)(A0:Option Addr)(n0 c0:Nat)(A1:Option Addr)(n1 c1:Nat)(a2 a3:Int)(q:Rl→Bool)(W:World)
    (hr:Kd.C (Kd.slice 60 k60) W A l.length l) (hc:l.length≤c)
    (hQ:∀ row ∈ l,∀ x ∈ row,∀ w A3 c3 go,Below W.heap.size W w→w.cell? ⟨go,0,none⟩=some (.slice A0 n0 c0)→w.cell? ⟨go,1,none⟩=some (.slice A1 n1 c1)→w.cell? ⟨go,2,none⟩=some (.int .i64 a2)→w.cell? ⟨go,3,none⟩=some (.int .i64 a3) →
      Kd.C k57 w A3 x.f3.length x.f3→x.f3.length≤c3→Calls Tryz.prog 59 #[.agg #[.int .u8 x.f0,.int .i64 x.f1,.bool x.f2,.slice A3 x.f3.length c3],.pointer (some ⟨go,0,none⟩)] w fun e w'=>e = .returned (.bool (q x))∧Below w.heap.size w w')
    (gf go:Nat) (W2:World) (hb2:Below W.heap.size W W2) (hf:W2.cell? ⟨gf,0,none⟩=some (.func (.func 59) #[] #[.pointer (some ⟨go,0,none⟩)]))
    (h0:W2.cell? ⟨go,0,none⟩=some (.slice A0 n0 c0)) (h1:W2.cell? ⟨go,1,none⟩=some (.slice A1 n1 c1)) (h2:W2.cell? ⟨go,2,none⟩=some (.int .i64 a2)) (h3:W2.cell? ⟨go,3,none⟩=some (.int .i64 a3)) :
    Calls Tryz.prog 62 #[.slice A l.length c,.func (.func 63) #[] #[.pointer (some ⟨gf,0,none⟩)]] W2 fun e w'=>e = .returned (.bool (l.any fun row=>!row.any q))∧Below W2.heap.size W2 w':=by
 refine cf_rw1 63 (enters_of Tryz.func63 (by kernel_rfl) rfl) (.pointer (some ⟨gf,0,none⟩)) (fun row=>!row.any q) A c l W2 (Kd.C_below hr hb2) hc (fun row hrow w A3 c3 hb hK hc3=>?_)
 have hk:∀ {w':World},Below w.heap.size w w'→∀ {a:Addr} {u:Value},W2.cell? a=some u→w'.cell? a=some u:=fun hb' _ _ h=>((below_step hb hb').cell (World.block_lt_of_cell? W2 _ h)).trans h
 exact row_not row A3 c3 gf go q w (hk (Below.refl _ _) hf) hK hc3 (fun x hx w' A3' c3' hb' hK' hc'=>
  hQ row hrow x hx w' A3' c3' go (below_step hb2 (below_step hb hb')) (hk hb' h0) (hk hb' h1) (hk hb' h2) (hk hb' h3) hK' hc')
set_option maxHeartbeats 2000000 in
set_option maxRecDepth 100000 in
theorem holds_all (l:List (List Rl))(A:Option Addr)(c:Nat)(A0:Option Addr)(n0 c0:Nat)(A1:Option Addr)(n1 c1:Nat)(a2 a3:Int)(q:Rl→Bool)(W:World)
    (hr:Kd.C (Kd.slice 60 k60) W A l.length l) (hc:l.length≤c)
    (hQ:∀ row ∈ l,∀ x ∈ row,∀ w A3 c3 go,Below W.heap.size W w→w.cell? ⟨go,0,none⟩=some (.slice A0 n0 c0)→w.cell? ⟨go,1,none⟩=some (.slice A1 n1 c1)→w.cell? ⟨go,2,none⟩=some (.int .i64 a2)→w.cell? ⟨go,3,none⟩=some (.int .i64 a3) →
      Kd.C k57 w A3 x.f3.length x.f3→x.f3.length≤c3→Calls Tryz.prog 59 #[.agg #[.int .u8 x.f0,.int .i64 x.f1,.bool x.f2,.slice A3 x.f3.length c3],.pointer (some ⟨go,0,none⟩)] w fun e w'=>e = .returned (.bool (q x))∧Below w.heap.size w w') :
    Calls Tryz.prog 37 #[.slice A l.length c,.agg #[.slice A0 n0 c0,.slice A1 n1 c1,.int .i64 a2,.int .i64 a3]] W fun e w'=>e = .returned (.bool (l.any fun row=>!row.any q))∧Below W.heap.size W w':=by
 have HR:=zA (fun w (hb:Below W.heap.size W w)=>Kd.C_below hr hb)
 have HL:=zA (holds_at l A c A0 n0 c0 A1 n1 c1 a2 a3 q W hr hc hQ)
 clear hr hQ
 go_enter Tryz.func37,Tryz.ntmps37
 have hx:=heap_alloc_new W (.cells #[.slice A0 n0 c0,.slice A1 n1 c1,.int .i64 a2,.int .i64 a3] 36)
 have hy:=heap_alloc_new (W.alloc (.cells #[.slice A0 n0 c0,.slice A1 n1 c1,.int .i64 a2,.int .i64 a3] 36)) (.cells #[.func (.func 59) #[] #[.pointer (some ⟨W.heap.size,0,none⟩)]] 96)
 have hsz:(W.alloc (.cells #[.slice A0 n0 c0,.slice A1 n1 c1,.int .i64 a2,.int .i64 a3] 36)).heap.size=W.heap.size+1:=by simp
 rw [hsz] at hy
 have HB:=below_alloc (below_alloc (Below.refl W.heap.size W) (.cells #[.slice A0 n0 c0,.slice A1 n1 c1,.int .i64 a2,.int .i64 a3] 36)) (.cells #[.func (.func 59) #[] #[.pointer (some ⟨W.heap.size,0,none⟩)]] 96)
 have hx2:=(((Below.refl (W.alloc (.cells #[.slice A0 n0 c0,.slice A1 n1 c1,.int .i64 a2,.int .i64 a3] 36)).heap.size (W.alloc (.cells #[.slice A0 n0 c0,.slice A1 n1 c1,.int .i64 a2,.int .i64 a3] 36))).alloc (Nat.le_refl _) (.cells #[.func (.func 59) #[] #[.pointer (some ⟨W.heap.size,0,none⟩)]] 96)).block W.heap.size (by rw [hsz];omega)).trans hx
 have HC:=zA (HL.out (W.heap.size+1) W.heap.size _ HB ((blk_cell hy 0).trans rfl) ((blk_cell hx2 0).trans rfl) ((blk_cell hx2 1).trans rfl) ((blk_cell hx2 2).trans rfl) ((blk_cell hx2 3).trans rfl))
 replace HB:=zA HB
 clear hx hy hx2 hsz HL
 go_wp2_with (go_at_call 62;refine HC.out.mono ?_;rintro e w5 ⟨rfl,hb5⟩;have hB5:=zA (below_step HB.out hb5);clear hb5)
 go_ret
 exact ⟨rfl,hB5.out⟩
end
theorem bareL_figs {l:List Int}(h:Figs l):Figs (bareL l):=fun x hx=>h x ((List.dropWhile_sublist _).subset hx)
theorem bareL_len (l:List Int):(bareL l).length≤l.length:=(List.dropWhile_sublist _).length_le
theorem bareL_num (l:List Int):num (bareL l)=num l:=by
 induction l with
 | nil=>rfl
 | cons d l ih=>
  by_cases h:d=0
  · subst h;rw [bareL_zero,ih,num_cons];omega
  rw [bareL_other l h]
def Bare (l:List Int):Prop:=l=[]∨rd l 0≠0
theorem bareL_bare (l:List Int):Bare (bareL l):=by
 induction l with
 | nil=>exact .inl rfl
 | cons d l ih=>
  by_cases h:d=0
  · subst h;exact ih
  rw [bareL_other l h];exact .inr (by simpa [rd] using h)
theorem bare_ev (l:List Int):Ev (fun _=>oper_bare.f l) (bareL l):=Ev.now _
def ndL (n:Int):List Int:=if n=0 then [] else digsN n.toNat
theorem ndL_figs (n:Int):Figs (ndL n):=by unfold ndL;split;exact Figs.nil;exact digsN_figs _
theorem ndL_num {n:Int}(h:0≤n):num (ndL n)=n:=by
 unfold ndL
 split
 · rename_i h0;rw [h0];rfl
 rw [digsN_num];omega
theorem ndL_bare {n:Int}(h:0≤n):Bare (ndL n):=by
 unfold ndL
 split
 · exact .inl rfl
 have:=digsN_first n.toNat (by omega)
 exact .inr (by omega)
theorem number_f {n:Int}(h:0≤n)(h1:n≤9223372036854775807):oper_number.f n=some (ndL n):=by
 unfold oper_number.f ndL
 rw [if_pos ⟨by omega,h1⟩]
 split
 · rfl
 unfold numText
 rw [bytes_list,itoa_map]
 unfold pw
 rw [if_neg (by omega),List.map_map]
 congr 1
 conv=>rhs;rw [← List.map_id (digsN n.toNat)]
 apply List.map_congr_left
 intro d hd
 have:=digsN_figs n.toNat d hd
 simp only [Function.comp_apply,chr,lessB,id]
 omega
theorem bare_lt {a b:List Int}(ha:Figs a)(hb:Figs b)(hB:Bare b)(h:a.length<b.length):num a<num b:=by
 have h1:=num_lt ha
 rcases hB with rfl|h0
 · simp at h
 have f0:=rd_figs hb 0
 rw [Int.natCast_zero] at f0
 have h2:=num_pos hb (by omega) (by omega)
 have h3:=T10_le (show a.length≤b.length - 1 by omega)
 omega
theorem compared_f {a b:List Int}(ha:Figs a)(hb:Figs b)(hA:Bare a)(hB:Bare b)(la:a.length≤1000000)(lb:b.length≤1000000):∃ c,oper_compared.f a b=some c∧(c≤0 ↔ num a≤num b)∧(c≥0 ↔ num b≤num a):=by
 unfold oper_compared.f
 by_cases hl:a.length=b.length
 ·rw [if_pos (by omega)]
  unfold bytes_Compare.f
  refine ⟨sg (num a - num b),by rw [compare_num a b ha hb hl];rfl,?_,?_⟩
  ·have h1:¬ 0<sg (num a - num b) ↔ ¬ 0<num a - num b:=not_congr sg_pos
   omega
  have h1:¬ sg (num a - num b)<0 ↔ ¬ num a - num b<0:=not_congr sg_lt
  omega
 rw [if_neg (by omega),w64 _ (by omega) (by omega)]
 refine ⟨_,rfl,?_⟩
 rcases Nat.lt_or_gt_of_ne hl with h|h
 ·have:=bare_lt ha hb hB h
  constructor <;> omega
 have:=bare_lt hb ha hA h
 constructor <;> omega
theorem ndL_len {n:Int}(h:0≤n)(h1:n≤9223372036854775807):(ndL n).length≤19:=by
 unfold ndL
 split
 · simp
 exact digsN_length 18 n.toNat (by omega)
def inD (l:List Int)(from_ to_:Int):Bool:=decide (0≤to_∧(0≤from_→from_≤num l)∧num l≤to_)
theorem in_ev {l:List Int}(hf:Figs l)(hl:l.length≤1000000)(x y:Int)(hx : -9223372036854775808≤x∧x≤9223372036854775807)(hy : -9223372036854775808≤y∧y≤9223372036854775807):Ev (fun _=>oper_In.f l x y) (inD l x y):=by
 have hn:=num_lt hf
 have hbl:=bareL_len l
 unfold oper_In.f
 refine Ev.bind (bare_ev l) ?_
 by_cases h0:y≥0
 rotate_left
 ·simp only [if_neg h0]
  have:inD l x y=false:=by
   unfold inD
   rw [decide_eq_false_iff_not]
   intro h
   omega
  rw [this]
  exact Ev.now _
 have hmx:0≤mx x 0∧mx x 0≤9223372036854775807∧(mx x 0≤num l ↔ (0≤x→x≤num l)):=by
  unfold mx
  split
  · exact ⟨by omega,by omega,by omega⟩
  exact ⟨by omega,by omega,by omega⟩
 have l1:=ndL_len hmx.1 hmx.2.1
 have l2:=ndL_len h0 hy.2
 obtain ⟨c,hc,c1,c2⟩:=compared_f (bareL_figs hf) (ndL_figs (mx x 0)) (bareL_bare l) (ndL_bare hmx.1) (by omega) (by omega)
 obtain ⟨d,hd,d1,d2⟩:=compared_f (bareL_figs hf) (ndL_figs y) (bareL_bare l) (ndL_bare h0) (by omega) (by omega)
 rw [bareL_num,ndL_num hmx.1] at c1 c2
 rw [bareL_num,ndL_num h0] at d1 d2
 simp only [if_pos h0,number_f hmx.1 hmx.2.1,number_f h0 hy.2,Option.bind_some,hc,hd]
 by_cases hc0:c≥0
 ·simp only [if_pos hc0]
  have:decide (d≤0)=inD l x y:=by
   unfold inD
   rw [decide_eq_decide]
   have:=hmx.2.2.1 (c2.1 hc0)
   constructor
   · intro h;exact ⟨h0,this,d1.1 h⟩
   intro h;exact d1.2 h.2.2
  rw [this]
  exact Ev.now _
 simp only [if_neg hc0]
 have:inD l x y=false:=by
  unfold inD
  rw [decide_eq_false_iff_not]
  intro h
  exact hc0 (c2.2 (hmx.2.2.2 h.2.1))
 rw [this]
 exact Ev.now _
theorem take_succ_snoc (l:List Int)(k:Nat)(hk:k<l.length):l.take (k+1)=l.take k ++ [rd l k]:=by
 rw [List.take_succ_eq_append_getElem hk]
 congr 2
 simp [rd,List.getD_eq_getElem?_getD,List.getElem?_eq_getElem hk]
theorem mod_step (a d m:Int):(a % m * 10+d) % m=(a * 10+d) % m:=by
 rw [Int.add_emod,Int.mul_emod,Int.emod_emod,← Int.mul_emod,← Int.add_emod]
theorem mod_l0 {l:List Int}(hf:Figs l)(hl:l.length≤1000000){m:Int}(hm:1≤m∧m≤1000000000)(n:Nat):∀ i:Nat,i+n=l.length→oper_Mod.l0 (n+1) m (num (l.take i) % m) l (l.length:Int) (i:Int)=some (num l % m):=by
 induction n with
 | zero=>
  intro i hi
  rw [oper_Mod.l0,if_neg (by omega),List.take_of_length_le (by omega)]
 | succ n ih=>
  intro i hi
  have hd:=rd_figs hf i
  have h1:=Int.emod_nonneg (num (l.take i)) (show m≠0 by omega)
  have h2:=Int.emod_lt_of_pos (num (l.take i)) (show 0<m by omega)
  rw [oper_Mod.l0,if_pos (by omega),if_pos (by omega),if_pos (by omega),if_neg (by omega)]
  rw [w64 (_ * 10) (by omega) (by omega),w64 (rd l i) (by omega) (by omega),w64 (_+_) (by omega) (by omega),w64 ((i:Int)+1) (by omega) (by omega)]
  rw [Int.tmod_eq_emod_of_nonneg (by omega),mod_step]
  have:=ih (i+1) (by omega)
  rw [take_succ_snoc l i (by omega),num_snoc] at this
  simpa using this
theorem figsB_iff {l:List Int}(hw:∀ b_ ∈ l,(Lit.int .u8 b_).wf=true):figsB l=true ↔ Figs l:=by
 unfold figsB
 constructor
 ·intro h x hx
  have h1:=wf_u8 (hw x hx)
  simp only [Bool.not_eq_true',List.any_eq_false] at h
  have:=h x hx
  simp at this
  omega
 intro h
 simp only [Bool.not_eq_true',List.any_eq_false]
 intro x hx
 have:=h x hx
 simp;omega
def RightO (i f:List Int)(w c:Int):Prop:=figsB i=true∧figsB f=true∧Bare i∧w=(fullN f:Int)∧0≤c∧c≤1000
instance (l:List Int):Decidable (Bare l):=by unfold Bare;exact inferInstance
instance (i f:List Int) (w c:Int):Decidable (RightO i f w c):=by unfold RightO;exact inferInstance
def operandR (i f:List Int)(w c:Int)(name:Int):List Int×Bool:=
  if name=110 then (if w>0 then ([],false) else (i,true)) else if name=105 then (i,true) else if name=118 then (ndL f.length,true) else if name=119 then (ndL w,true)
  else if name=102 then (bareL f,true) else if name=116 then (bareL (f.take w.toNat),true) else if name=99 then (ndL c,true) else if name=101 then (ndL c,true) else ([],false)
theorem wholeO_ev {g:Nat→Option (List Int)}{r:List Int}(h:Ev g r):Ev (fun k=>wholeO (g k)) (r,true):=Ev.bind h (Ev.now _)
theorem operand_ev (i f:List Int)(w c:Int)(name:Int)(hf:f.length≤1000000000)(hw:0≤w∧w≤f.length)(hc:0≤c∧c≤1000):Ev (fun _=>oper_Operand.f i f w c name) (operandR i f w c name):=by
 unfold oper_Operand.f operandR
 by_cases h1:name=110
 ·simp only [if_pos h1]
  by_cases h2:w>0
  · simp only [if_pos h2];exact Ev.now _
  simp only [if_neg h2];exact Ev.now _
 simp only [if_neg h1]
 by_cases h1:name=105
 · simp only [if_pos h1];exact Ev.now _
 simp only [if_neg h1]
 by_cases h1:name=118
 ·simp only [if_pos h1]
  refine wholeO_ev ?_
  unfold oper_told_v.f
  rw [number_f (by omega) (by omega)]
  exact Ev.now _
 simp only [if_neg h1]
 by_cases h1:name=119
 ·simp only [if_pos h1]
  refine wholeO_ev ?_
  unfold oper_told_w.f
  rw [number_f (by omega) (by omega)]
  exact Ev.now _
 simp only [if_neg h1]
 by_cases h1:name=102
 ·simp only [if_pos h1]
  refine wholeO_ev ?_
  unfold oper_told_f.f
  exact Ev.now _
 simp only [if_neg h1]
 by_cases h1:name=116
 ·simp only [if_pos h1]
  refine wholeO_ev ?_
  unfold oper_told_t.f
  simp only [if_pos hw.1,if_pos hw.2]
  exact Ev.now _
 simp only [if_neg h1]
 by_cases h1:name=99
 ·simp only [if_pos h1]
  refine wholeO_ev ?_
  unfold oper_told_c.f
  rw [number_f (by omega) (by omega)]
  exact Ev.now _
 simp only [if_neg h1]
 by_cases h1:name=101
 ·simp only [if_pos h1]
  refine wholeO_ev ?_
  unfold oper_told_c.f
  rw [number_f (by omega) (by omega)]
  exact Ev.now _
 simp only [if_neg h1]
 exact Ev.now _
section
structure RelSt (W:World)(g:Nat)(s:ByteArray)(a:Nat)(b:Bool)(g2 g3:Nat)(c m:Int)(nt:Bool)(v:Value)(l:List Rg)(wr:World):Prop where
  rd:RdTo W g s a b wr
  z2:wr.heap[g2]?=some (.cells #[.int .u8 0,.int .i64 0,.bool false,.slice none 0 0] 60 (0,0))
  x3:wr.heap[g3]?=some (.cells #[.int .u8 c,.int .i64 m,.bool nt,v] 60 (0,0))
  row:Kd.R k57 57 wr W.heap.size (fun k=>k≠g∧k≠g2∧k≠g3) v l
  h2:W.heap.size≤g2
  h3:g2<g3
  hg:g<W.heap.size
structure RelC (wr:World)(g:Nat)(s:ByteArray)(a:Nat)(b:Bool)(g2 g3:Nat)(c m:Int)(nt:Bool)(v:Value):Prop where
  rc:Rdc wr g s a b
  c0:wr.cell? ⟨g3,0,none⟩=some (.int .u8 c)
  c1:wr.cell? ⟨g3,1,none⟩=some (.int .i64 m)
  c2:wr.cell? ⟨g3,2,none⟩=some (.bool nt)
  c3:wr.cell? ⟨g3,3,none⟩=some v
  k1:wr.frozen? ⟨g3,1,none⟩=false
  k2:wr.frozen? ⟨g3,2,none⟩=false
  k3:wr.frozen? ⟨g3,3,none⟩=false
  y0:wr.cell? ⟨g2,0,none⟩=some (.int .u8 0)
  y1:wr.cell? ⟨g2,1,none⟩=some (.int .i64 0)
  y2:wr.cell? ⟨g2,2,none⟩=some (.bool false)
  y3:wr.cell? ⟨g2,3,none⟩=some (.slice none 0 0)
  z0:wr.frozen? ⟨g2,0,none⟩=false
  z1:wr.frozen? ⟨g2,1,none⟩=false
  z2:wr.frozen? ⟨g2,2,none⟩=false
  z3:wr.frozen? ⟨g2,3,none⟩=false
section
variable {W wr W2:World}{g:Nat}{s:ByteArray}{a a':Nat}{b b':Bool}{g2 g3:Nat}{c m:Int}{nt:Bool}{v:Value}{l:List Rg}
theorem RdTo.rdr (h:RdTo W g s a b wr):Rdr wr g s a b:=h.1
theorem Rdr.alloc (h:Rdr W g s a b)(o:Obj):Rdr (W.alloc o) g s a b:=by
 have:=(Below.refl W.heap.size W).alloc (Nat.le_refl _) o
 exact (this.block g (blk_lt h)).trans h
theorem RelSt.cells (h:RelSt W g s a b g2 g3 c m nt v l wr):RelC wr g s a b g2 g3 c m nt v:=
  ⟨h.rd.1.c,(blk_cell h.x3 0).trans rfl,(blk_cell h.x3 1).trans rfl,(blk_cell h.x3 2).trans rfl,(blk_cell h.x3 3).trans rfl,blk_frozen h.x3 1,blk_frozen h.x3 2,blk_frozen h.x3 3,(blk_cell h.z2 0).trans rfl,(blk_cell h.z2 1).trans rfl,(blk_cell h.z2 2).trans rfl,(blk_cell h.z2 3).trans rfl,blk_frozen h.z2 0,blk_frozen h.z2 1,blk_frozen h.z2 2,blk_frozen h.z2 3⟩
theorem RelSt.call (h:RelSt W g s a b g2 g3 c m nt v l wr)(k:RdTo wr g s a' b' W2):RelSt W g s a' b' g2 g3 c m nt v l W2 where
  rd:=h.rd.then k
  z2:=blk_grown h.z2 k.2 (fun e=>by have:=h.h2;have:=h.hg;cases e;omega)
  x3:=blk_grown h.x3 k.2 (fun e=>by have:=h.h2;have:=h.h3;have:=h.hg;cases e;omega)
  row:=Kd.R_grown h.row k.2 (fun q hq e=>hq.1 (zE e))
  h2:=h.h2
  h3:=h.h3
  hg:=h.hg
theorem grown_set {W W':World}{g g3 i:Nat}{v:Value}(h:W.grownBy W' (some g))(hg3:W.heap.size≤g3):W.grownBy (W'.setCell ⟨g3,i,none⟩ v) (some g):=
  ⟨h.os,h.tape,h.output,by simpa using h.size,fun k hk hr=>(Below.heap_setCell W' ⟨g3,i,none⟩ v k (by show k≠g3;omega)).trans (h.block k hk hr)⟩
theorem RdTo.other (h:RdTo W g s a b wr){g3 i:Nat}{u:Value}(hg3:W.heap.size≤g3)(hg:g<W.heap.size):RdTo W g s a b (wr.setCell ⟨g3,i,none⟩ u):=
  ⟨(Below.heap_setCell wr ⟨g3,i,none⟩ u g (by show g≠g3;omega)).trans h.1,grown_set h.2 hg3⟩
theorem RelSt.set1 (h:RelSt W g s a b g2 g3 c m nt v l wr)(m':Int):RelSt W g s a b g2 g3 c m' nt v l (wr.setCell ⟨g3,1,none⟩ (.int .i64 m')) where
  rd:=h.rd.other (by have:=h.h2;have:=h.h3;omega) h.hg
  z2:=blk_far h.z2 (p:=⟨g3,1,none⟩) (by have:=h.h3;show g2≠g3;omega) _
  x3:=blk_put (cs:=#[.int .u8 c,.int .i64 m,.bool nt,v]) h.x3 1 _ rfl
  row:=Kd.R_far h.row (p:=⟨g3,1,none⟩) (fun q hq=>hq.2.2) _
  h2:=h.h2
  h3:=h.h3
  hg:=h.hg
theorem RelSt.set2 (h:RelSt W g s a b g2 g3 c m nt v l wr)(n':Bool):RelSt W g s a b g2 g3 c m n' v l (wr.setCell ⟨g3,2,none⟩ (.bool n')) where
  rd:=h.rd.other (by have:=h.h2;have:=h.h3;omega) h.hg
  z2:=blk_far h.z2 (p:=⟨g3,2,none⟩) (by have:=h.h3;show g2≠g3;omega) _
  x3:=blk_put (cs:=#[.int .u8 c,.int .i64 m,.bool nt,v]) h.x3 2 _ rfl
  row:=Kd.R_far h.row (p:=⟨g3,2,none⟩) (fun q hq=>hq.2.2) _
  h2:=h.h2
  h3:=h.h3
  hg:=h.hg
theorem RelSt.row_lt (h:RelSt W g s a b g2 g3 c m nt v l wr):∀ k,v.ownBlock=some k→k≠g∧k≠g2∧k≠g3:=fun k hk=>h.row.1 k hk
theorem RelSt.set3 {v':Value}{l':List Rg}(h:RelSt W g s a b g2 g3 c m nt v l wr)(hr:Kd.R k57 57 W2 W.heap.size (fun k=>k≠g∧k≠g2∧k≠g3) v' l')(hgr:wr.grownBy W2 v.ownBlock) :
    RelSt W g s a b g2 g3 c m nt v' l' (W2.setCell ⟨g3,3,none⟩ v'):=by
 have hne:=h.row_lt
 have k1:∀ {q:Nat} {o:Obj},wr.heap[q]?=some o→(q=g∨q=g2∨q=g3)→W2.heap[q]?=some o:=fun {q o} hq hh=>blk_grown hq hgr (fun e=>by
  have:=hne q e.symm
  rcases hh with rfl|rfl|rfl
  · exact this.1 rfl
  · exact this.2.1 rfl
  exact this.2.2 rfl)
 have hg2:W.grownBy W2 (some g):=⟨hgr.os.trans h.rd.2.os,hgr.tape.trans h.rd.2.tape,hgr.output.trans h.rd.2.output,Nat.le_trans h.rd.2.size hgr.size,fun k hk hr'=>by
  have hlt:k<wr.heap.size:=Nat.lt_of_lt_of_le hk h.rd.2.size
  rw [hgr.block k hlt (fun e=>?_)]
  · exact h.rd.2.block k hk hr'
  have:=(Kd.R_bound h.row).1 k e.symm
  omega⟩
 exact { rd := RdTo.other ⟨k1 h.rd.1 (.inl rfl), hg2⟩ (by have := h.h2; have := h.h3; omega) h.hg
         z2:=blk_far (k1 h.z2 (.inr (.inl rfl))) (p:=⟨g3,3,none⟩) (by have:=h.h3;show g2≠g3;omega) _
         x3:=blk_put (cs:=#[.int .u8 c,.int .i64 m,.bool nt,v]) (k1 h.x3 (.inr (.inr rfl))) 3 _ rfl
         row:=Kd.R_far hr (p:=⟨g3,3,none⟩) (fun q hq=>hq.2.2) _
         h2:=h.h2
         h3:=h.h3
         hg:=h.hg }
theorem RelSt.start {o:Int}(h:RdTo (W.alloc (.cells #[.int .u8 0,.int .i64 0,.bool false,.slice none 0 0] 60)) g s a b wr)(hg:g<W.heap.size) :
    RelSt W g s a b W.heap.size wr.heap.size o 0 false (.slice none 0 0) [] (wr.alloc (.cells #[.int .u8 o,.int .i64 0,.bool false,.slice none 0 0] 60)):=by
 have hs1:=h.2.size
 have e1:(W.alloc (.cells #[.int .u8 0,.int .i64 0,.bool false,.slice none 0 0] 60)).heap.size=W.heap.size+1:=by simp
 rw [e1] at hs1
 have hW:RdTo W g s a b wr:=⟨h.1,(World.grownBy_alloc W _ (some g)).trans h.2⟩
 have z:wr.heap[W.heap.size]?=some (.cells #[.int .u8 0,.int .i64 0,.bool false,.slice none 0 0] 60 (0,0)):=blk_grown (heap_alloc_new W _) h.2 (fun e=>by cases e;omega)
 exact { rd := ⟨h.1.alloc _, Lib.grownBy_allocR hW.2 _⟩
         z2:=blk_grown z (World.grownBy_alloc wr _ none) (by simp)
         x3:=heap_alloc_new wr _
         row:=Kd.R_nil _ _ _ _ _
         h2:=Nat.le_refl _
         h3:=by omega
         hg:=hg }
theorem RelSt.done (h:RelSt W g s a b g2 g3 c m nt v l wr) :
    RdTo W g s a b ((((wr.setCell ⟨g2,0,none⟩ (.int .u8 c)).setCell ⟨g2,1,none⟩ (.int .i64 m)).setCell ⟨g2,2,none⟩ (.bool nt)).setCell ⟨g2,3,none⟩ v) ∧
    ((((wr.setCell ⟨g2,0,none⟩ (.int .u8 c)).setCell ⟨g2,1,none⟩ (.int .i64 m)).setCell ⟨g2,2,none⟩ (.bool nt)).setCell ⟨g2,3,none⟩ v).heap[g2]?=some (.cells #[.int .u8 c,.int .i64 m,.bool nt,v] 60 (0,0)) ∧
    Kd.R k57 57 ((((wr.setCell ⟨g2,0,none⟩ (.int .u8 c)).setCell ⟨g2,1,none⟩ (.int .i64 m)).setCell ⟨g2,2,none⟩ (.bool nt)).setCell ⟨g2,3,none⟩ v) W.heap.size (fun k=>k≠g) v l:=by
 have h2:=h.h2
 refine ⟨(((h.rd.other h2 h.hg).other h2 h.hg).other h2 h.hg).other h2 h.hg,?_,?_⟩
 · exact blk_put (cs:=#[.int .u8 c,.int .i64 m,.bool nt,.slice none 0 0]) (blk_put (cs:=#[.int .u8 c,.int .i64 m,.bool false,.slice none 0 0]) (blk_put (cs:=#[.int .u8 c,.int .i64 0,.bool false,.slice none 0 0]) (blk_put (cs:=#[.int .u8 0,.int .i64 0,.bool false,.slice none 0 0]) h.z2 0 _ rfl) 1 _ rfl) 2 _ rfl) 3 _ rfl
 exact Kd.R_mono (Kd.R_far (Kd.R_far (Kd.R_far (Kd.R_far h.row (p:=⟨g2,0,none⟩) (fun q hq=>hq.2.1) _) (p:=⟨g2,1,none⟩) (fun q hq=>hq.2.1) _) (p:=⟨g2,2,none⟩) (fun q hq=>hq.2.1) _) (p:=⟨g2,3,none⟩) (fun q hq=>hq.2.1) _) (fun k hk=>hk.1)
end
def RelOut (W:World)(g:Nat)(s:ByteArray)(a:Nat)(e:Ending)(W':World):Prop:=
  match relP ((bytesOf s).drop a) with
  | (none,n)=>(∃ c m nt A k cc,e = .returned (.agg #[.int .u8 c,.int .i64 m,.bool nt,.slice A k cc]))∧RdTo W g s (a+n) false W'
  | (some x,n)=>∃ v,e = .returned (.agg #[.int .u8 x.f0,.int .i64 x.f1,.bool x.f2,v])∧Kd.R k57 57 W' W.heap.size (fun k=>k≠g) v x.f3∧RdTo W g s (a+n+bl ((bytesOf s).drop (a+n))) true W'
end
abbrev Ru:=S65
deriving instance DecidableEq for S65
theorem ruled_at {w:World}{A:Option Addr}{n:Nat}{xs:List Ru}(h:Kd.C k65 w A n xs)(i:Nat)(hi:i<n) :
    ∃ ad A1 c1,A=some ad∧w.cell? (ad.add (i * 2))=some (.int .i64 (xs.getD i ⟨0,[]⟩).f0)∧w.cell? ⟨(ad.add (i * 2)).block,(ad.add (i * 2)).off+1,none⟩=some (.slice A1 (xs.getD i ⟨0,[]⟩).f1.length c1) ∧
      (xs.getD i ⟨0,[]⟩).f1.length≤c1∧Kd.C (Kd.slice 60 k60) w A1 (xs.getD i ⟨0,[]⟩).f1.length (xs.getD i ⟨0,[]⟩).f1:=by
 have:=at_T65 h (i:Int) (by omega) (by omega)
 simpa [rd_T65,z65] using this
set_option maxHeartbeats 4000000 in
set_option maxRecDepth 100000 in
theorem same_ruled (a b:Ru)(A0:Option Addr)(c0:Nat)(A1:Option Addr)(c1:Nat)(w:World)
    (h0:Kd.C (Kd.slice 60 k60) w A0 a.f1.length a.f1) (hc0:a.f1.length≤c0) (h1:Kd.C (Kd.slice 60 k60) w A1 b.f1.length b.f1) (hc1:b.f1.length≤c1) :
    Calls Tryz.prog 47 #[.agg #[.int .i64 a.f0,.slice A0 a.f1.length c0],.agg #[.int .i64 b.f0,.slice A1 b.f1.length c1]] w fun e w'=>e = .returned (.bool (decide (a=b)))∧Below w.heap.size w w':=by
 obtain ⟨a0,a1⟩:=a
 obtain ⟨b0,b1⟩:=b
 simp only at h0 h1 hc0 hc1 ⊢
 have HE:=zA (fun W (hb:Below w.heap.size w W)=>rule_Same.calls A0 c0 a1 A1 c1 b1 _ W (Kd.C_below h0 hb) hc0 (Kd.C_below h1 hb) hc1 rfl)
 clear h0 h1 hc0 hc1
 cases q0:(a0 == b0) with
 | false=>
  go_enter Tryz.func47,Tryz.ntmps47
  go_wp2
  go_ret
  refine ⟨?_,?_⟩
  ·rw [zD (by intro e;simp only [S65.mk.injEq] at e;simp [e.1] at q0)]
   rfl
  repeat (first|exact Below.refl _ _|apply below_alloc)
 | true=>
  go_enter Tryz.func47,Tryz.ntmps47
  go_wp2_with (go_at_call 33;(refine (HE.out _ (below_alloc (below_alloc (Below.refl _ _) _) _)).mono ?_);rintro e w5 ⟨rfl,hb5⟩;have hB:=below_step (below_alloc (below_alloc (Below.refl _ _) _) _) hb5;clear hb5)
  go_ret
  refine ⟨?_,hB⟩
  have e0:=eq_of_beq q0
  subst e0
  simp only [S65.mk.injEq,true_and]
  rfl
set_option maxHeartbeats 4000000 in
set_option maxRecDepth 100000 in
theorem eq_ruleds (A0:Option Addr)(c0:Nat)(l0:List Ru)(A1:Option Addr)(c1:Nat)(l1:List Ru)(w:World)
    (h0:Kd.C k65 w A0 l0.length l0) (hc0:l0.length≤c0) (h1:Kd.C k65 w A1 l1.length l1) (hc1:l1.length≤c1) :
    Calls Tryz.prog 46 #[.slice A0 l0.length c0,.slice A1 l1.length c1,.func (.func 47) #[] #[]] w fun e w'=>e = .returned (.bool (decide (l0=l1)))∧Below w.heap.size w w':=by
 have L0:=zA (fun W (hb:Below w.heap.size w W)=>Kd.C_below h0 hb)
 have L1:=zA (fun W (hb:Below w.heap.size w W)=>Kd.C_below h1 hb)
 have hn:=h0.2.1
 clear h0 h1
 have ef:=enters_of Tryz.func47 (by kernel_rfl) rfl
 by_cases hl:l0.length=l1.length
 rotate_left
 ·have g2:((l0.length:Int) != (l1.length:Int))=true:=by simp;omega
  have g3:((l0.length:Int) == (l1.length:Int))=false:=by simp;omega
  have HN:=zA (show l0≠l1 from fun e=>hl (by rw [e]))
  clear hl
  go_enter Tryz.func46,Tryz.ntmps46
  go_wp2
  go_ret
  exact ⟨by rw [zD HN.out];rfl,Below.refl _ _⟩
 have g1:decide ((l0.length:Int)=(l1.length:Int))=true:=zC (by omega)
 have g2:((l0.length:Int) != (l1.length:Int))=false:=by rw [hl];simp
 have g3:((l0.length:Int) == (l1.length:Int))=true:=by rw [hl];simp
 have HL:=zA hl
 clear hl
 go_enter Tryz.func46,Tryz.ntmps46
 go_wp2
 go_loopg [7,8,9,17] l0.length (fun gg _ _ _ s17 wr=>∃ k:Nat,k≤l0.length∧l0.length - k≤gg∧s17 = .int .i64 k∧Aside0 (Below w.heap.size w wr)∧Aside0 (l0.take k=l1.take k))
 case atStart=>exact ⟨0,by omega,by omega,rfl,⟨Below.refl _ _⟩,⟨rfl⟩⟩
 case round=>
  obtain ⟨k,hk,hg,rfl,HB,HT⟩:=hrel
  by_cases hlt:k<l0.length
  rotate_left
  ·have j1:decide ((k:Int)<(l0.length:Int))=false:=zD (by omega)
   go_wp2
   go_ret
   refine ⟨?_,HB.out⟩
   rw [zC (same_end HL.out (by omega) HT.out)]
   rfl
  have j1:decide ((k:Int)<(l0.length:Int))=true:=zC (by omega)
  obtain ⟨ad,A3,c3,rfl,x0,x1,hx3,HX⟩:=ruled_at (L0.out wr HB.out) k hlt
  obtain ⟨ae,B3,d3,rfl,y0,y1,hy3,HY⟩:=ruled_at (L1.out wr HB.out) k (by rw [← HL.out];exact hlt)
  generalize hX:l0.getD k ⟨0,[]⟩=X at *
  generalize hY:l1.getD k ⟨0,[]⟩=Y at *
  have p0:(0≤(k:Int))=True:=eq_true (by omega)
  have m2:decide (k<l0.length)=true:=zC hlt
  have m3:((k:Int)<(l0.length:Int))=True:=eq_true (by omega)
  have m4:(k<l0.length)=True:=eq_true hlt
  have hlt1:k<l1.length:=by rw [← HL.out];exact hlt
  have n1:decide ((k:Int)<(l1.length:Int))=true:=zC (by omega)
  have n2:decide (k<l1.length)=true:=zC hlt1
  have n3:((k:Int)<(l1.length:Int))=True:=eq_true (by omega)
  have n4:(k<l1.length)=True:=eq_true hlt1
  have HF:=zA (fun W (hb:Below wr.heap.size wr W)=>same_ruled X Y A3 c3 B3 d3 W (Kd.C_below HX hb) hx3 (Kd.C_below HY hb) hy3)
  clear HX HY hx3 hy3
  have z0:=fun o=>((below_alloc (Below.refl wr.heap.size wr) o).cell (World.block_lt_of_cell? wr _ y0)).trans y0
  have z1:=fun o=>((below_alloc (Below.refl wr.heap.size wr) o).cell (World.block_lt_of_cell? wr _ y1)).trans y1
  cases hq:decide (X=Y) with
  | false=>
   rw [hq] at HF
   go_wp2_with (go_at_call 47;(refine (HF.out _ (below_alloc (below_alloc (Below.refl _ _) _) _)).mono ?_);rintro e w5 ⟨rfl,hb5⟩;have hB:=below_step (below_alloc (below_alloc HB.out _) _) hb5;clear hb5)
   go_ret
   refine ⟨?_,hB⟩
   have hne:l0≠l1:=same_not (⟨0,[]⟩:Ru) (k:=k) (by rw [hX,hY];exact of_decide_eq_false hq)
   rw [zD hne]
   rfl
  | true=>
   rw [hq] at HF
   go_wp2_with (go_at_call 47;(refine (HF.out _ (below_alloc (below_alloc (Below.refl _ _) _) _)).mono ?_);rintro e w5 ⟨rfl,hb5⟩;have hB:=below_step (below_alloc (below_alloc HB.out _) _) hb5;clear hb5)
   go_roundg (l0.length - (k+1))
   case measure=>omega
   case rel=>exact ⟨k+1,by omega,by omega,by go_num,⟨hB⟩,⟨same_more (⟨0,[]⟩:Ru) HL.out hlt HT.out (by rw [hX,hY];exact zB hq)⟩⟩
def plur_Same.f (l0 l1:List Ru):Option Bool:=some (decide (l0=l1))
set_option maxHeartbeats 2000000 in
set_option maxRecDepth 100000 in
theorem plur_Same.calls (A0:Option Addr)(c0:Nat)(l0:List Ru)(A1:Option Addr)(c1:Nat)(l1:List Ru)(r:Bool)(w:World)
    (hr0:Kd.C k65 w A0 l0.length l0) (hc0:l0.length≤c0) (hr1:Kd.C k65 w A1 l1.length l1) (hc1:l1.length≤c1) (h:plur_Same.f l0 l1=some r) :
    Calls Tryz.prog 23 #[.slice A0 l0.length c0,.slice A1 l1.length c1] w fun e w'=>e = .returned (.bool r)∧Below w.heap.size w w':=by
 obtain rfl:=zE h
 have HE:=eq_ruleds A0 c0 l0 A1 c1 l1 w hr0 hc0 hr1 hc1
 clear hr0 hr1 hc0 hc1 h
 go_enter Tryz.func23,Tryz.ntmps23
 go_wp2_with (go_at_call 46;refine HE.mono ?_;rintro e w5 ⟨rfl,hb5⟩)
 go_ret
 exact ⟨rfl,hb5⟩
section
theorem run_store_fn2 (P:Program)(w:World)(a:Addr)(f:Fn)(b c:Array Value)(m:Mode):(store a (.func f b c) m).run P w=stored P w a (.func f b c) m:=run_store P w a _ m rfl
attribute [local go_sem] run_store_fn2
set_option maxHeartbeats 4000000 in
set_option maxRecDepth 100000 in
theorem in_at (x:Rl)(A3:Option Addr)(c3:Nat)(A0:Option Addr)(n0 c0:Nat)(A1:Option Addr)(n1 c1:Nat)(a2 a3:Int)(l:List Int)(wh:Bool)(n:Int)(W:World)
    (hO:∀ w,Below W.heap.size W w→Calls Tryz.prog 80 #[.agg #[.slice A0 n0 c0,.slice A1 n1 c1,.int .i64 a2,.int .i64 a3],.int .u8 x.f0] w fun e w'=>∃ A c,e = .returned (.tuple #[.slice A l.length c,.bool wh])∧Kd.C (Kd.int .u8) w' A l.length l∧l.length≤c∧Below w.heap.size w w')
    (hM:wh=true→x.f1>0→∀ w A c,Below W.heap.size W w→Kd.C (Kd.int .u8) w A l.length l→l.length≤c→Calls Tryz.prog 81 #[.slice A l.length c,.int .i64 x.f1] w fun e w'=>e = .returned (.int .i64 n)∧Below w.heap.size w w') :
    Calls Tryz.prog 61 #[.agg #[.int .u8 x.f0,.int .i64 x.f1,.bool x.f2,.slice A3 x.f3.length c3],.agg #[.slice A0 n0 c0,.slice A1 n1 c1,.int .i64 a2,.int .i64 a3]] W fun e w'=>
      Below W.heap.size W w'∧((wh=true∧x.f1>0∧∃ gn,e = .returned (.func (.func 82) #[] #[.pointer (some ⟨gn,0,none⟩)])∧w'.cell? ⟨gn,0,none⟩=some (.int .i64 n)) ∨
        (¬ (wh=true∧x.f1>0)∧∃ gw gl A c,e = .returned (.func (.func 83) #[] #[.pointer (some ⟨gw,0,none⟩),.pointer (some ⟨gl,0,none⟩)])∧w'.cell? ⟨gw,0,none⟩=some (.bool wh)∧w'.cell? ⟨gl,0,none⟩=some (.slice A l.length c)∧Kd.C (Kd.int .u8) w' A l.length l∧l.length≤c)):=by
 obtain ⟨b0,b1,b2,b3⟩:=x
 simp only at hO hM ⊢
 have HO:=zA hO
 have HM:=zA hM
 clear hO hM
 have HX:Aside0 (∀ w',Below ((W.alloc (.cells #[.int .u8 b0,.int .i64 b1,.bool b2,.slice A3 b3.length c3] 60)).alloc (.cells #[.slice A0 n0 c0,.slice A1 n1 c1,.int .i64 a2,.int .i64 a3] 36)).heap.size ((W.alloc (.cells #[.int .u8 b0,.int .i64 b1,.bool b2,.slice A3 b3.length c3] 60)).alloc (.cells #[.slice A0 n0 c0,.slice A1 n1 c1,.int .i64 a2,.int .i64 a3] 36)) w'→w'.cell? ⟨W.heap.size,1,none⟩=some (.int .i64 b1)):=by
  refine ⟨fun w' hb=>?_⟩
  have h1:=(blk_cell (heap_alloc_new W (.cells #[.int .u8 b0,.int .i64 b1,.bool b2,.slice A3 b3.length c3] 60)) 1).trans (rfl:_=some (Value.int .i64 b1))
  have h2:=((below_alloc (Below.refl (W.alloc (.cells #[.int .u8 b0,.int .i64 b1,.bool b2,.slice A3 b3.length c3] 60)).heap.size (W.alloc (.cells #[.int .u8 b0,.int .i64 b1,.bool b2,.slice A3 b3.length c3] 60))) (.cells #[.slice A0 n0 c0,.slice A1 n1 c1,.int .i64 a2,.int .i64 a3] 36)).cell (World.block_lt_of_cell? _ _ h1)).trans h1
  exact (hb.cell (World.block_lt_of_cell? _ _ h2)).trans h2
 cases wh with
 | false=>
  go_enter Tryz.func61,Tryz.ntmps61
  go_wp2_with (go_at_call 80;refine (HO.out _ (below_alloc (below_alloc (Below.refl _ _) _) _)).mono ?_;rintro e w5 ⟨A,c,rfl,hC,hc,hb5⟩;have HB:=zA (below_step (below_alloc (below_alloc (Below.refl _ _) _) _) hb5);have HC:=zA hC;have K1:=fun o o2=>HX.out _ (below_alloc (below_alloc hb5 o) o2);clear hb5 hC)
  go_ret
  refine ⟨below_alloc (below_alloc HB.out _) _,.inr ⟨(by simp),w5.heap.size+1,w5.heap.size,A,c,rfl,?_,?_,Kd.C_alloc (Kd.C_alloc HC.out _) _,hc⟩⟩
  ·have:=(blk_cell (heap_alloc_new (w5.alloc (.cells #[.slice A l.length c] 34)) (.cells #[.bool false] 4)) 0).trans rfl
   simpa using this
  exact (blk_cell (((Below.refl (w5.alloc (.cells #[.slice A l.length c] 34)).heap.size (w5.alloc (.cells #[.slice A l.length c] 34))).alloc (Nat.le_refl _) (.cells #[.bool false] 4)).block w5.heap.size (by simp) |>.trans (heap_alloc_new w5 (.cells #[.slice A l.length c] 34))) 0).trans rfl
 | true=>
  by_cases hpos:b1>0
  ·have j1:decide (b1>0)=true:=zC hpos
   replace HM:=zA (HM.out rfl hpos)
   replace hpos:=zA hpos
   go_enter Tryz.func61,Tryz.ntmps61
   go_wp2_with (first|(go_at_call 80;refine (HO.out _ (below_alloc (below_alloc (Below.refl _ _) _) _)).mono ?_;rintro e w5 ⟨A,c,rfl,hC,hc,hb5⟩;have HB:=zA (below_step (below_alloc (below_alloc (Below.refl _ _) _) _) hb5);have HC:=zA hC;have K1:=fun o o2=>HX.out _ (below_alloc (below_alloc hb5 o) o2);clear hb5 hC)|(go_at_call 81;refine (HM.out _ A c (below_alloc (below_alloc HB.out _) _) (Kd.C_alloc (Kd.C_alloc HC.out _) _) hc).mono ?_;rintro e w6 ⟨rfl,hb6⟩;have HB6:=zA (below_step (below_alloc (below_alloc HB.out _) _) hb6);clear hb6))
   go_ret
   exact ⟨below_alloc HB6.out _,.inl ⟨by simp,by have:=hpos.out;omega,w6.heap.size,rfl,(blk_cell (heap_alloc_new w6 _) 0).trans rfl⟩⟩
  have j1:decide (b1>0)=false:=zD hpos
  clear HM
  replace hpos:=zA hpos
  go_enter Tryz.func61,Tryz.ntmps61
  go_wp2_with (go_at_call 80;refine (HO.out _ (below_alloc (below_alloc (Below.refl _ _) _) _)).mono ?_;rintro e w5 ⟨A,c,rfl,hC,hc,hb5⟩;have HB:=zA (below_step (below_alloc (below_alloc (Below.refl _ _) _) _) hb5);have HC:=zA hC;have K1:=fun o o2=>HX.out _ (below_alloc (below_alloc hb5 o) o2);clear hb5 hC)
  go_ret
  refine ⟨below_alloc (below_alloc HB.out _) _,.inr ⟨(by have:=hpos.out;simp;omega),w5.heap.size+1,w5.heap.size,A,c,rfl,?_,?_,Kd.C_alloc (Kd.C_alloc HC.out _) _,hc⟩⟩
  ·have:=(blk_cell (heap_alloc_new (w5.alloc (.cells #[.slice A l.length c] 34)) (.cells #[.bool true] 4)) 0).trans rfl
   simpa using this
  exact (blk_cell (((Below.refl (w5.alloc (.cells #[.slice A l.length c] 34)).heap.size (w5.alloc (.cells #[.slice A l.length c] 34))).alloc (Nat.le_refl _) (.cells #[.bool true] 4)).block w5.heap.size (by simp) |>.trans (heap_alloc_new w5 (.cells #[.slice A l.length c] 34))) 0).trans rfl
end
end Go.Proofs.YtgfajgkjbckkgaaGreatDoor.PZ
end
section
noncomputable section
namespace Go.Proofs.YtgfajgkjbckkgaaGreatDoor.PZ
open Go.RowKit Go.Proofs.YtgfajgkjbckkgaaGreatDoorW.PrintWords Go.Proofs.YtgfajgkjbckkgaaGreatDoorW.PrintLast Go.Proofs.YtgfajgkjbckkgaaGreatDoorW.PrintMore
attribute [local go_sem] max2_int min2_int max_two min_two max_three min_three max_four min_four   -- for this text's walks alone
end Go.Proofs.YtgfajgkjbckkgaaGreatDoor.PZ
end
end
section
set_option maxRecDepth 100000
namespace Go.Proofs.YtgfajgkjbckkgaaGreatDoor.PZ
open Go.RowKit Go.Proofs.YtgfajgkjbckkgaaGreatDoorW.PrintWords Go.Proofs.YtgfajgkjbckkgaaGreatDoorW.PrintLast
section
section
variable {c:List (List Rl)}(hc:TxtOk c){F:List Int}(hF:F.length≤1000000)
include hc hF
def Left (F s q:List Int):Prop:=s ++ q=F
end
end
end Go.Proofs.YtgfajgkjbckkgaaGreatDoor.PZ
end
section
noncomputable section
namespace Go.Proofs.YtgfajgkjbckkgaaGreatDoor.PZ
open Go.RowKit Go.Proofs.YtgfajgkjbckkgaaGreatDoorW.PrintWords Go.Proofs.YtgfajgkjbckkgaaGreatDoorW.PrintLast Go.Proofs.YtgfajgkjbckkgaaGreatDoorW.PrintMore
attribute [local go_sem] max2_int min2_int max_two min_two max_three min_three max_four min_four   -- for this text's walks alone
end Go.Proofs.YtgfajgkjbckkgaaGreatDoor.PZ
end
end
