/- Texts of this seat, joined. Conditions: none beyond each statement's own. -/
import Derived.Test.YtgfajgkjbckkgaaGreatDoorPb16
import Derived.Test.YtgfajgkjbckkgaaGreatDoorPb17
set_option linter.all false
section
set_option maxRecDepth 100000
namespace Go.Proofs.YtgfajgkjbckkgaaGreatDoor.PZ
open Go.RowKit Go.Proofs.YtgfajgkjbckkgaaGreatDoorW.PrintWords Go.Proofs.YtgfajgkjbckkgaaGreatDoorW.PrintLast
section
structure RelSt (W:World)(g:Nat)(s:ByteArray)(a:Nat)(b:Bool)(g2 g3:Nat)(c m:Int)(nt:Bool)(v:Value)(l:List Rg)(wr:World):Prop where
  rd:RdTo W g s a b wr
  z2:wr.heap[g2]?=some (.cells #[.int .u8 0,.int .i64 0,.bool false,.slice none 0 0] 60 (0,0))
  x3:wr.heap[g3]?=some (.cells #[.int .u8 c,.int .i64 m,.bool nt,v] 60 (0,0))
  row:Kd.R k57 57 wr W.heap.size (fun k=>k≠g∧k≠g2∧k≠g3) v l
  h2:W.heap.size≤g2
  h3:g2<g3
  hg:g<W.heap.size
structure RelC (wr:World)(g:Nat)(s:ByteArray)(a:Nat)(b:Bool)(g2 g3:Nat)(c m:Int)(nt:Bool)(v:Value):Prop where
  rc:Rdc wr g s a b
  c0:wr.cell? ⟨g3,0,none⟩=some (.int .u8 c)
  c1:wr.cell? ⟨g3,1,none⟩=some (.int .i64 m)
  c2:wr.cell? ⟨g3,2,none⟩=some (.bool nt)
  c3:wr.cell? ⟨g3,3,none⟩=some v
  k1:wr.frozen? ⟨g3,1,none⟩=false
  k2:wr.frozen? ⟨g3,2,none⟩=false
  k3:wr.frozen? ⟨g3,3,none⟩=false
  y0:wr.cell? ⟨g2,0,none⟩=some (.int .u8 0)
  y1:wr.cell? ⟨g2,1,none⟩=some (.int .i64 0)
  y2:wr.cell? ⟨g2,2,none⟩=some (.bool false)
  y3:wr.cell? ⟨g2,3,none⟩=some (.slice none 0 0)
  z0:wr.frozen? ⟨g2,0,none⟩=false
  z1:wr.frozen? ⟨g2,1,none⟩=false
  z2:wr.frozen? ⟨g2,2,none⟩=false
  z3:wr.frozen? ⟨g2,3,none⟩=false
section
variable {W wr W2:World}{g:Nat}{s:ByteArray}{a a':Nat}{b b':Bool}{g2 g3:Nat}{c m:Int}{nt:Bool}{v:Value}{l:List Rg}
theorem RdTo.rdr (h:RdTo W g s a b wr):Rdr wr g s a b:=h.1
theorem Rdr.alloc (h:Rdr W g s a b)(o:Obj):Rdr (W.alloc o) g s a b:=by
 have:=(Below.refl W.heap.size W).alloc (Nat.le_refl _) o
 exact (this.block g (blk_lt h)).trans h
theorem RelSt.cells (h:RelSt W g s a b g2 g3 c m nt v l wr):RelC wr g s a b g2 g3 c m nt v:=
  ⟨h.rd.1.c,(blk_cell h.x3 0).trans rfl,(blk_cell h.x3 1).trans rfl,(blk_cell h.x3 2).trans rfl,(blk_cell h.x3 3).trans rfl,blk_frozen h.x3 1,blk_frozen h.x3 2,blk_frozen h.x3 3,(blk_cell h.z2 0).trans rfl,(blk_cell h.z2 1).trans rfl,(blk_cell h.z2 2).trans rfl,(blk_cell h.z2 3).trans rfl,blk_frozen h.z2 0,blk_frozen h.z2 1,blk_frozen h.z2 2,blk_frozen h.z2 3⟩
theorem RelSt.call (h:RelSt W g s a b g2 g3 c m nt v l wr)(k:RdTo wr g s a' b' W2):RelSt W g s a' b' g2 g3 c m nt v l W2 where
  rd:=h.rd.then k
  z2:=blk_grown h.z2 k.2 (fun e=>by have:=h.h2;have:=h.hg;cases e;omega)
  x3:=blk_grown h.x3 k.2 (fun e=>by have:=h.h2;have:=h.h3;have:=h.hg;cases e;omega)
  row:=Kd.R_grown h.row k.2 (fun q hq e=>hq.1 (zE e))
  h2:=h.h2
  h3:=h.h3
  hg:=h.hg
theorem grown_set {W W':World}{g g3 i:Nat}{v:Value}(h:W.grownBy W' (some g))(hg3:W.heap.size≤g3):W.grownBy (W'.setCell ⟨g3,i,none⟩ v) (some g):=
  ⟨h.os,h.tape,h.output,by simpa using h.size,fun k hk hr=>(Below.heap_setCell W' ⟨g3,i,none⟩ v k (by show k≠g3;omega)).trans (h.block k hk hr)⟩
theorem RdTo.other (h:RdTo W g s a b wr){g3 i:Nat}{u:Value}(hg3:W.heap.size≤g3)(hg:g<W.heap.size):RdTo W g s a b (wr.setCell ⟨g3,i,none⟩ u):=
  ⟨(Below.heap_setCell wr ⟨g3,i,none⟩ u g (by show g≠g3;omega)).trans h.1,grown_set h.2 hg3⟩
theorem RelSt.set1 (h:RelSt W g s a b g2 g3 c m nt v l wr)(m':Int):RelSt W g s a b g2 g3 c m' nt v l (wr.setCell ⟨g3,1,none⟩ (.int .i64 m')) where
  rd:=h.rd.other (by have:=h.h2;have:=h.h3;omega) h.hg
  z2:=blk_far h.z2 (p:=⟨g3,1,none⟩) (by have:=h.h3;show g2≠g3;omega) _
  x3:=blk_put (cs:=#[.int .u8 c,.int .i64 m,.bool nt,v]) h.x3 1 _ rfl
  row:=Kd.R_far h.row (p:=⟨g3,1,none⟩) (fun q hq=>hq.2.2) _
  h2:=h.h2
  h3:=h.h3
  hg:=h.hg
theorem RelSt.set2 (h:RelSt W g s a b g2 g3 c m nt v l wr)(n':Bool):RelSt W g s a b g2 g3 c m n' v l (wr.setCell ⟨g3,2,none⟩ (.bool n')) where
  rd:=h.rd.other (by have:=h.h2;have:=h.h3;omega) h.hg
  z2:=blk_far h.z2 (p:=⟨g3,2,none⟩) (by have:=h.h3;show g2≠g3;omega) _
  x3:=blk_put (cs:=#[.int .u8 c,.int .i64 m,.bool nt,v]) h.x3 2 _ rfl
  row:=Kd.R_far h.row (p:=⟨g3,2,none⟩) (fun q hq=>hq.2.2) _
  h2:=h.h2
  h3:=h.h3
  hg:=h.hg
theorem RelSt.row_lt (h:RelSt W g s a b g2 g3 c m nt v l wr):∀ k,v.ownBlock=some k→k≠g∧k≠g2∧k≠g3:=fun k hk=>h.row.1 k hk
theorem RelSt.set3 {v':Value}{l':List Rg}(h:RelSt W g s a b g2 g3 c m nt v l wr)(hr:Kd.R k57 57 W2 W.heap.size (fun k=>k≠g∧k≠g2∧k≠g3) v' l')(hgr:wr.grownBy W2 v.ownBlock) :
    RelSt W g s a b g2 g3 c m nt v' l' (W2.setCell ⟨g3,3,none⟩ v'):=by
 have hne:=h.row_lt
 have k1:∀ {q:Nat} {o:Obj},wr.heap[q]?=some o→(q=g∨q=g2∨q=g3)→W2.heap[q]?=some o:=fun {q o} hq hh=>blk_grown hq hgr (fun e=>by
  have:=hne q e.symm
  rcases hh with rfl|rfl|rfl
  · exact this.1 rfl
  · exact this.2.1 rfl
  exact this.2.2 rfl)
 have hg2:W.grownBy W2 (some g):=⟨hgr.os.trans h.rd.2.os,hgr.tape.trans h.rd.2.tape,hgr.output.trans h.rd.2.output,Nat.le_trans h.rd.2.size hgr.size,fun k hk hr'=>by
  have hlt:k<wr.heap.size:=Nat.lt_of_lt_of_le hk h.rd.2.size
  rw [hgr.block k hlt (fun e=>?_)]
  · exact h.rd.2.block k hk hr'
  have:=(Kd.R_bound h.row).1 k e.symm
  omega⟩
 exact { rd := RdTo.other ⟨k1 h.rd.1 (.inl rfl), hg2⟩ (by have := h.h2; have := h.h3; omega) h.hg
         z2:=blk_far (k1 h.z2 (.inr (.inl rfl))) (p:=⟨g3,3,none⟩) (by have:=h.h3;show g2≠g3;omega) _
         x3:=blk_put (cs:=#[.int .u8 c,.int .i64 m,.bool nt,v]) (k1 h.x3 (.inr (.inr rfl))) 3 _ rfl
         row:=Kd.R_far hr (p:=⟨g3,3,none⟩) (fun q hq=>hq.2.2) _
         h2:=h.h2
         h3:=h.h3
         hg:=h.hg }
theorem RelSt.start {o:Int}(h:RdTo (W.alloc (.cells #[.int .u8 0,.int .i64 0,.bool false,.slice none 0 0] 60)) g s a b wr)(hg:g<W.heap.size) :
    RelSt W g s a b W.heap.size wr.heap.size o 0 false (.slice none 0 0) [] (wr.alloc (.cells #[.int .u8 o,.int .i64 0,.bool false,.slice none 0 0] 60)):=by
 have hs1:=h.2.size
 have e1:(W.alloc (.cells #[.int .u8 0,.int .i64 0,.bool false,.slice none 0 0] 60)).heap.size=W.heap.size+1:=by simp
 rw [e1] at hs1
 have hW:RdTo W g s a b wr:=⟨h.1,(World.grownBy_alloc W _ (some g)).trans h.2⟩
 have z:wr.heap[W.heap.size]?=some (.cells #[.int .u8 0,.int .i64 0,.bool false,.slice none 0 0] 60 (0,0)):=blk_grown (heap_alloc_new W _) h.2 (fun e=>by cases e;omega)
 exact { rd := ⟨h.1.alloc _, Lib.grownBy_allocR hW.2 _⟩
         z2:=blk_grown z (World.grownBy_alloc wr _ none) (by simp)
         x3:=heap_alloc_new wr _
         row:=Kd.R_nil _ _ _ _ _
         h2:=Nat.le_refl _
         h3:=by omega
         hg:=hg }
theorem RelSt.done (h:RelSt W g s a b g2 g3 c m nt v l wr) :
    RdTo W g s a b ((((wr.setCell ⟨g2,0,none⟩ (.int .u8 c)).setCell ⟨g2,1,none⟩ (.int .i64 m)).setCell ⟨g2,2,none⟩ (.bool nt)).setCell ⟨g2,3,none⟩ v) ∧
    ((((wr.setCell ⟨g2,0,none⟩ (.int .u8 c)).setCell ⟨g2,1,none⟩ (.int .i64 m)).setCell ⟨g2,2,none⟩ (.bool nt)).setCell ⟨g2,3,none⟩ v).heap[g2]?=some (.cells #[.int .u8 c,.int .i64 m,.bool nt,v] 60 (0,0)) ∧
    Kd.R k57 57 ((((wr.setCell ⟨g2,0,none⟩ (.int .u8 c)).setCell ⟨g2,1,none⟩ (.int .i64 m)).setCell ⟨g2,2,none⟩ (.bool nt)).setCell ⟨g2,3,none⟩ v) W.heap.size (fun k=>k≠g) v l:=by
 have h2:=h.h2
 refine ⟨(((h.rd.other h2 h.hg).other h2 h.hg).other h2 h.hg).other h2 h.hg,?_,?_⟩
 · exact blk_put (cs:=#[.int .u8 c,.int .i64 m,.bool nt,.slice none 0 0]) (blk_put (cs:=#[.int .u8 c,.int .i64 m,.bool false,.slice none 0 0]) (blk_put (cs:=#[.int .u8 c,.int .i64 0,.bool false,.slice none 0 0]) (blk_put (cs:=#[.int .u8 0,.int .i64 0,.bool false,.slice none 0 0]) h.z2 0 _ rfl) 1 _ rfl) 2 _ rfl) 3 _ rfl
 exact Kd.R_mono (Kd.R_far (Kd.R_far (Kd.R_far (Kd.R_far h.row (p:=⟨g2,0,none⟩) (fun q hq=>hq.2.1) _) (p:=⟨g2,1,none⟩) (fun q hq=>hq.2.1) _) (p:=⟨g2,2,none⟩) (fun q hq=>hq.2.1) _) (p:=⟨g2,3,none⟩) (fun q hq=>hq.2.1) _) (fun k hk=>hk.1)
end
def RelOut (W:World)(g:Nat)(s:ByteArray)(a:Nat)(e:Ending)(W':World):Prop:=
  match relP ((bytesOf s).drop a) with
  | (none,n)=>(∃ c m nt A k cc,e = .returned (.agg #[.int .u8 c,.int .i64 m,.bool nt,.slice A k cc]))∧RdTo W g s (a+n) false W'
  | (some x,n)=>∃ v,e = .returned (.agg #[.int .u8 x.f0,.int .i64 x.f1,.bool x.f2,v])∧Kd.R k57 57 W' W.heap.size (fun k=>k≠g) v x.f3∧RdTo W g s (a+n+bl ((bytesOf s).drop (a+n))) true W'
end
abbrev Ru:=S65
deriving instance DecidableEq for S65
theorem ruled_at {w:World}{A:Option Addr}{n:Nat}{xs:List Ru}(h:Kd.C k65 w A n xs)(i:Nat)(hi:i<n) :
    ∃ ad A1 c1,A=some ad∧w.cell? (ad.add (i * 2))=some (.int .i64 (xs.getD i ⟨0,[]⟩).f0)∧w.cell? ⟨(ad.add (i * 2)).block,(ad.add (i * 2)).off+1,none⟩=some (.slice A1 (xs.getD i ⟨0,[]⟩).f1.length c1) ∧
      (xs.getD i ⟨0,[]⟩).f1.length≤c1∧Kd.C (Kd.slice 60 k60) w A1 (xs.getD i ⟨0,[]⟩).f1.length (xs.getD i ⟨0,[]⟩).f1:=by
 have:=at_T65 h (i:Int) (by omega) (by omega)
 simpa [rd_T65,z65] using this
set_option maxHeartbeats 4000000 in
set_option maxRecDepth 100000 in
theorem same_ruled (a b:Ru)(A0:Option Addr)(c0:Nat)(A1:Option Addr)(c1:Nat)(w:World)
    (h0:Kd.C (Kd.slice 60 k60) w A0 a.f1.length a.f1) (hc0:a.f1.length≤c0) (h1:Kd.C (Kd.slice 60 k60) w A1 b.f1.length b.f1) (hc1:b.f1.length≤c1) :
    Calls Tryz.prog 47 #[.agg #[.int .i64 a.f0,.slice A0 a.f1.length c0],.agg #[.int .i64 b.f0,.slice A1 b.f1.length c1]] w fun e w'=>e = .returned (.bool (decide (a=b)))∧Below w.heap.size w w':=by
 obtain ⟨a0,a1⟩:=a
 obtain ⟨b0,b1⟩:=b
 simp only at h0 h1 hc0 hc1 ⊢
 have HE:=zA (fun W (hb:Below w.heap.size w W)=>rule_Same.calls A0 c0 a1 A1 c1 b1 _ W (Kd.C_below h0 hb) hc0 (Kd.C_below h1 hb) hc1 rfl)
 clear h0 h1 hc0 hc1
 cases q0:(a0 == b0) with
 | false=>
  go_enter Tryz.func47,Tryz.ntmps47
  go_wp2
  go_ret
  refine ⟨?_,?_⟩
  ·rw [zD (by intro e;simp only [S65.mk.injEq] at e;simp [e.1] at q0)]
   rfl
  repeat (first|exact Below.refl _ _|apply below_alloc)
 | true=>
  go_enter Tryz.func47,Tryz.ntmps47
  go_wp2_with (go_at_call 33;(refine (HE.out _ (below_alloc (below_alloc (Below.refl _ _) _) _)).mono ?_);rintro e w5 ⟨rfl,hb5⟩;have hB:=below_step (below_alloc (below_alloc (Below.refl _ _) _) _) hb5;clear hb5)
  go_ret
  refine ⟨?_,hB⟩
  have e0:=eq_of_beq q0
  subst e0
  simp only [S65.mk.injEq,true_and]
  rfl
set_option maxHeartbeats 4000000 in
set_option maxRecDepth 100000 in
theorem eq_ruleds (A0:Option Addr)(c0:Nat)(l0:List Ru)(A1:Option Addr)(c1:Nat)(l1:List Ru)(w:World)
    (h0:Kd.C k65 w A0 l0.length l0) (hc0:l0.length≤c0) (h1:Kd.C k65 w A1 l1.length l1) (hc1:l1.length≤c1) :
    Calls Tryz.prog 46 #[.slice A0 l0.length c0,.slice A1 l1.length c1,.func (.func 47) #[] #[]] w fun e w'=>e = .returned (.bool (decide (l0=l1)))∧Below w.heap.size w w':=by
 have L0:=zA (fun W (hb:Below w.heap.size w W)=>Kd.C_below h0 hb)
 have L1:=zA (fun W (hb:Below w.heap.size w W)=>Kd.C_below h1 hb)
 have hn:=h0.2.1
 clear h0 h1
 have ef:=enters_of Tryz.func47 (by kernel_rfl) rfl
 by_cases hl:l0.length=l1.length
 rotate_left
 ·have g2:((l0.length:Int) != (l1.length:Int))=true:=by simp;omega
  have g3:((l0.length:Int) == (l1.length:Int))=false:=by simp;omega
  have HN:=zA (show l0≠l1 from fun e=>hl (by rw [e]))
  clear hl
  go_enter Tryz.func46,Tryz.ntmps46
  go_wp2
  go_ret
  exact ⟨by rw [zD HN.out];rfl,Below.refl _ _⟩
 have g1:decide ((l0.length:Int)=(l1.length:Int))=true:=zC (by omega)
 have g2:((l0.length:Int) != (l1.length:Int))=false:=by rw [hl];simp
 have g3:((l0.length:Int) == (l1.length:Int))=true:=by rw [hl];simp
 have HL:=zA hl
 clear hl
 go_enter Tryz.func46,Tryz.ntmps46
 go_wp2
 go_loopg [7,8,9,17] l0.length (fun gg _ _ _ s17 wr=>∃ k:Nat,k≤l0.length∧l0.length - k≤gg∧s17 = .int .i64 k∧Aside0 (Below w.heap.size w wr)∧Aside0 (l0.take k=l1.take k))
 case atStart=>exact ⟨0,by omega,by omega,rfl,⟨Below.refl _ _⟩,⟨rfl⟩⟩
 case round=>
  obtain ⟨k,hk,hg,rfl,HB,HT⟩:=hrel
  by_cases hlt:k<l0.length
  rotate_left
  ·have j1:decide ((k:Int)<(l0.length:Int))=false:=zD (by omega)
   go_wp2
   go_ret
   refine ⟨?_,HB.out⟩
   rw [zC (same_end HL.out (by omega) HT.out)]
   rfl
  have j1:decide ((k:Int)<(l0.length:Int))=true:=zC (by omega)
  obtain ⟨ad,A3,c3,rfl,x0,x1,hx3,HX⟩:=ruled_at (L0.out wr HB.out) k hlt
  obtain ⟨ae,B3,d3,rfl,y0,y1,hy3,HY⟩:=ruled_at (L1.out wr HB.out) k (by rw [← HL.out];exact hlt)
  generalize hX:l0.getD k ⟨0,[]⟩=X at *
  generalize hY:l1.getD k ⟨0,[]⟩=Y at *
  have p0:(0≤(k:Int))=True:=eq_true (by omega)
  have m2:decide (k<l0.length)=true:=zC hlt
  have m3:((k:Int)<(l0.length:Int))=True:=eq_true (by omega)
  have m4:(k<l0.length)=True:=eq_true hlt
  have hlt1:k<l1.length:=by rw [← HL.out];exact hlt
  have n1:decide ((k:Int)<(l1.length:Int))=true:=zC (by omega)
  have n2:decide (k<l1.length)=true:=zC hlt1
  have n3:((k:Int)<(l1.length:Int))=True:=eq_true (by omega)
  have n4:(k<l1.length)=True:=eq_true hlt1
  have HF:=zA (fun W (hb:Below wr.heap.size wr W)=>same_ruled X Y A3 c3 B3 d3 W (Kd.C_below HX hb) hx3 (Kd.C_below HY hb) hy3)
  clear HX HY hx3 hy3
  have z0:=fun o=>((below_alloc (Below.refl wr.heap.size wr) o).cell (World.block_lt_of_cell? wr _ y0)).trans y0
  have z1:=fun o=>((below_alloc (Below.refl wr.heap.size wr) o).cell (World.block_lt_of_cell? wr _ y1)).trans y1
  cases hq:decide (X=Y) with
  | false=>
   rw [hq] at HF
   go_wp2_with (go_at_call 47;(refine (HF.out _ (below_alloc (below_alloc (Below.refl _ _) _) _)).mono ?_);rintro e w5 ⟨rfl,hb5⟩;have hB:=below_step (below_alloc (below_alloc HB.out _) _) hb5;clear hb5)
   go_ret
   refine ⟨?_,hB⟩
   have hne:l0≠l1:=same_not (⟨0,[]⟩:Ru) (k:=k) (by rw [hX,hY];exact of_decide_eq_false hq)
   rw [zD hne]
   rfl
  | true=>
   rw [hq] at HF
   go_wp2_with (go_at_call 47;(refine (HF.out _ (below_alloc (below_alloc (Below.refl _ _) _) _)).mono ?_);rintro e w5 ⟨rfl,hb5⟩;have hB:=below_step (below_alloc (below_alloc HB.out _) _) hb5;clear hb5)
   go_roundg (l0.length - (k+1))
   case measure=>omega
   case rel=>exact ⟨k+1,by omega,by omega,by go_num,⟨hB⟩,⟨same_more (⟨0,[]⟩:Ru) HL.out hlt HT.out (by rw [hX,hY];exact zB hq)⟩⟩
def plur_Same.f (l0 l1:List Ru):Option Bool:=some (decide (l0=l1))
set_option maxHeartbeats 2000000 in
set_option maxRecDepth 100000 in
theorem plur_Same.calls (A0:Option Addr)(c0:Nat)(l0:List Ru)(A1:Option Addr)(c1:Nat)(l1:List Ru)(r:Bool)(w:World)
    (hr0:Kd.C k65 w A0 l0.length l0) (hc0:l0.length≤c0) (hr1:Kd.C k65 w A1 l1.length l1) (hc1:l1.length≤c1) (h:plur_Same.f l0 l1=some r) :
    Calls Tryz.prog 23 #[.slice A0 l0.length c0,.slice A1 l1.length c1] w fun e w'=>e = .returned (.bool r)∧Below w.heap.size w w':=by
 obtain rfl:=zE h
 have HE:=eq_ruleds A0 c0 l0 A1 c1 l1 w hr0 hc0 hr1 hc1
 clear hr0 hr1 hc0 hc1 h
 go_enter Tryz.func23,Tryz.ntmps23
 go_wp2_with (go_at_call 46;refine HE.mono ?_;rintro e w5 ⟨rfl,hb5⟩)
 go_ret
 exact ⟨rfl,hb5⟩
section
theorem run_store_fn2 (P:Program)(w:World)(a:Addr)(f:Fn)(b c:Array Value)(m:Mode):(store a (.func f b c) m).run P w=stored P w a (.func f b c) m:=run_store P w a _ m rfl
attribute [local go_sem] run_store_fn2
set_option maxHeartbeats 4000000 in
set_option maxRecDepth 100000 in
theorem in_at (x:Rl)(A3:Option Addr)(c3:Nat)(A0:Option Addr)(n0 c0:Nat)(A1:Option Addr)(n1 c1:Nat)(a2 a3:Int)(l:List Int)(wh:Bool)(n:Int)(W:World)
    (hO:∀ w,Below W.heap.size W w→Calls Tryz.prog 80 #[.agg #[.slice A0 n0 c0,.slice A1 n1 c1,.int .i64 a2,.int .i64 a3],.int .u8 x.f0] w fun e w'=>∃ A c,e = .returned (.tuple #[.slice A l.length c,.bool wh])∧Kd.C (Kd.int .u8) w' A l.length l∧l.length≤c∧Below w.heap.size w w')
    (hM:wh=true→x.f1>0→∀ w A c,Below W.heap.size W w→Kd.C (Kd.int .u8) w A l.length l→l.length≤c→Calls Tryz.prog 81 #[.slice A l.length c,.int .i64 x.f1] w fun e w'=>e = .returned (.int .i64 n)∧Below w.heap.size w w') :
    Calls Tryz.prog 61 #[.agg #[.int .u8 x.f0,.int .i64 x.f1,.bool x.f2,.slice A3 x.f3.length c3],.agg #[.slice A0 n0 c0,.slice A1 n1 c1,.int .i64 a2,.int .i64 a3]] W fun e w'=>
      Below W.heap.size W w'∧((wh=true∧x.f1>0∧∃ gn,e = .returned (.func (.func 82) #[] #[.pointer (some ⟨gn,0,none⟩)])∧w'.cell? ⟨gn,0,none⟩=some (.int .i64 n)) ∨
        (¬ (wh=true∧x.f1>0)∧∃ gw gl A c,e = .returned (.func (.func 83) #[] #[.pointer (some ⟨gw,0,none⟩),.pointer (some ⟨gl,0,none⟩)])∧w'.cell? ⟨gw,0,none⟩=some (.bool wh)∧w'.cell? ⟨gl,0,none⟩=some (.slice A l.length c)∧Kd.C (Kd.int .u8) w' A l.length l∧l.length≤c)):=by
 obtain ⟨b0,b1,b2,b3⟩:=x
 simp only at hO hM ⊢
 have HO:=zA hO
 have HM:=zA hM
 clear hO hM
 have HX:Aside0 (∀ w',Below ((W.alloc (.cells #[.int .u8 b0,.int .i64 b1,.bool b2,.slice A3 b3.length c3] 60)).alloc (.cells #[.slice A0 n0 c0,.slice A1 n1 c1,.int .i64 a2,.int .i64 a3] 36)).heap.size ((W.alloc (.cells #[.int .u8 b0,.int .i64 b1,.bool b2,.slice A3 b3.length c3] 60)).alloc (.cells #[.slice A0 n0 c0,.slice A1 n1 c1,.int .i64 a2,.int .i64 a3] 36)) w'→w'.cell? ⟨W.heap.size,1,none⟩=some (.int .i64 b1)):=by
  refine ⟨fun w' hb=>?_⟩
  have h1:=(blk_cell (heap_alloc_new W (.cells #[.int .u8 b0,.int .i64 b1,.bool b2,.slice A3 b3.length c3] 60)) 1).trans (rfl:_=some (Value.int .i64 b1))
  have h2:=((below_alloc (Below.refl (W.alloc (.cells #[.int .u8 b0,.int .i64 b1,.bool b2,.slice A3 b3.length c3] 60)).heap.size (W.alloc (.cells #[.int .u8 b0,.int .i64 b1,.bool b2,.slice A3 b3.length c3] 60))) (.cells #[.slice A0 n0 c0,.slice A1 n1 c1,.int .i64 a2,.int .i64 a3] 36)).cell (World.block_lt_of_cell? _ _ h1)).trans h1
  exact (hb.cell (World.block_lt_of_cell? _ _ h2)).trans h2
 cases wh with
 | false=>
  go_enter Tryz.func61,Tryz.ntmps61
  go_wp2_with (go_at_call 80;refine (HO.out _ (below_alloc (below_alloc (Below.refl _ _) _) _)).mono ?_;rintro e w5 ⟨A,c,rfl,hC,hc,hb5⟩;have HB:=zA (below_step (below_alloc (below_alloc (Below.refl _ _) _) _) hb5);have HC:=zA hC;have K1:=fun o o2=>HX.out _ (below_alloc (below_alloc hb5 o) o2);clear hb5 hC)
  go_ret
  refine ⟨below_alloc (below_alloc HB.out _) _,.inr ⟨(by simp),w5.heap.size+1,w5.heap.size,A,c,rfl,?_,?_,Kd.C_alloc (Kd.C_alloc HC.out _) _,hc⟩⟩
  ·have:=(blk_cell (heap_alloc_new (w5.alloc (.cells #[.slice A l.length c] 34)) (.cells #[.bool false] 4)) 0).trans rfl
   simpa using this
  exact (blk_cell (((Below.refl (w5.alloc (.cells #[.slice A l.length c] 34)).heap.size (w5.alloc (.cells #[.slice A l.length c] 34))).alloc (Nat.le_refl _) (.cells #[.bool false] 4)).block w5.heap.size (by simp) |>.trans (heap_alloc_new w5 (.cells #[.slice A l.length c] 34))) 0).trans rfl
 | true=>
  by_cases hpos:b1>0
  ·have j1:decide (b1>0)=true:=zC hpos
   replace HM:=zA (HM.out rfl hpos)
   replace hpos:=zA hpos
   go_enter Tryz.func61,Tryz.ntmps61
   go_wp2_with (first|(go_at_call 80;refine (HO.out _ (below_alloc (below_alloc (Below.refl _ _) _) _)).mono ?_;rintro e w5 ⟨A,c,rfl,hC,hc,hb5⟩;have HB:=zA (below_step (below_alloc (below_alloc (Below.refl _ _) _) _) hb5);have HC:=zA hC;have K1:=fun o o2=>HX.out _ (below_alloc (below_alloc hb5 o) o2);clear hb5 hC)|(go_at_call 81;refine (HM.out _ A c (below_alloc (below_alloc HB.out _) _) (Kd.C_alloc (Kd.C_alloc HC.out _) _) hc).mono ?_;rintro e w6 ⟨rfl,hb6⟩;have HB6:=zA (below_step (below_alloc (below_alloc HB.out _) _) hb6);clear hb6))
   go_ret
   exact ⟨below_alloc HB6.out _,.inl ⟨by simp,by have:=hpos.out;omega,w6.heap.size,rfl,(blk_cell (heap_alloc_new w6 _) 0).trans rfl⟩⟩
  have j1:decide (b1>0)=false:=zD hpos
  clear HM
  replace hpos:=zA hpos
  go_enter Tryz.func61,Tryz.ntmps61
  go_wp2_with (go_at_call 80;refine (HO.out _ (below_alloc (below_alloc (Below.refl _ _) _) _)).mono ?_;rintro e w5 ⟨A,c,rfl,hC,hc,hb5⟩;have HB:=zA (below_step (below_alloc (below_alloc (Below.refl _ _) _) _) hb5);have HC:=zA hC;have K1:=fun o o2=>HX.out _ (below_alloc (below_alloc hb5 o) o2);clear hb5 hC)
  go_ret
  refine ⟨below_alloc (below_alloc HB.out _) _,.inr ⟨(by have:=hpos.out;simp;omega),w5.heap.size+1,w5.heap.size,A,c,rfl,?_,?_,Kd.C_alloc (Kd.C_alloc HC.out _) _,hc⟩⟩
  ·have:=(blk_cell (heap_alloc_new (w5.alloc (.cells #[.slice A l.length c] 34)) (.cells #[.bool true] 4)) 0).trans rfl
   simpa using this
  exact (blk_cell (((Below.refl (w5.alloc (.cells #[.slice A l.length c] 34)).heap.size (w5.alloc (.cells #[.slice A l.length c] 34))).alloc (Nat.le_refl _) (.cells #[.bool true] 4)).block w5.heap.size (by simp) |>.trans (heap_alloc_new w5 (.cells #[.slice A l.length c] 34))) 0).trans rfl
end
end Go.Proofs.YtgfajgkjbckkgaaGreatDoor.PZ
end
