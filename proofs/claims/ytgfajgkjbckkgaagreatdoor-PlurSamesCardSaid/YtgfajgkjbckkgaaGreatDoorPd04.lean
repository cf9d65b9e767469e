/- Texts of this seat, joined. Conditions: none beyond each statement's own. -/
import Derived.Test.YtgfajgkjbckkgaaGreatDoorPd03
import Derived.Lib.ItoaNum
import Derived.Lib.ItoaLen
import Derived.Lib.AppendIntMem
import Derived.DataReads
import Derived.MapKept
import Derived.Lib.Bytealg
import Derived.Lib.BytesEntry
set_option linter.all false
section
set_option maxRecDepth 100000
namespace Go.Proofs.YtgfajgkjbckkgaaGreatDoor.PZ
open Go.RowKit Go.Proofs.YtgfajgkjbckkgaaGreatDoorW.PrintWords Go.Proofs.YtgfajgkjbckkgaaGreatDoorW.PrintLast
def digsN (u:Nat):List Int:=if h:u<10 then [(u:Int)] else digsN (u / 10) ++ [((u % 10:Nat):Int)]
termination_by u
decreasing_by omega
theorem digsN_small {u:Nat}(h:u<10):digsN u=[(u:Int)]:=by rw [digsN,dif_pos h]
theorem digsN_big {u:Nat}(h:¬ u<10):digsN u=digsN (u / 10) ++ [((u % 10:Nat):Int)]:=by rw [digsN,dif_neg h]
theorem digsN_figs (u:Nat):Figs (digsN u):=by
 induction u using Nat.strongRecOn with
 | _ u ih=>
  by_cases h:u<10
  ·rw [digsN_small h]
   exact Figs.cons (by omega) (by omega) Figs.nil
  rw [digsN_big h]
  exact (ih (u / 10) (by omega)).append (Figs.cons (by omega) (by omega) Figs.nil)
theorem digsN_num (u:Nat):num (digsN u)=u:=by
 induction u using Nat.strongRecOn with
 | _ u ih=>
  by_cases h:u<10
  · rw [digsN_small h,num_one]
  rw [digsN_big h,num_snoc,ih (u / 10) (by omega)]
  omega
theorem digsN_pos (u:Nat):0<(digsN u).length:=by
 by_cases h:u<10
 · rw [digsN_small h];simp
 rw [digsN_big h];simp
theorem digsN_first (u:Nat)(hu:0<u):0<rd (digsN u) 0:=by
 induction u using Nat.strongRecOn with
 | _ u ih=>
  by_cases h:u<10
  ·rw [digsN_small h]
   simpa [rd] using hu
  rw [digsN_big h]
  have:=rd_append_left (digsN (u / 10)) [((u % 10:Nat):Int)] 0 (digsN_pos _)
  rw [Int.natCast_zero] at this
  rw [this]
  exact ih (u / 10) (by omega) (by omega)
theorem digsN_length (k:Nat):∀ u:Nat,u<10 ^ (k+1)→(digsN u).length≤k+1:=by
 induction k with
 | zero=>intro u h;rw [digsN_small (by simpa using h)];simp
 | succ k ih=>
  intro u h
  by_cases h1:u<10
  · rw [digsN_small h1];simp
  rw [digsN_big h1,List.length_append]
  have:=ih (u / 10) (by rw [Nat.pow_succ] at h;omega)
  simpa using this
def chr (d:Int):Int:=48+d
def pw (e:Int):List Int:=if e<0 then 45 :: (digsN e.natAbs).map chr else (digsN e.toNat).map chr
theorem bytes_list (l:List UInt8):bytesOf ⟨l.toArray⟩=l.map fun b=>(b.toNat:Int):=by unfold bytesOf;rfl
theorem decDigits_map (u:Nat):((Lib.decDigits u).map fun b=>(b.toNat:Int))=(digsN u).map chr:=by
 induction u using Nat.strongRecOn with
 | _ u ih=>
  by_cases h:u<10
  ·rw [digsN_small h,Lib.decDigits,dif_pos h]
   simp only [List.map_cons,List.map_nil,chr]
   congr 1
   simp [UInt8.toNat_ofNat']
   omega
  rw [digsN_big h,Lib.decDigits,dif_neg h,List.map_append,List.map_append,ih (u / 10) (by omega)]
  congr 1
  simp only [List.map_cons,List.map_nil,chr]
  congr 1
  simp [UInt8.toNat_ofNat']
  omega
theorem itoa_map (e:Int):((Lib.itoa e).map fun b=>(b.toNat:Int))=pw e:=by
 unfold Lib.itoa pw
 split
 · rw [List.map_cons,decDigits_map];rfl
 rw [decDigits_map]
end Go.Proofs.YtgfajgkjbckkgaaGreatDoor.PZ
end
section
set_option maxRecDepth 100000
namespace Go.Proofs.YtgfajgkjbckkgaaGreatDoor.PZ
open Go.RowKit Go.Proofs.YtgfajgkjbckkgaaGreatDoorW.PrintWords Go.Proofs.YtgfajgkjbckkgaaGreatDoorW.PrintLast Go.Proofs.YtgfajgkjbckkgaaGreatDoorW.PrintMore
section
class Sd (p:Prop):Prop where mk :: (out:p)
theorem zS {p:Prop}(h:p):Sd p:=⟨h⟩
section
variable {w W W' W0:World}{g g' j B:Nat}{o o':Obj}{t:TypeId}{cs:Array Value}{u:Value}
instance sd1 [h:Sd (Below w.heap.size w W)]:Sd (Below w.heap.size w (W.alloc o)):=⟨below_alloc h.out o⟩
instance sd2 {n:Nat} [h:Sd (Below B w W)]:Sd (Below B w (W.drewN n)):=⟨pw_below_drewN h.out n⟩
instance sd3 [h:Sd (Below B w W)]:Sd (Below B w W.drew):=⟨below_drew1 h.out⟩
instance sd4 [h:Sd (Below w.heap.size w W)] [k:Sd (w.heap.size≤g)]:Sd (Below w.heap.size w (W.setCell ⟨g,j,none⟩ u)):=⟨below_set h.out k.out⟩
instance sd5 [h:Sd (W.heap[g]?=some o)]:Sd ((W.alloc o').heap[g]?=some o):=⟨blk_alloc h.out o'⟩
instance sd6 {n:Nat} [h:Sd (W.heap[g]?=some o)]:Sd ((W.drewN n).heap[g]?=some o):=⟨blk_drewN h.out n⟩
instance sd7 [h:Sd (W.heap[g]?=some o)]:Sd (W.drew.heap[g]?=some o):=⟨blk_drew h.out⟩
instance sd8 [h:Sd (W.heap[g]?=some (.cells cs t (0,0)))] [k:Sd (g≠g')]:Sd ((W.setCell ⟨g',j,none⟩ u).heap[g]?=some (.cells cs t (0,0))):=⟨blk_far h.out k.out u⟩
class Pt (W0:World) (g:Nat) (c0:Array Value) (t:TypeId) (W:World) (cs:outParam (Array Value)):Prop where mk :: (out:W0.heap[g]?=some (.cells c0 t (0,0))→W.heap[g]?=some (.cells cs t (0,0)))
section
variable {c0:Array Value}
instance pt0:Pt W g c0 t W c0:=⟨id⟩
instance pt1 [h:Pt W0 g c0 t W cs]:Pt W0 g c0 t (W.alloc o) cs:=⟨fun q=>blk_alloc (h.out q) o⟩
instance pt2 {n:Nat} [h:Pt W0 g c0 t W cs]:Pt W0 g c0 t (W.drewN n) cs:=⟨fun q=>blk_drewN (h.out q) n⟩
instance pt3 [h:Pt W0 g c0 t W cs]:Pt W0 g c0 t W.drew cs:=⟨fun q=>blk_drew (h.out q)⟩
instance pt4 [h:Pt W0 g c0 t W cs] [k:Sd (g≠g')]:Pt W0 g c0 t (W.setCell ⟨g',j,none⟩ u) cs:=⟨fun q=>blk_far (h.out q) k.out u⟩
instance pt5 [h:Pt W0 g c0 t W cs]:Pt W0 g c0 t (W.setCell ⟨g,j,none⟩ u) (cs.setIfInBounds j u):=⟨fun q=>blk_put (h.out q) j u rfl⟩
theorem kp (b:Sd (W0.heap[g]?=some (.cells c0 t (0,0)))){cs':Array Value} [h:Pt W0 g c0 t W cs](e:cs=cs'):W.heap[g]?=some (.cells cs' t (0,0)):=e ▸ h.out b.out
end
theorem sA {α:Type}{l:List α}{i:Nat}{a:α}:l.toArray.setIfInBounds i a=(l.set i a).toArray:=List.setIfInBounds_toArray l i a
theorem sB {α:Type}{x:α}{l:List α}{y:α}:(x :: l).set 0 y=y :: l:=List.set_cons_zero
theorem sC {α:Type}{x:α}{l:List α}{n:Nat}{y:α}:(x :: l).set (n+1) y=x :: l.set n y:=List.set_cons_succ
theorem bQ (_:Sd (Below B w W0)) [h:Sd (Below B w W)]:Below B w W:=h.out
theorem bs (_:Sd (Below w.heap.size w W0))(hb:Below W.heap.size W W') [h:Sd (Below w.heap.size w W)]:Sd (Below w.heap.size w W'):=⟨below_step h.out hb⟩
theorem bz (_:Sd (Below B w W0)) [h:Sd (Below B w W)]:w.heap.size≤W.heap.size:=h.out.size
theorem bg (_:Sd (Below w.heap.size w W0))(hg:g=W.heap.size) [h:Sd (Below w.heap.size w W)]:Sd (w.heap.size≤g):=⟨hg ▸ h.out.size⟩
theorem ko (_:Sd (W0.heap[g]?=some o)) [h:Sd (W.heap[g]?=some o)]:W.heap[g]?=some o:=h.out
theorem kb (_:Sd (W0.heap[g]?=some o))(hb:Below W.heap.size W W') [h:Sd (W.heap[g]?=some o)]:Sd (W'.heap[g]?=some o):=⟨blk_below h.out hb⟩
theorem kn (_:Sd (W0.heap[g]?=some o))(hg:g'=W.heap.size) [h:Sd (W.heap[g]?=some o)]:Sd (g≠g'):=⟨hg ▸ Nat.ne_of_lt (blk_lt h.out)⟩
theorem km (_:Sd (W0.heap[g]?=some o))(hg:g'=W.heap.size) [h:Sd (W.heap[g]?=some o)]:Sd (g'≠g):=⟨hg ▸ Nat.ne_of_gt (blk_lt h.out)⟩
end
section
variable {α:Type}{K:Kd α}{e:TypeId}{W W0 W':World}{base g:Nat}{ok:Nat→Prop}{v:Value}{x:List α}{o:Obj}{A:Option Addr}{n:Nat}
instance sd10 [h:Sd (K.R e W base ok v x)]:Sd (K.R e (W.alloc o) base ok v x):=⟨Kd.R_alloc h.out o⟩
instance sd11 {n:Nat} [h:Sd (K.R e W base ok v x)]:Sd (K.R e (W.drewN n) base ok v x):=⟨Kd.R_drewN h.out n⟩
instance sd12 [h:Sd (K.R e W base ok v x)]:Sd (K.R e W.drew base ok v x):=⟨Kd.R_drew h.out⟩
instance sd13 [h:Sd (K.V e W base ok v x)]:Sd (K.V e (W.alloc o) base ok v x):=⟨Kd.V_alloc h.out o⟩
instance sd14 {n:Nat} [h:Sd (K.V e W base ok v x)]:Sd (K.V e (W.drewN n) base ok v x):=⟨Kd.V_drewN h.out n⟩
instance sd15 [h:Sd (K.V e W base ok v x)]:Sd (K.V e W.drew base ok v x):=⟨Kd.V_drew h.out⟩
theorem cb {w:World}(h:Sd (K.C w A n x))(_:Sd (Below w.heap.size w W0)) [k:Sd (Below w.heap.size w W)]:K.C W A n x:=Kd.C_below h.out k.out
theorem rc {m c:Nat}(h:Sd (K.R e W0 base ok (.slice A m c) x)) [k:Sd (K.R e W base ok (.slice A m c) x)]:K.C W A x.length x:=(Kd.R_reads' k.out).2.2
theorem rl {m c:Nat}(h:Sd (K.R e W0 base ok (.slice A m c) x)):m≤c:=(Kd.R_reads' h.out).2.1
theorem vc {m c:Nat}(h:Sd (K.V e W0 base ok (.slice A m c) x)) [k:Sd (K.V e W base ok (.slice A m c) x)]:K.C W A x.length x:=(Kd.V_reads' k.out).2.2
theorem vl {m c:Nat}(h:Sd (K.V e W0 base ok (.slice A m c) x)):m≤c:=(Kd.V_reads' h.out).2.1
theorem ro (_:Sd (K.R e W0 base ok v x)) [h:Sd (K.R e W base ok v x)]:K.R e W base ok v x:=h.out
theorem vo (_:Sd (K.V e W0 base ok v x)) [h:Sd (K.V e W base ok v x)]:K.V e W base ok v x:=h.out
theorem rb (_:Sd (K.R e W0 base ok v x))(hb:Below W.heap.size W W') [h:Sd (K.R e W base ok v x)]:Sd (K.R e W' base ok v x):=⟨Kd.R_below h.out hb⟩
theorem vb (_:Sd (K.V e W0 base ok v x))(hb:Below W.heap.size W W') [h:Sd (K.V e W base ok v x)]:Sd (K.V e W' base ok v x):=⟨Kd.V_below h.out hb⟩
end
theorem mA {α β:Type}{f:α→β}{l:List α}:Array.map f l.toArray=(List.map f l).toArray:=List.map_toArray
theorem mB {α β:Type}{f:α→β}{x:α}{l:List α}:List.map f (x :: l)=f x :: List.map f l:=List.map_cons
theorem mC {α β:Type}{f:α→β}:List.map f []=[]:=List.map_nil
theorem lD {α:Type}{n:Nat}{l:List α}:(l.drop n).length=l.length - n:=List.length_drop
theorem lT {α:Type}{n:Nat}{l:List α}:(l.take n).length=min n l.length:=List.length_take
section
variable {P:Program}{ops:Array Oper}{Q:Exit→Act→World→Prop}{md:Region.Mode}{S:World→Prop}{ds:List Nat}{T:Bool×List (List Nat×List Nat)}{B:List Nat}{oi:Oper}{v:Value}{fuel:Nat}{l:Array Bool}{a:Act}{w:World}
theorem pu (i n:Nat)(l':Array Bool)(hi:ops[i]?=some oi)(hN:oi.dst=some n)(hT:Aside0 (rtab md ops=T))(hk:anyT T l.toList l'.toList i=true){v:Value}(hQ:∀ c a w,Q (.panic c) (a.put oi.dst v) w→Q (.panic c) a w)(hw:Region.wanted oi (yielded ops a.tmps)=true)
    (hy:∀ w,(execOp a.eval oi).run P w = .ok (.value v) w) {a':Act} (ha:a.put (some n) v=a') (h:wpAnyLast P md ops Q S ds fuel l' a' w):wpAnyLast P md ops Q S ds (fuel+1) l a w:=pure_ (i:=i) l' hi hN (any_of hT.out hk) hQ (Or.inl ⟨hw,hy⟩) ha h
theorem ta (i n:Nat)(l':Array Bool)(hi:ops[i]?=some oi)(hN:oi.dst=some n)(hT:Aside0 (rtab md ops=T))(hB:Aside0 (waitsOk T.2 B=true))(hk:takeW T B ds l.toList l'.toList i=true){v:Value}(hQ:∀ c a w,Q (.panic c) (a.put oi.dst v) w→Q (.panic c) a w)(hw:Region.wanted oi (yielded ops a.tmps)=true)
    (hy:∀ w,S w→(execOp a.eval oi).run P w = .ok (.value v) w) (hS:S w) {a':Act} (ha:a.put (some n) v=a') (h:wpAnyLast P md ops Q S ds fuel l' a' w):wpAnyLast P md ops Q S ds (fuel+1) l a w:=take_ (i:=i) l' hi hN (take_ofW hT.out hB.out hk) hQ (Or.inl ⟨hw,hy⟩) hS ha h
end
theorem blkc2 {w:World}{g:Nat}{t:TypeId}{c0 c1:Value}(h:w.heap[g]?=some (.cells #[c0,c1] t (0,0))):w.cell? ⟨g,0,none⟩=some c0∧w.cell? ⟨g,1,none⟩=some c1:=⟨(blk_cell h 0).trans rfl,(blk_cell h 1).trans rfl⟩
theorem blkc4 {w:World}{g:Nat}{t:TypeId}{c0 c1 c2 c3:Value}(h:w.heap[g]?=some (.cells #[c0,c1,c2,c3] t (0,0))):w.cell? ⟨g,0,none⟩=some c0∧w.cell? ⟨g,1,none⟩=some c1∧w.cell? ⟨g,2,none⟩=some c2∧w.cell? ⟨g,3,none⟩=some c3:=⟨(blk_cell h 0).trans rfl,(blk_cell h 1).trans rfl,(blk_cell h 2).trans rfl,(blk_cell h 3).trans rfl⟩
theorem blkf2 {w:World}{g:Nat}{t:TypeId}{cs:Array Value}(h:w.heap[g]?=some (.cells cs t (0,0))):w.frozen? ⟨g,0,none⟩=false∧w.frozen? ⟨g,1,none⟩=false:=⟨blk_frozen h 0,blk_frozen h 1⟩
theorem blkf4 {w:World}{g:Nat}{t:TypeId}{cs:Array Value}(h:w.heap[g]?=some (.cells cs t (0,0))):w.frozen? ⟨g,0,none⟩=false∧w.frozen? ⟨g,1,none⟩=false∧w.frozen? ⟨g,2,none⟩=false∧w.frozen? ⟨g,3,none⟩=false:=⟨blk_frozen h 0,blk_frozen h 1,blk_frozen h 2,blk_frozen h 3⟩
end
end Go.Proofs.YtgfajgkjbckkgaaGreatDoor.PZ
end
section
set_option maxRecDepth 100000
namespace Go.Proofs.YtgfajgkjbckkgaaGreatDoor.PZ
open Go.RowKit Go.Proofs.YtgfajgkjbckkgaaGreatDoorW.PrintWords Go.Proofs.YtgfajgkjbckkgaaGreatDoorW.PrintLast
def strconv_Itoa.f (n:Int):Option ByteArray:=if -9223372036854775808≤n∧n≤9223372036854775807 then some ⟨(Lib.itoa n).toArray⟩ else none
theorem strconv_Itoa.calls (a0:Int)(r:ByteArray)(w:World)(hG:GL w)(h:strconv_Itoa.f a0=some r) :
    Calls Tryz.prog 75 #[.int .i64 a0] w fun e w'=>e = .returned (.string r)∧Below w.heap.size w w':=by
 unfold strconv_Itoa.f at h
 by_cases hb : -9223372036854775808≤a0∧a0≤9223372036854775807
 ·rw [if_pos hb] at h
  obtain rfl:=zE h
  refine (Tryz.strconv_Itoa a0 hb.1 hb.2 w hG.1).mono ?_
  rintro e w' ⟨rfl,k,os,rfl⟩
  exact ⟨rfl,Lib.below_grow _ w (Nat.le_refl _) k os⟩
 rw [if_neg hb] at h
 cases h
def joinB (l:List ByteArray)(sep:ByteArray):ByteArray:=⟨(Lib.join (l.map (·.data.toList)) sep.data.toList).toArray⟩
def strings_Join.f (l0:List ByteArray)(a1:ByteArray):Option ByteArray:=if (joinB l0 a1).size≤140737488355328∧l0.length≤140737488355328 then some (joinB l0 a1) else none
theorem strings_Join.calls (A0:Option Addr)(c0:Nat)(l0:List ByteArray)(a1:ByteArray)(r:ByteArray)(w:World)(hr0:Kd.C Kd.string w A0 l0.length l0)(hc0:l0.length≤c0)(h:strings_Join.f l0 a1=some r) :
    Calls Tryz.prog 57 #[.slice A0 l0.length c0,.string a1] w fun e w'=>e = .returned (.string r)∧Below w.heap.size w w':=by
 unfold strings_Join.f at h
 by_cases hb:(joinB l0 a1).size≤140737488355328∧l0.length≤140737488355328
 rotate_left
 ·rw [if_neg hb] at h
  cases h
 rw [if_pos hb] at h
 obtain rfl:=zE h
 by_cases h0:l0.length=0
 ·obtain rfl:=List.eq_nil_of_length_eq_zero h0
  exact (Tryz.strings_Join_none A0 c0 a1 w).mono fun e w' ⟨he,hw⟩=>⟨he,hw ▸ Below.refl _ _⟩
 obtain ⟨ad,e1,hcells⟩:=hr0.2.2 (by omega)
 subst e1
 have hx:∀ (j:Nat) x,l0[j]?=some x→w.cell? (ad.add j)=some (.string x):=by
  intro j x hj
  obtain ⟨cs,_,hk,hc⟩:=hcells j x hj
  have hz:(Kd.string).sz=1:=rfl
  obtain rfl:cs=[.string x]:=hk
  have:=hc 0 _ rfl
  rw [hz,Nat.mul_one,Nat.add_zero] at this
  exact this
 have h00:=hx 0 l0[0] (List.getElem?_eq_getElem (by omega))
 rw [show ad.add 0=ad from rfl] at h00
 have hlt:=World.block_lt_of_cell? w _ h00
 have hsp:=World.cell?_spot h00
 obtain ⟨bk,o,sp⟩:=ad
 simp only at hsp hlt
 subst hsp
 refine Tryz.strings_Join bk o c0 l0 a1 w (fun j x hj=>?_) hlt hb.2 hc0 (by have:=hb.1;unfold joinB at this;simpa [ByteArray.size] using this)
 have:=hx j x hj
 rcases j with _|j
 · exact this
 rwa [Addr.add_succ'] at this
end Go.Proofs.YtgfajgkjbckkgaaGreatDoor.PZ
end
section
namespace Go.Proofs.YtgfajgkjbckkgaaGreatDoor.PZ
open Go.RowKit Go.Proofs.YtgfajgkjbckkgaaGreatDoorW.PrintWords Go.Proofs.YtgfajgkjbckkgaaGreatDoorW.PrintLast Go.Proofs.YtgfajgkjbckkgaaGreatDoorW.PrintMore
section
attribute [local go_sem] max2_int min2_int max_two min_two max_three min_three max_four min_four   -- for this text's walks alone
theorem eqA57 (d:Nat)(w:World)(x0 y0:Int)(x1 y1:Int) :
    (Op.equalIn (d+2) 57 (.agg #[.int .i64 x0,.int .i64 x1]) (.agg #[.int .i64 y0,.int .i64 y1])).run Tryz.prog w = .ok (x0 == y0 && (x1 == y1)) w:=by
 have p0:∀ a b:Int,(part 3 #[.int .i64 a,.int .i64 b] 0).run Tryz.prog w = .ok (.int .i64 a) w:=fun a b=>by go_simp
 have p1:∀ a b:Int,(part 3 #[.int .i64 a,.int .i64 b] 1).run Tryz.prog w = .ok (.int .i64 b) w:=fun a b=>by go_simp
 have e0:∀ a b:Int,(Op.equalIn (d+1) 3 (.int .i64 a) (.int .i64 b)).run Tryz.prog w = .ok (a == b) w:=fun a b=>run_equalIn_int w d 3 .i64 .i64 a b Tryz.underlying3
 have hs:(Go.sizeOf 3).run Tryz.prog w = .ok 1 w:=by go_simp
 rw [Op.equalIn]
 simp only [Sem.run_bind,run_underlying Tryz.underlying57,Result.andThen_ok,hs]
 rw [Std.Legacy.Range.forIn_eq_forIn_range']
 simp only [Std.Legacy.Range.size,List.range',List.forIn_cons,List.forIn_nil,Sem.run_bind,Nat.zero_mul,Nat.one_mul,Nat.sub_zero,Nat.reduceAdd,Nat.reduceDiv,Nat.reduceSub,p0,e0,Result.andThen_ok,Sem.run_ite]
 cases hx:x0 == y0 <;> cases hy:x1 == y1 <;> simp [p1,e0,hy]
end
section
attribute [local go_sem] max2_int min2_int max_two min_two max_three min_three max_four min_four   -- for this text's walks alone
def plur_next.f (a0:Int)(a1:Int):Option (Bool):=if a1>a0 then (some (decide (a1≤5))) else (some false)
set_option maxHeartbeats 8000000 in
set_option maxRecDepth 100000 in
theorem plur_next.calls (a0:Int)(a1:Int)(r:Bool)(w:World)(h:plur_next.f a0 a1=some r) :
    Calls Tryz.prog 45 #[.int .i64 a0,.int .i64 a1] w fun e w'=>e = .returned (.bool r)∧Drawn0 w w':=by
 have H:(if a1>a0 then (some (decide (a1≤5))) else (some false))=some r:=h
 clear h
 by_cases c3:a1>a0
 ·rw [if_pos c3] at H
  have aa:decide (a0<a1)=true:=zC c3
  clear c3
  obtain rfl:=zE H
  go_enter Tryz.func45,Tryz.ntmps45
  go_wp2
  go_ret
  exact ⟨by first|rfl|(simp;done)|(simp [*];done),by repeat (first|exact Drawn0.refl _|apply Drawn0.step)⟩
 rw [if_neg c3] at H
 have aa:decide (a0<a1)=false:=zD c3
 clear c3
 obtain rfl:=zE H
 go_enter Tryz.func45,Tryz.ntmps45
 go_wp2
 go_ret
 exact ⟨by first|rfl|(simp;done)|(simp [*];done),by repeat (first|exact Drawn0.refl _|apply Drawn0.step)⟩
end
end Go.Proofs.YtgfajgkjbckkgaaGreatDoor.PZ
end
section
set_option maxRecDepth 100000
namespace Go.Proofs.YtgfajgkjbckkgaaGreatDoor.PZ
open Go.RowKit Go.Proofs.YtgfajgkjbckkgaaGreatDoorW.PrintWords Go.Proofs.YtgfajgkjbckkgaaGreatDoorW.PrintLast
def bareL (l:List Int):List Int:=l.dropWhile fun d=>decide (d=0)
theorem bareL_zero (l:List Int):bareL (0 :: l)=bareL l:=rfl
theorem bareL_other {d:Int}(l:List Int)(h:d≠0):bareL (d :: l)=d :: l:=by unfold bareL;rw [List.dropWhile_cons_of_neg (by simpa using h)]
def fullN (l:List Int):Nat:=(l.reverse.dropWhile fun d=>decide (d=0)).length
theorem fullN_le (l:List Int):fullN l≤l.length:=by
 unfold fullN
 have:=(List.dropWhile_sublist (fun d:Int=>decide (d=0)) (l:=l.reverse)).length_le
 simpa using this
def trimV:Option Addr→Nat→List Int→Value
  | _,_,[]=>.slice none 0 0
  | A,c,d :: l=>if d=0 then trimV (if c=1 then A else A.map (·.add (1 * 1))) (c - 1) l else .slice A (l.length+1) c
theorem trimV_V (w:World)(b:Nat)(P0:Nat→Prop)(l:List Int):∀ (A:Option Addr) (c:Nat),l.length≤c→Kd.F (Kd.int .u8) w P0 A l.length l→Kd.V (Kd.int .u8) 5 w b P0 (trimV A c l) (bareL l):=by
 induction l with
 | nil=>intro A c _ _;exact Kd.V_nil _ _ _ _ _
 | cons d l ih=>
  intro A c hc hF
  by_cases hd:d=0
  ·subst hd
   have hr:=Kd.F_cut (d:=Kd.int .u8) (W:=w) (ok:=P0) (A:=A) (xs:=0 :: l) (m:=1) (c:=c) hF (by simp) hc
   have e:trimV A c (0 :: l)=trimV (if c=1 then A else A.map (·.add (1 * 1))) (c - 1) l:=rfl
   rw [e,bareL_zero]
   refine ih _ _ ?_ hr
   rw [List.length_cons] at hc;omega
  have e:trimV A c (d :: l) = .slice A (d :: l).length c:=by unfold trimV;rw [if_neg hd];rfl
  rw [e,bareL_other l hd]
  exact Kd.V_mk hc hF
theorem trimByteInfo:(Tryz.prog.info? 5).map (fun i=>(i.zero,i.size,i.bytes))=some (some (.int .u8 0),1,1):=by kernel_rfl
set_option maxHeartbeats 1000000 in
theorem trimLeftByte_calls (P0:Nat→Prop)(A0:Option Addr)(c0:Nat)(l0:List Int)(w:World)(hs0:Kd.V (Kd.int .u8) 5 w w.heap.size P0 (.slice A0 l0.length c0) l0) :
    Calls Tryz.prog 128 #[.slice A0 l0.length c0,.int .u8 0] w fun e w'=>e = .returned (trimV A0 c0 l0)∧∃ q,w'=w.drewN q:=by
 obtain ⟨_,hc0,hF0⟩:=Kd.V_at hs0
 have HF0:=zA hF0
 have HC0:=zA hc0
 clear hs0 hF0 hc0
 have hl:l0.length≤9223372036854775807:=Kd.C_max (Kd.F_now HF0.out)
 obtain ⟨i0,hi0,_,hsz,_⟩:=info_parts trimByteInfo
 have HI:=zA hi0
 have HSZ:=zA hsz
 clear hi0 hsz
 go_enter Tryz.func128,Tryz.ntmps128
 go_wp2
 go_loopg [0] l0.length (fun gg s0 wr=>∃ (A:Option Addr) (n c:Nat) (y:List Int) (q:Nat),s0 = .slice A n c∧n≤gg∧n≤l0.length∧wr=w.drewN q∧Aside0 (n≤c)∧Aside0 (y.length=n)∧Aside0 (trimV A c y=trimV A0 c0 l0)∧Aside0 (Kd.F (Kd.int .u8) w P0 A n y))
 case atStart=>exact ⟨A0,l0.length,c0,l0,0,rfl,Nat.le_refl _,Nat.le_refl _,rfl,HC0,⟨rfl⟩,⟨rfl⟩,HF0⟩
 case round=>
  obtain ⟨A,n,c,y,q,rfl,hg,hn,rfl,HC,HL,HB,HF⟩:=hrel
  by_cases hpos:0<n
  rotate_left
  ·have:n=0:=by omega
   subst this
   go_wp2
   go_ret
   refine ⟨?_,q,rfl⟩
   rw [← HB.out,List.eq_nil_of_length_eq_zero HL.out]
   rfl
  obtain ⟨ad,e1,hcell⟩:=Kd.at_int (Kd.F_now HF.out) 0 (by omega) (by omega)
  cases e1
  rw [show ((0:Int)).toNat=0 from rfl,Addr.add_zero'] at hcell
  have hd1:decide (0<n)=true:=zC hpos
  have hd2:decide (0<(n:Int))=true:=zC (by omega)
  have hd3:((n:Int) == 0)=false:=by rw [beq_eq_false_iff_ne];omega
  have hd4:(0<n)=True:=eq_true hpos
  have Y:Aside0 (y=rd y 0 :: y.drop 1):=⟨by have:=drop_cons y 0 (by rw [HL.out];exact hpos);simpa using this⟩
  by_cases hz:rd y 0=0
  ·rw [hz] at hcell
   have Z:=zA hz
   clear hz
   have hcut:=cut_from (P:=Tryz.prog) 34 5 .i64 Tryz.underlying34 HI.out 1 HSZ.out (some ad) n c 1 (by omega) (by omega)
   rw [show ((1:Int)).toNat=1 from rfl] at hcut
   have hr:=Kd.F_cut (d:=Kd.int .u8) (W:=w) (ok:=P0) (A:=some ad) (xs:=y) (m:=1) (c:=c) (by rw [HL.out];exact HF.out) (by rw [HL.out];exact hpos) (by rw [HL.out];exact HC.out)
   obtain ⟨A1,hA1⟩:∃ A1,A1=(if c=1 then (some ad) else ((some ad):Option Addr).map (·.add (1 * 1))):=⟨_,rfl⟩
   rw [← hA1] at hcut
   replace hr:Kd.F (Kd.int .u8) w P0 A1 (y.drop 1).length (y.drop 1):=by rw [hA1];exact hr
   have HR:=zA hr
   have A1E:=zA hA1
   clear hr hA1
   go_wp2
   go_roundg (n - 1)
   case measure=>omega
   case rel=>
    refine ⟨A1,n - 1,c - 1,y.drop 1,_,rfl,Nat.le_refl _,by omega,rfl,⟨Nat.sub_le_sub_right HC.out 1⟩,⟨by rw [List.length_drop,HL.out]⟩,⟨?_⟩,⟨?_⟩⟩
    · rw [← HB.out,Y.out,Z.out,A1E.out];rfl
    have:=HR.out;rwa [List.length_drop,HL.out] at this
  have he:(rd y 0 == 0)=false:=by simpa using hz
  have Z:=zA hz
  clear hz
  generalize hv:rd y 0=v at hcell he
  have VV:=zA hv
  clear hv
  go_wp2
  go_ret
  refine ⟨?_,q,rfl⟩
  have hl1:(y.drop 1).length+1=n:=by rw [List.length_drop,HL.out];omega
  rw [← HB.out,Y.out]
  unfold trimV
  rw [if_neg Z.out,hl1]
  rfl
set_option maxHeartbeats 1000000 in
set_option maxRecDepth 100000 in
theorem trimLeft_calls (P0:Nat→Prop)(A0:Option Addr)(c0:Nat)(l0:List Int)(w:World)(hs0:Kd.V (Kd.int .u8) 5 w w.heap.size P0 (.slice A0 l0.length c0) l0) :
    Calls Tryz.prog 118 #[.slice A0 l0.length c0,.string ⟨#[0]⟩] w fun e w'=>e = .returned (trimV A0 c0 l0)∧∃ q,w'=w.drewN q:=by
 have hc:=zA (trimLeftByte_calls P0 A0 c0 l0 w hs0)
 clear hs0
 by_cases h0:l0.length=0
 ·have:l0=[]:=List.eq_nil_of_length_eq_zero h0
  subst this
  clear hc h0
  go_enter Tryz.func118,Tryz.ntmps118
  go_wp2
  go_ret
  exact ⟨rfl,0,rfl⟩
 have hd3:((l0.length:Int) == 0)=false:=by rw [beq_eq_false_iff_ne];omega
 clear h0
 generalize trimV A0 c0 l0=vv at hc ⊢
 generalize l0.length=n at hc hd3 ⊢
 go_enter Tryz.func118,Tryz.ntmps118
 go_wp2_with (go_at_call 128;refine hc.out.mono ?_;rintro e w1 ⟨rfl,q,rfl⟩)
 go_ret
 exact ⟨rfl,q,rfl⟩
def oper_bare.f (l:List Int):Option (List Int):=some (bareL l)
set_option maxHeartbeats 1000000 in
theorem bare_quiet (P0:Nat→Prop)(A0:Option Addr)(c0:Nat)(l0:List Int)(w:World)(hs0:Kd.V (Kd.int .u8) 5 w w.heap.size P0 (.slice A0 l0.length c0) l0) :
    Calls Tryz.prog 107 #[.slice A0 l0.length c0] w fun e w'=>e = .returned (trimV A0 c0 l0)∧∃ q,w'=w.drewN q:=by
 have hc:=zA (trimLeft_calls P0 A0 c0 l0 w hs0)
 clear hs0
 generalize trimV A0 c0 l0=vv at hc ⊢
 go_enter Tryz.func107,Tryz.ntmps107
 go_wp2_with (go_at_call 118;refine hc.out.mono ?_;rintro e w1 ⟨rfl,q,rfl⟩)
 go_ret
 exact ⟨rfl,q,rfl⟩
theorem oper_bare.calls (P0_:Nat→Prop)(A0:Option Addr)(c0:Nat)(l0:List Int)(r:List Int)(w:World)(hs0:Kd.V (Kd.int .u8) 5 w w.heap.size (fun k_=>P0_ k_) (.slice A0 l0.length c0) l0)(h:oper_bare.f l0=some r) :
    Calls Tryz.prog 107 #[.slice A0 l0.length c0] w fun e w'=>∃ v0_:Value,e = .returned (v0_)∧Kd.V (Kd.int .u8) 5 w' w.heap.size (fun k_=>(P0_ k_∨w.heap.size≤k_)) v0_ r∧Below w.heap.size w w':=by
 obtain rfl:=zE h
 refine (bare_quiet P0_ A0 c0 l0 w hs0).mono ?_
 rintro e w' ⟨rfl,q,rfl⟩
 obtain ⟨_,hc,hF⟩:=Kd.V_at hs0
 exact ⟨_,rfl,Kd.V_mono (Kd.V_drewN (trimV_V w _ P0_ l0 A0 c0 hc hF) q) (fun _ hk=>.inl hk),pw_below_drewN (Below.refl _ _) q⟩
theorem alloc_set (W:World)(o o':Obj):({ W.alloc o with heap:=(W.alloc o).heap.setIfInBounds W.heap.size o' }:World)=W.alloc o':=by
 have e:(W.alloc o).heap=W.heap.push o:=rfl
 have e2:(W.heap.push o).setIfInBounds W.heap.size o'=W.heap.push o':=by
  apply Array.ext_getElem?
  intro i
  rw [Array.getElem?_setIfInBounds,Array.getElem?_push,Array.getElem?_push]
  by_cases h:i=W.heap.size
  · subst h;simp
  rw [if_neg h,if_neg h,if_neg (fun z=>h z.symm)]
 rw [e,e2]
 rfl
theorem map_at (W:World)(es:Array MapEntry)(clk:Nat):(W.alloc (.map es clk)).heap[W.heap.size]?=some (.map es clk):=by
 have e:(W.alloc (.map es clk)).heap=W.heap.push (.map es clk):=rfl
 rw [e];simp
theorem run_insert_int {P:Program}(W:World){mty kt et:TypeId}{ik:IntKind}(hm:P.underlying mty=some (.map kt et))(hk:P.underlying kt=some (.int ik))(g:Nat)(hg:W.heap.size=g)(es:Array MapEntry)(clk:Nat)(k:Int)(x:Value)
    (hf:Instr.findNow (.int ik) (.int ik k) es.toList 0=some none) :
    (Instr.mapUpdate mty (.map (some g)) (.int ik k) x).run P (W.alloc (.map es clk)) = .ok () (W.alloc (.map (es.push { key:=.int ik k,val:=x,born:=clk }) (clk+1))):=by
 subst hg
 have hb:=map_at W es clk
 have hc:(Instr.checkKey false 10000 kt (.int ik k)).run P (W.alloc (.map es clk)) = .ok () (W.alloc (.map es clk)):=MapKept.run_checkKey (k:=.int ik k) hk (by simp [MapKept.IsKey]) false 9999
 simp only [Instr.mapUpdate,Sem.run_bind,run_underlying hm,MapKept.run_getObj_map hb,hc,MapKept.run_findKey hk hf,MapKept.run_setObj_map _ hb,Result.andThen]
 rw [alloc_set]
theorem run_look_int {P:Program}(W:World){mty kt et:TypeId}{ik:IntKind}(hm:P.underlying mty=some (.map kt et))(hk:P.underlying kt=some (.int ik))(g:Nat)(hg:W.heap.size=g)(es:Array MapEntry)(clk:Nat)(k:Int)(i:Nat)(v:Value)(ok:Bool)
    (hf:Instr.findNow (.int ik) (.int ik k) es.toList 0=some (some (i,v))) :
    (Instr.lookup mty (.map (some g)) (.int ik k) ok).run P (W.alloc (.map es clk)) = .ok (if ok then .tuple #[v,.bool true] else v) (W.alloc (.map es clk)):=by
 subst hg
 have hb:=map_at W es clk
 have hc:(Instr.checkKey es.isEmpty 10000 kt (.int ik k)).run P (W.alloc (.map es clk)) = .ok () (W.alloc (.map es clk)):=MapKept.run_checkKey (k:=.int ik k) hk (by simp [MapKept.IsKey]) _ 9999
 simp only [Instr.lookup,Sem.run_bind,Sem.run_pure,run_underlying hm,MapKept.run_getObj_map hb,hc,MapKept.run_findKey hk hf,Result.andThen]
theorem run_look_none {P:Program}(W:World){mty kt et:TypeId}{ik:IntKind}(hm:P.underlying mty=some (.map kt et))(hk:P.underlying kt=some (.int ik))(g:Nat)(hg:W.heap.size=g)(es:Array MapEntry)(clk:Nat)(k:Int)(z:Value)(ok:Bool)
    (hz:∀ w:World,(zeroValue et).run P w = .ok z w) (hf:Instr.findNow (.int ik) (.int ik k) es.toList 0=some none) :
    (Instr.lookup mty (.map (some g)) (.int ik k) ok).run P (W.alloc (.map es clk)) = .ok (if ok then .tuple #[z,.bool false] else z) (W.alloc (.map es clk)):=by
 subst hg
 have hb:=map_at W es clk
 have hc:(Instr.checkKey es.isEmpty 10000 kt (.int ik k)).run P (W.alloc (.map es clk)) = .ok () (W.alloc (.map es clk)):=MapKept.run_checkKey (k:=.int ik k) hk (by simp [MapKept.IsKey]) _ 9999
 simp only [Instr.lookup,Sem.run_bind,Sem.run_pure,run_underlying hm,MapKept.run_getObj_map hb,hc,MapKept.run_findKey hk hf,hz,Result.andThen]
def bytes_Compare.f (l0 l1:List Int):Option Int:=some (Lib.compareBytes (Lib.bytesOf l0) (Lib.bytesOf l1))
theorem run_bytesSlice {P:Program}(w:World)(A:Option Addr)(l:List Int)(c:Nat)(hr:Kd.C (Kd.int .u8) w A l.length l) :
    (Extern.Bytes.bytesOf (.slice A l.length c)).run P w = .ok ⟨(Lib.bytesOf l).toArray⟩ w:=by
 cases A with
 | none=>
  have hn:l=[]:=by
   cases l with
   | nil=>rfl
   | cons x l=>obtain ⟨ad,he,_⟩:=Kd.at_int hr 0 (by omega) (by simp);cases he
  subst hn
  rfl
 | some a=>
  have hl:=Lib.run_loadBytesX (P:=P) w l a .empty (fun j x hj=>by
   have hjl:j<l.length:=(List.getElem?_eq_some_iff.1 hj).1
   obtain ⟨ad,he,hc⟩:=Kd.at_int hr (j:Int) (by omega) (by omega)
   cases he
   have e:rd l (j:Int)=x:=by simp [rd,List.getD_eq_getElem?_getD,hj]
   rw [e] at hc
   simpa using hc)
  have he:(⟨ByteArray.empty.data ++ (Lib.bytesOf l).toArray⟩:ByteArray)=⟨(Lib.bytesOf l).toArray⟩:=by
   apply ByteArray.ext
   show (#[]:Array UInt8) ++ (Lib.bytesOf l).toArray=(Lib.bytesOf l).toArray
   simp
  rw [he] at hl
  exact hl
theorem run_compareSlices {P:Program}(w:World)(A0 A1:Option Addr)(l0 l1:List Int)(c0 c1:Nat)(h0:Kd.C (Kd.int .u8) w A0 l0.length l0)(h1:Kd.C (Kd.int .u8) w A1 l1.length l1) :
    (Extern.BytealgCompare.compare #[.slice A0 l0.length c0,.slice A1 l1.length c1]).run P w = .ok (.int .i64 (Lib.compareBytes (Lib.bytesOf l0) (Lib.bytesOf l1))) w:=by
 change Sem.run P (do pure (goInt (Extern.BytealgCompare.cmp (← Extern.Bytes.bytesOf (.slice A0 l0.length c0)) (← Extern.Bytes.bytesOf (.slice A1 l1.length c1))))) w=_
 simp only [Sem.run_bind,run_bytesSlice w A0 l0 c0 h0,run_bytesSlice w A1 l1 c1 h1,Sem.run_pure,Result.andThen]
 rw [Lib.cmp_eq]
 rfl
set_option maxHeartbeats 1000000 in
set_option maxRecDepth 100000 in
theorem bytes_Compare.calls (A0:Option Addr)(c0:Nat)(l0:List Int)(A1:Option Addr)(c1:Nat)(l1:List Int)(r:Int)(w:World)(hr0:Kd.C (Kd.int .u8) w A0 l0.length l0)(_hc0:l0.length≤c0)(hr1:Kd.C (Kd.int .u8) w A1 l1.length l1)(_hc1:l1.length≤c1)(h:bytes_Compare.f l0 l1=some r) :
    Calls Tryz.prog 119 #[.slice A0 l0.length c0,.slice A1 l1.length c1] w fun e w'=>e = .returned (.int .i64 r)∧Drawn0 w w':=by
 obtain rfl:=zE h
 have HR:=zA (run_compareSlices (P:=Tryz.prog) w A0 A1 l0 l1 c0 c1 hr0 hr1)
 clear h hr0 hr1
 go_enter Tryz.func119,Tryz.ntmps119
 go_wp2
 rw [run_callFunc_extern Tryz.func132 (by kernel_rfl) (by kernel_rfl) (by kernel_rfl) (e:=Extern.BytealgCompare.compare) (by kernel_rfl),HR.out]
 simp only [Result.andThen]
 rw [Oper.upon_value]
 go_wp2
 go_ret
 exact ⟨rfl,Drawn0.refl _⟩
end Go.Proofs.YtgfajgkjbckkgaaGreatDoor.PZ
end
section
namespace Go.Proofs.YtgfajgkjbckkgaaGreatDoor.PZ
open Go.RowKit Go.Proofs.YtgfajgkjbckkgaaGreatDoorW.PrintWords Go.Proofs.YtgfajgkjbckkgaaGreatDoorW.PrintLast Go.Proofs.YtgfajgkjbckkgaaGreatDoorW.PrintMore
section
attribute [local go_sem] max2_int min2_int max_two min_two max_three min_three max_four min_four   -- for this text's walks alone
end
section
attribute [local go_sem] max2_int min2_int max_two min_two max_three min_three max_four min_four   -- for this text's walks alone
end
section
attribute [local go_sem] max2_int min2_int max_two min_two max_three min_three max_four min_four   -- for this text's walks alone
end
end Go.Proofs.YtgfajgkjbckkgaaGreatDoor.PZ
end
