/- Texts of this seat, joined. Conditions: none beyond each statement's own. -/
import Derived.Test.YtklebhlanidloaaGreatDoorD02
set_option linter.all false
section
namespace Go.Proofs.YtklebhlanidloaaGreatDoorW.PrintWords
open Go.RowKit
section
section
variable {P:Program}
theorem run_append_zeros (w:World)(base:Nat)(t ti ty e:TypeId)(i:TypeInfo)(z:Value)(size bytes:Nat)(ht:P.underlying t=some (.slice e)){k:IntKind}(hti:P.underlying ti=some (.int k))(hi:P.info? e=some i)(hz:i.zero=some z)
    (hsize:i.size=size) (hby:i.bytes=bytes) (hzs:z.cells.size=size) (hsz:0<size) (hb0:0<bytes)
    (v:Value) (n:Nat) (xs:List Value) (hown:w.ownsRow base e size v n xs) (kx:IntKind) (m:Nat) (h1:∀ u ∈ (Builtin.zeroCells z.cells m).toList,u.oneCell'=true)
    (hbytes:(n+m) * bytes≤140737488355328) (hbase:base≤w.heap.size) :
    ∃ v' w',(Builtin.append_ #[t,ti] ty #[v,.int kx m]).run P w = .ok v' w'∧w'.ownsRow base e size v' (n+m) (xs ++ (Builtin.zeroCells z.cells m).toList)∧w.grownBy w' v.ownBlock ∧
      (v'.ownBlock=v.ownBlock∨v'.ownBlock=some w.heap.size):=by
 subst hsize
 subst hby
 have hle:n+m≤140737488355328:=Nat.le_trans (Nat.le_mul_of_pos_right _ hb0) hbytes
 have h63:n+m≤maxLen:=by simp only [maxLen];omega
 have hw:IntKind.i64.wrap (m:Int)=m:=by rw [IntKind.wrap_i64];omega
 have hw0:IntKind.i64.wrap 0=0:=by rw [IntKind.wrap_i64];rfl
 have hneg:¬ ((m:Int)<0):=by omega
 have hmb:m * i.bytes≤140737488355328:=Nat.le_trans (Nat.mul_le_mul_right _ (Nat.le_add_left m n)) hbytes
 have hbig:¬ (281474976710656<(m:Int) * (i.bytes:Int)):=by
  rw [← Int.natCast_mul]
  omega
 have hsn:i.size≠0:=by omega
 obtain ⟨news,hnews⟩:∃ news,news=(Builtin.zeroCells z.cells m).toList:=⟨_,rfl⟩
 rw [← hnews] at h1 ⊢
 have hl:news.length=m * i.size:=by rw [hnews,Array.length_toList,size_zeroCells,hzs]
 have hna:Builtin.zeroCells z.cells m=news.toArray:=by rw [hnews]
 have hlen:(xs ++ news).length=(n+m) * i.size:=by rw [List.length_append,hown.1,hl,Nat.add_mul]
 have hnil:m=0→news=[]:=fun h=>List.eq_nil_of_length_eq_zero (by rw [hl,h,Nat.zero_mul])
 have grown:∀ (old:Nat),old<n+m→∀ (row:Option Nat),
    (w.drew.alloc (.cells (xs.toArray ++ news.toArray ++ Builtin.zeroCells z.cells (grownCap w (n+m) old e - (n+m))) e)).ownsRow base e i.size
      (.slice (some ⟨w.heap.size,0,none⟩) (n+m) (grownCap w (n+m) old e)) (n+m) (xs ++ news) ∧
    w.grownBy (w.drew.alloc (.cells (xs.toArray ++ news.toArray ++ Builtin.zeroCells z.cells (grownCap w (n+m) old e - (n+m))) e)) row:=by
  intro old ho row
  have hge:=grownCap_ge w (n+m) old e
  have hcm:grownCap w (n+m) old e≤maxLen:=grownCap_le_maxLen w (n+m) old e h63
  refine ⟨⟨hlen,.inr ⟨w.heap.size,_,_,rfl,hbase,heap_alloc_new w.drew _,hge,hcm,?_,?_⟩⟩,⟨rfl,rfl,rfl,by simp,fun k hk _=>heap_alloc_old w.drew _ hk⟩⟩
  · simp only [Array.size_append,List.size_toArray,size_zeroCells,hzs,hown.1,hl,← Nat.add_mul]
    congr 1
    omega
  · simp only [Array.toList_append,List.append_assoc]
    rw [← List.append_assoc,← hlen]
    exact List.take_left
 have runs:∀ (A:Option Addr) (cap:Nat),cap<n+m→(Builtin.firstCells i.size n (.slice A n cap)).run P w.drew = .ok xs.toArray w.drew→(Builtin.append_ #[t,ti] ty #[.slice A n cap,.int kx m]).run P w =
    .ok (.slice (some ⟨w.heap.size,0,none⟩) (n+m) (grownCap w (n+m) cap e)) (w.drew.alloc (.cells (xs.toArray ++ news.toArray ++ Builtin.zeroCells z.cells (grownCap w (n+m) cap e - (n+m))) e)):=by
  intro A cap hcap hfo
  have hn:¬ (n+m≤cap):=by omega
  have h63':¬ (9223372036854775807<((n:Int)+(m:Int))):=by omega
  have hfit:=growslice_fits hcap hbytes
  have h48':¬ (281474976710656<Builtin.nextslicecap (n+m) cap * i.bytes):=by omega
  by_cases hm:m=0
  · have hnl:=hnil hm
    subst hm
    rw [hnl]
    simp only [Nat.add_zero] at hn h63' h48' ⊢
    have h63'':¬ (9223372036854775807<(n:Int)):=by omega
    simp [Builtin.append_,run_underlying ht,run_underlying hti,sizeOf,typeInfo,zeroValue,hi,hz,asInt,asIntOf,hw0,hn,h63'',h48',Question.forced,hfo,newRow,grownCap]
  · have hmz:¬ (m * i.size=0):=Nat.mul_ne_zero hm hsn
    simp [Builtin.append_,run_underlying ht,run_underlying hti,sizeOf,typeInfo,zeroValue,hi,hz,asInt,asIntOf,hw,hneg,hbig,hn,h63',h48',Question.forced,hfo,newRow,grownCap,hmz,hna]
    congr 2
    apply Array.ext'
    simp [List.append_assoc]
 rcases hown.2 with ⟨rfl,rfl⟩|⟨g,cap,cur,rfl,hbg,hg,hnc,hcm,hcs,htake⟩
 ·have hx:xs=[]:=List.eq_nil_of_length_eq_zero (by simpa using hown.1)
  subst hx
  by_cases hm:m=0
  ·have hnl:=hnil hm
   subst hm
   rw [hnl]
   refine ⟨.slice none 0 0,w,?_,World.ownsRow_nil w base e i.size,⟨rfl,rfl,rfl,Nat.le_refl _,fun _ _ _=>rfl⟩,Or.inl rfl⟩
   simp [Builtin.append_,run_underlying ht,run_underlying hti,sizeOf,typeInfo,hi,asInt,asIntOf,hw0]
  have hgr:=grown 0 (by omega) (Value.ownBlock (.slice none 0 0))
  exact ⟨_,_,runs none 0 (by omega) (by simp [Builtin.firstCells]),hgr.1,hgr.2,Or.inr rfl⟩
 by_cases hroom:n+m≤cap
 rotate_left
 ·have holds:∀ j u,xs[j]?=some u→w.cell? ((⟨g,0,none⟩:Addr).add j)=some u:=hown.cells (g:=g) rfl
  have hgr:=grown cap (by omega) (Value.ownBlock (.slice (some ⟨g,0,none⟩) n cap))
  exact ⟨_,_,runs (some ⟨g,0,none⟩) cap (by omega) (run_firstCells_some (P:=P) w.drew i.size n _ n cap xs hown.1 (by simpa using holds)),hgr.1,hgr.2,Or.inr rfl⟩
 have hfit:n * i.size+news.length≤cur.size:=by rw [hl,hcs,← Nat.add_mul];exact Nat.mul_le_mul_right _ hroom
 obtain ⟨cur',h3,h4,h5⟩:=setCells_row news (n * i.size) w cur hg hfit
 obtain ⟨s1,s2,s3,s4⟩:=setCells_same g news (n * i.size) w
 have hst:=run_storeCells_cells (P:=P) g (n * i.size) news 0 w (fun j hj=>by rw [cell_of_row w g _ cur e (0,0) hg];simp;omega) (fun j _=>blk_frozen hg _) h1
 simp only [Nat.add_zero] at hst
 refine ⟨.slice (some ⟨g,0,none⟩) (n+m) cap,w.setCells g (n * i.size) news,?_,⟨hlen,.inr ⟨g,cap,cur',rfl,hbg,h3,hroom,hcm,by rw [h4,hcs],?_⟩⟩,⟨s1,s2,s3,by rw [s4];exact Nat.le_refl _,fun k _ hk=>setCells_far news _ k (fun e=>hk (by simp [Value.ownBlock,e]))⟩,Or.inl rfl⟩
 ·by_cases hm:m=0
  ·have hnl:=hnil hm
   subst hm
   rw [hnl] at hst ⊢
   simp [Builtin.append_,run_underlying ht,run_underlying hti,sizeOf,typeInfo,hi,asInt,asIntOf,hw0,hnc,add_plain,hst]
  have hmz:¬ (m * i.size=0):=Nat.mul_ne_zero hm hsn
  simp [Builtin.append_,run_underlying ht,run_underlying hti,sizeOf,typeInfo,zeroValue,hi,hz,asInt,asIntOf,hw,hneg,hbig,hroom,hmz,hna,add_plain,hst]
 rw [h5]
 have h6:cur.toList.take (n * i.size)=xs:=htake
 rw [h6,← hlen]
 exact List.take_left
end
namespace Kd
theorem reps_zeros {α:Type}{R:α→List Value→Prop}{z:Value}{size:Nat}{z0:α}(hz:z.cells.size=size)(hs:0<size)(h0:R z0 z.cells.toList)(m:Nat):Reps R size (List.replicate m z0) (Builtin.zeroCells z.cells m).toList:=by
 have h:=reps_made hz hs h0 m
 rw [show Builtin.zeroCells z.cells m=madeCells z.cells (m * size) by unfold Builtin.zeroCells madeCells;rw [hz]]
 exact h
section
variable {P:Program}{ops:Array Oper}{rest:List Oper}{o:Oper}{a:Act}{Q:Exit→Act→World→Prop}{Kc:Act→World→Prop}{α:Type}
theorem R_zeros_run (d:Kd α){W:World}(base:Nat)(t ti ty e:TypeId)(z:Value)(bytes:Nat)(ht:P.underlying t=some (.slice e)){k:IntKind}(hti:P.underlying ti=some (.int k))(hinfo:(P.info? e).map (fun i=>(i.zero,i.size,i.bytes))=some (some z,d.sz,bytes))(hz:z.cells.size=d.sz)(hs0:0<d.sz)(hb0:0<bytes)
    (v:Value) (xs:List α) (z0:α) {ok:Nat→Prop} (hzero:d.M W base (fun _=>False) z0 z.cells.toList) (hfresh:∀ k,W.heap.size≤k→ok k) (HO:d.R e W base ok v xs) (kx:IntKind) (n:Int) (h0:0≤n) (hl:(xs.length+n.toNat) * bytes≤140737488355328) (hbase:base≤W.heap.size) :
    ∃ v1 w1,(Builtin.append_ #[t,ti] ty #[v,.int kx n]).run P W = .ok v1 w1∧d.R e w1 base ok v1 (xs ++ List.replicate n.toNat z0)∧W.grownBy w1 v.ownBlock∧(v1.ownBlock=v.ownBlock∨∃ b,v1.ownBlock=some b∧W.heap.size≤b):=by
 obtain ⟨m,rfl⟩:=Int.eq_ofNat_of_zero_le h0
 simp only [Int.toNat_natCast] at hl ⊢
 obtain ⟨i0,hi,hzz⟩:=Option.map_eq_some_iff.1 hinfo
 simp only [Prod.mk.injEq] at hzz
 obtain ⟨hz0,hz1,hz2⟩:=hzz
 obtain ⟨hok,inner,hown,hr⟩:=HO
 have hnM:Reps (d.M W base (fun _=>False)) d.sz (List.replicate m z0) (Builtin.zeroCells z.cells m).toList:=reps_zeros hz hs0 hzero m
 obtain ⟨v1,w1,hrun,h2,hg,hat⟩:=run_append_zeros (P:=P) W base t ti ty e i0 z d.sz bytes ht hti hi hz0 hz1 hz2 hz hs0 hb0 v xs.length inner hown kx m (reps_one hnM hs0 (fun _ _ hp=>d.K_one (d.K_of_M hp))) hl hbase
 have hat':v1.ownBlock=v.ownBlock∨∃ b,v1.ownBlock=some b∧W.heap.size≤b:=by
  rcases hat with hat|hat
  · exact .inl hat
  exact .inr ⟨_,hat,Nat.le_refl _⟩
 have hne:∀ k,some k≠v.ownBlock→k<W.heap.size→some k≠v1.ownBlock:=by
  intro k hk hlt
  rcases hat' with hat|⟨b,hb,hle⟩
  · rw [hat];exact hk
  rw [hb]
  intro he
  injection he with he
  omega
 have step:∀ {q:α} {c:List Value} {o:Nat→Prop},d.M W base o q c→(∀ k,o k→ok k∧some k≠v.ownBlock)→d.M w1 base (fun k=>ok k∧some k≠v1.ownBlock) q c:=by
  intro q c o hq ho
  have h1:=d.M_move (w1:=w1) (fun k hk=>hg.block k hk.2.2.1 (ho k hk.1).2) (d.M_bound hq)
  exact d.M_mono (fun k hk=>⟨(ho k hk.1).1,hne k (ho k hk.1).2 hk.2.2.1⟩) h1
 refine ⟨v1,w1,hrun,⟨fun k hk=>?_,inner ++ (Builtin.zeroCells z.cells m).toList,by rw [List.length_append,List.length_replicate];exact h2,reps_append (hr.imp_ (fun _ _ hq=>step hq (fun _ hk=>hk))) (hnM.imp_ (fun _ _ hq=>step hq (fun _ hk=>hk.elim)))⟩,hg,hat'⟩
 rcases hat' with hat|⟨b,hb,hle⟩
 · exact hok k (hat ▸ hk)
 rw [hb] at hk
 injection hk with hk
 exact hfresh k (by omega)
theorem R_append_zeros (d:Kd α){w0 W:World}(base:Nat)(hgd:o.guard=none)(s x:Operand)(t ti e:TypeId)(z:Value)(bytes:Nat)
    (ho:o.op = .call { callee:=.builtin .append,args:=#[s,x],argTypes:=#[t,ti] })
    (ht:P.underlying t=some (.slice e)) {k:IntKind} (hti:P.underlying ti=some (.int k)) (hinfo:(P.info? e).map (fun i=>(i.zero,i.size,i.bytes))=some (some z,d.sz,bytes)) (hz:z.cells.size=d.sz) (hs0:0<d.sz) (hb0:0<bytes)
    (v:Value) (xs:List α) (z0:α) {kx:IntKind} (n:Int) (ok:Nat→Prop) (hs:a.eval s=v) (hx:a.eval x = .int kx n) (hzero:d.M W base (fun _=>False) z0 z.cells.toList) (hfresh:∀ k,W.heap.size≤k→ok k)
    (HO:d.R e W base ok v xs) (h0:0≤n) (HB:Below base w0 W) (hbase:base≤W.heap.size) (hl:(xs.length+n.toNat) * bytes≤140737488355328)
    (h:∀ v1 w1,d.R e w1 base ok v1 (xs ++ List.replicate n.toNat z0)→Below base w0 w1→W.grownBy w1 v.ownBlock→(v1.ownBlock=v.ownBlock∨∃ b,v1.ownBlock=some b∧W.heap.size≤b)→wpList P ops Q rest (a.put o.dst v1) w1) :
    wpList P ops Q (o :: rest) a W:=by
 obtain ⟨v1,w1,hr1,h1,hg,hat⟩:=R_zeros_run (P:=P) d base t ti o.type e z bytes ht hti hinfo hz hs0 hb0 v xs z0 hzero hfresh HO kx n h0 hl hbase
 refine wpList_plain hgd fun K hK=>?_
 unfold Oper.wp execOp
 simp only [ho,resolve,invoke,builtin,Sem.run_bind,Sem.run_pure,Result.andThen_ok,List.map_toArray,List.map_cons,List.map_nil,hs,hx,hr1]
 exact hK _ _ (h v1 w1 h1 (HB.grown hg hbase (R_base HO)) hg hat)
end
section
variable {α:Type}{d:Kd α}{e:Nat}{w:World}{base:Nat}{ok:Nat→Prop}{v:Value}{xs:List α}
end
section
variable {P:Program}{ops:Array Oper}{rest:List Oper}{o:Oper}{a:Act}{Q:Exit→Act→World→Prop}{Kc:Act→World→Prop}{α:Type}
end
end Kd
end
end Go.Proofs.YtklebhlanidloaaGreatDoorW.PrintWords
end
section
namespace Go.Proofs.YtklebhlanidloaaGreatDoorW.PrintWords
open Go.RowKit
namespace Kd
structure Heap {α:Type}(d:Kd α):Prop where
  K:∀ {w w1:World} {x:α} {cs:List Value},(∀ k,k<w.heap.size→w1.heap[k]?=w.heap[k]?)→d.K w x cs→d.K w1 x cs
theorem cell_heap {w w1:World}(hb:∀ k,k<w.heap.size→w1.heap[k]?=w.heap[k]?){a:Addr}{v:Value}(h:w.cell? a=some v):w1.cell? a=some v:=by
 have:=hb a.block (World.block_lt_of_cell? w a h)
 simpa [World.cell?,this] using h
theorem Heap.C {α:Type}{d:Kd α}(hd:Heap d){w w1:World}{A:Option Addr}{n:Nat}{xs:List α}(hb:∀ k,k<w.heap.size→w1.heap[k]?=w.heap[k]?)(h:d.C w A n xs):d.C w1 A n xs:=
  ⟨h.1,h.2.1,fun hn=>by
    obtain ⟨ad,e,hc⟩:=h.2.2 hn
    refine ⟨ad,e,fun j p hj=>?_⟩
    obtain ⟨c,hs,hr,hcell⟩:=hc j p hj
    exact ⟨c,hs,hd.K hb hr,fun i u hu=>cell_heap hb (hcell i u hu)⟩⟩
theorem heap_int (k:IntKind):Heap (Kd.int k):=⟨fun _ h=>h⟩
section
variable {α:Type}{d:Kd α}{e base g n c:Nat}{ok:Nat→Prop}{w w0 W:World}{A:Option Addr}{xs:List α}
end
end Kd
end Go.Proofs.YtklebhlanidloaaGreatDoorW.PrintWords
end
section
namespace Go.Proofs.YtklebhlanidloaaGreatDoorW.PrintLast
section
def up (b:Nat→Bool)(i:Nat):Nat→Bool:=fun j=>if j=i then true else b j
theorem up_self (b:Nat→Bool)(i:Nat):up b i i=true:=by simp [up]
theorem up_ne {b:Nat→Bool}{i j:Nat}(h:j≠i):up b i j=b j:=by simp [up,h]
def lof (n:Nat)(O:List Nat)(b:Nat→Bool):List Bool:=(List.range n).map fun j=>if O.contains j then b j else true
def putSel (a:Act)(b:Nat→Bool):List (Nat×Tmp×Value)→Act
  | []=>a
  | e :: r=>putSel (if b e.1=true then a.put (some e.2.1) e.2.2 else a) b r
section
variable {P:Program}{ops:Array Oper}{Q:Exit→Act→World→Prop}{md:Region.Mode}{T:Bool×List (List Nat×List Nat)}{B:List Nat}{O:List Nat}{b:Nat→Bool}{i j n:Nat}
theorem lof_length:(lof n O b).length=n:=by simp [lof]
theorem lof_get {d:Bool}(hj:j<n):(lof n O b).getD j d=if O.contains j then b j else true:=by
 simp [lof,List.getD_eq_getElem?_getD,hj]
theorem lof_up (hi:O.contains i=true):(lof n O b).set i true=lof n O (up b i):=by
 apply List.ext_getElem?
 intro j
 by_cases hj:j<n
 ·by_cases hij:i=j
  ·subst hij
   have hl:i<(lof n O b).length:=by rw [lof_length];exact hj
   rw [List.getElem?_set_self hl]
   simp only [lof,List.getElem?_map,List.getElem?_range hj,Option.map_some,hi,if_true,up_self]
  rw [List.getElem?_set_ne hij]
  simp only [lof,List.getElem?_map,List.getElem?_range hj,Option.map_some]
  rw [up_ne (Ne.symm hij)]
 rw [List.getElem?_eq_none (by simp [lof];omega),List.getElem?_eq_none (by simp [lof];omega)]
def StepAt (P:Program)(ops:Array Oper)(Q:Exit→Act→World→Prop)(B:List Nat)(O:List Nat)(I:(Nat→Bool)→Act→World→Prop)(i:Nat):Prop:=
  ∀ b a w,I b a w→b i=false→(∀ j,(O.contains j && (B.getD i 0).testBit j)=true→b j=true)→(∀ d,(O.contains d && (B.getD d 0).testBit i)=true→b d=false) →
    ∃ oi,ops[i]?=some oi∧∀ K:Act→World→Prop,Shut (∀ a' w',I (up b i) a' w'→K a' w')→if Region.wanted oi (yielded ops a.tmps)=true then Oper.wp P oi a w K Q else K (a.put oi.dst undef) w
theorem steps_nil {I:(Nat→Bool)→Act→World→Prop}:∀ i ∈ ([]:List Nat),StepAt P ops Q B O I i:=fun _ h=>by cases h
theorem steps_cons {I:(Nat→Bool)→Act→World→Prop}{rs:List Nat}(h:StepAt P ops Q B O I i)(hs:∀ j ∈ rs,StepAt P ops Q B O I j):∀ j ∈ i :: rs,StepAt P ops Q B O I j:=fun j hj=>by
  rcases List.mem_cons.1 hj with rfl|hj
  · exact h
  · exact hs j hj
def baseOk (T:List (List Nat×List Nat))(O:List Nat):Bool:=
  (List.range T.length).all (fun d=>match T[d]? with
    | some r=>(O.contains d || r.1.all fun n=>!O.contains n) && r.1.all fun n=>decide (n<d)
    | none=>false) && O.all (fun i=>decide (i<T.length)) && decide O.Nodup
theorem baseOk_row {T:List (List Nat×List Nat)}(h:baseOk T O=true){d:Nat}{r:List Nat×List Nat}(hr:T[d]?=some r):(O.contains d=false→∀ n ∈ r.1,O.contains n=false)∧∀ n ∈ r.1,n<d:=by
 simp only [baseOk,Bool.and_eq_true] at h
 have h1:=List.all_eq_true.1 h.1.1 d (List.mem_range.2 (List.getElem?_eq_some_iff.1 hr).1)
 rw [hr] at h1
 simp only [Bool.and_eq_true,Bool.or_eq_true,List.all_eq_true,decide_eq_true_eq] at h1
 refine ⟨fun hd n hn=>?_,h1.2⟩
 rcases h1.1 with h2|h2
 · rw [hd] at h2;cases h2
 simpa using h2 n hn
theorem baseOk_lt {T:List (List Nat×List Nat)}(h:baseOk T O=true){i:Nat}(hi:i ∈ O):i<T.length:=by
 simp only [baseOk,Bool.and_eq_true] at h
 simpa using List.all_eq_true.1 h.1.2 i hi
theorem baseOk_nodup {T:List (List Nat×List Nat)}(h:baseOk T O=true):O.Nodup:=by
 simp only [baseOk,Bool.and_eq_true] at h
 exact of_decide_eq_true h.2
def Closed (T:List (List Nat×List Nat))(O:List Nat)(b:Nat→Bool):Prop:=∀ d r,T[d]?=some r→O.contains d=true→b d=true→∀ n ∈ r.1,O.contains n=true→b n=true
theorem bits_out {T:List (List Nat×List Nat)}(hw:waitsOk T B=true)(hk:baseOk T O=true):∀ (m d:Nat),d≤m→d<T.length→O.contains d=false→∀ j,(B.getD d 0).testBit j=true→O.contains j=false:=by
 intro m
 induction m with
 | zero=>
  intro d hd hl hO j hj
  have hd0:d=0:=by omega
  subst hd0
  have hr:T[0]?=some T[0]:=List.getElem?_eq_getElem hl
  have h1:=List.all_eq_true.1 hw 0 (List.mem_range.2 hl)
  rw [hr] at h1
  simp only [beq_iff_eq] at h1
  have h2:(upM B 0 T[0].1).testBit j=true:=by rw [← h1,Nat.testBit_or,hj,Bool.true_or]
  obtain ⟨n,hn,h3⟩:=upM_bit h2
  have:=(baseOk_row hk hr).2 n hn
  omega
 | succ m ih=>
  intro d hd hl hO j hj
  have hr:T[d]?=some T[d]:=List.getElem?_eq_getElem hl
  have h1:=List.all_eq_true.1 hw d (List.mem_range.2 hl)
  rw [hr] at h1
  simp only [beq_iff_eq] at h1
  have h2:(upM B d T[d].1).testBit j=true:=by rw [← h1,Nat.testBit_or,hj,Bool.true_or]
  obtain ⟨n,hn,h3⟩:=upM_bit h2
  have hO2:=(baseOk_row hk hr).1 hO n hn
  rcases h3 with rfl|⟨h4,h5⟩
  · exact hO2
  exact ih n (by omega) (by omega) hO2 j h5
theorem closed_bits {T:List (List Nat×List Nat)}(hw:waitsOk T B=true)(hk:baseOk T O=true)(hc:Closed T O b):∀ (m d:Nat),d≤m→d<T.length→O.contains d=true→b d=true→∀ j,O.contains j=true→(B.getD d 0).testBit j=true→b j=true:=by
 intro m
 induction m with
 | zero=>
  intro d hd hl hO hb j hjO hj
  have hd0:d=0:=by omega
  subst hd0
  have hr:T[0]?=some T[0]:=List.getElem?_eq_getElem hl
  have h1:=List.all_eq_true.1 hw 0 (List.mem_range.2 hl)
  rw [hr] at h1
  simp only [beq_iff_eq] at h1
  have h2:(upM B 0 T[0].1).testBit j=true:=by rw [← h1,Nat.testBit_or,hj,Bool.true_or]
  obtain ⟨n,hn,h3⟩:=upM_bit h2
  have:=(baseOk_row hk hr).2 n hn
  omega
 | succ m ih=>
  intro d hd hl hO hb j hjO hj
  have hr:T[d]?=some T[d]:=List.getElem?_eq_getElem hl
  have h1:=List.all_eq_true.1 hw d (List.mem_range.2 hl)
  rw [hr] at h1
  simp only [beq_iff_eq] at h1
  have h2:(upM B d T[d].1).testBit j=true:=by rw [← h1,Nat.testBit_or,hj,Bool.true_or]
  obtain ⟨n,hn,h3⟩:=upM_bit h2
  rcases h3 with rfl|⟨h4,h5⟩
  · exact hc d _ hr hO hb n hn hjO
  cases hO2:O.contains n with
  | true=>exact ih n (by omega) (by omega) hO2 (hc d _ hr hO hb n hn hO2) j hjO h5
  | false=>
   have:=bits_out hw hk n n (Nat.le_refl _) (by omega) hO2 j h5
   rw [hjO] at this
   cases this
theorem up_count:∀ {O:List Nat},O.Nodup→i ∈ O→b i=false→(O.filter fun j=>!up b i j).length+1=(O.filter fun j=>!b j).length
  | [],_,hi,_=>by cases hi
  | x :: r,hn,hi,hb=>by
    rw [List.nodup_cons] at hn
    rcases List.mem_cons.1 hi with rfl|hi
    · have h1:(r.filter fun j=>!up b i j)=r.filter fun j=>!b j:=by
       refine List.filter_congr (fun j hj=>?_)
       rw [up_ne (fun e=>hn.1 (by rw [← e];exact hj))]
      rw [List.filter_cons,List.filter_cons]
      simp [up_self,hb,h1]
    · have hxi:x≠i:=fun e=>hn.1 (e ▸ hi)
      have h1:=up_count hn.2 hi hb
      rw [List.filter_cons,List.filter_cons,up_ne hxi]
      cases hbx:b x
      · simp only [Bool.not_false,if_true,List.length_cons]
        omega
      · simpa using h1
theorem inv_all (hT:rtab md ops=T)(hw:waitsOk T.2 B=true)(hk:baseOk T.2 O=true)(I:(Nat→Bool)→Act→World→Prop)(hs:∀ i ∈ O,StepAt P ops Q B O I i)
    (hend:∀ b a w,(∀ j,O.contains j=true→b j=true)→I b a w→Q .normal a w) :
    ∀ (m:Nat) (b:Nat→Bool) (a:Act) (w:World),(O.filter fun j=>!b j).length=m→Closed T.2 O b→I b a w→wpAnyLast P md ops Q (fun _=>True) [] m (lof T.2.length O b).toArray a w:=by
 subst hT
 have mem_ready':∀ {b:Nat→Bool} {i:Nat},i ∈ Region.ready md ops (lof (rtab md ops).2.length O b).toArray→i<(rtab md ops).2.length∧O.contains i=true∧b i=false∧∀ r,(rtab md ops).2[i]?=some r→∀ n ∈ r.1,n<(rtab md ops).2.length→O.contains n=true→b n=true:=by
  intro b i hi
  rw [ready_eq] at hi
  unfold readyT at hi
  rw [List.mem_filter,List.mem_range] at hi
  obtain ⟨hl,h1⟩:=hi
  unfold readyAt at h1
  rw [Bool.and_eq_true,lof_get hl] at h1
  obtain ⟨h2,h3⟩:=h1
  have h4:O.contains i=true:=by
   cases h:O.contains i with
   | true=>rfl
   | false=>rw [h] at h2;simp at h2
  rw [h4] at h2
  refine ⟨hl,h4,by simpa using h2,fun r hr n hn hnl hO=>?_⟩
  rw [hr] at h3
  simp only [List.all_eq_true] at h3
  have h5:=h3 n hn
  rw [lof_get hnl,hO] at h5
  simpa using h5
 intro m
 induction m with
 | zero=>
  intro b a w hm hc hI
  have hall:∀ j,O.contains j=true→b j=true:=by
   intro j hj
   cases hb:b j with
   | true=>rfl
   | false=>
    have:j ∈ O.filter fun j=>!b j:=List.mem_filter.2 ⟨List.contains_iff_mem.1 hj,by simp [hb]⟩
    rw [List.eq_nil_of_length_eq_zero hm] at this
    cases this
  refine ⟨?_,hend b a w hall hI⟩
  refine List.eq_nil_iff_forall_not_mem.2 (fun i hi=>?_)
  obtain ⟨_,h1,h2,_⟩:=mem_ready' hi
  rw [hall i h1] at h2
  cases h2
 | succ m ih=>
  intro b a w hm hc hI
  refine ⟨fun hr=>?_,fun i hi=>?_⟩
  ·exfalso
   -- the smallest number that isn't listed is ready
   have hex:∃ i,O.contains i=true∧b i=false:=by
    cases hf:O.filter (fun j=>!b j) with
    | nil=>rw [hf] at hm;simp at hm
    | cons x r=>
     have hx:x ∈ O.filter (fun j=>!b j):=by rw [hf];exact List.mem_cons_self
     rw [List.mem_filter] at hx
     exact ⟨x,List.contains_iff_mem.2 hx.1,by simpa using hx.2⟩
   have hmin:∀ k,(∃ i,i≤k∧O.contains i=true∧b i=false)→∃ i,O.contains i=true∧b i=false∧∀ j,j<i→O.contains j=true→b j=true:=by
    intro k
    induction k with
    | zero=>
     rintro ⟨i,hi,h1,h2⟩
     exact ⟨i,h1,h2,fun j hj=>by omega⟩
    | succ k ihk=>
     rintro ⟨i,hi,h1,h2⟩
     by_cases hlow:∃ j,j≤k∧O.contains j=true∧b j=false
     · exact ihk hlow
     refine ⟨i,h1,h2,fun j hj hO=>?_⟩
     cases hb:b j with
     | true=>rfl
     | false=>exact absurd ⟨j,by omega,hO,hb⟩ hlow
   obtain ⟨i0,h1,h2⟩:=hex
   obtain ⟨i,hO,hb,hlow⟩:=hmin i0 ⟨i0,Nat.le_refl _,h1,h2⟩
   have hl:=baseOk_lt hk (List.contains_iff_mem.1 hO)
   have hin:i ∈ Region.ready md ops (lof (rtab md ops).2.length O b).toArray:=by
    rw [ready_eq]
    unfold readyT
    rw [List.mem_filter,List.mem_range]
    refine ⟨hl,?_⟩
    unfold readyAt
    rw [lof_get hl,hO,hb]
    have hr2:(rtab md ops).2[i]?=some (rtab md ops).2[i]:=List.getElem?_eq_getElem hl
    rw [hr2]
    simp only [if_true,Bool.not_false,Bool.true_and,List.all_eq_true]
    intro n hn
    have hni:=(baseOk_row hk hr2).2 n hn
    rw [lof_get (by omega)]
    cases hOn:O.contains n with
    | true=>simpa using hlow n hni hOn
    | false=>simp
   rw [hr] at hin
   cases hin
  obtain ⟨hl,hO,hb,hneed⟩:=mem_ready' hi
  have hon:∀ j,(O.contains j && (B.getD i 0).testBit j)=true→b j=true:=by
   intro j hj
   rw [Bool.and_eq_true] at hj
   have hr2:(rtab md ops).2[i]?=some (rtab md ops).2[i]:=List.getElem?_eq_getElem hl
   have h1:=List.all_eq_true.1 hw i (List.mem_range.2 hl)
   rw [hr2] at h1
   simp only [beq_iff_eq] at h1
   have h2:(upM B i (rtab md ops).2[i].1).testBit j=true:=by rw [← h1,Nat.testBit_or,hj.2,Bool.true_or]
   obtain ⟨n,hn,h3⟩:=upM_bit h2
   have hni:=(baseOk_row hk hr2).2 n hn
   rcases h3 with rfl|⟨h4,h5⟩
   · exact hneed _ hr2 n hn (by omega) hj.1
   cases hO2:O.contains n with
   | true=>exact closed_bits hw hk hc n n (Nat.le_refl _) (by omega) hO2 (hneed _ hr2 n hn (by omega) hO2) j hj.1 h5
   | false=>
    have:=bits_out hw hk n n (Nat.le_refl _) (by omega) hO2 j h5
    rw [hj.1] at this
    cases this
  have hoff:∀ d,(O.contains d && (B.getD d 0).testBit i)=true→b d=false:=by
   intro d hd
   rw [Bool.and_eq_true] at hd
   cases hbd:b d with
   | false=>rfl
   | true=>
    have hdl:=baseOk_lt hk (List.contains_iff_mem.1 hd.1)
    have:=closed_bits hw hk hc d d (Nat.le_refl _) hdl hd.1 hbd i hO hd.2
    rw [hb] at this
    cases this
  obtain ⟨oi,hoi,hK⟩:=hs i (List.contains_iff_mem.1 hO) b a w hI hb hon hoff
  refine wpOp_step hoi (fun K' hK'=>hK K' (fun a' w' hI'=>hK' a' w' ⟨fun _ _=>trivial,?_⟩))
  have hset:(lof (rtab md ops).2.length O b).toArray.setIfInBounds i true=(lof (rtab md ops).2.length O (up b i)).toArray:=by
   apply Array.ext'
   rw [Array.toList_setIfInBounds]
   exact lof_up hO
  rw [hset]
  refine ih (up b i) a' w' ?_ ?_ hI'
  ·have:=up_count (baseOk_nodup hk) (List.contains_iff_mem.1 hO) hb
   omega
  intro d r hr hOd hbd n hn hOn
  by_cases hni:n=i
  · rw [hni,up_self]
  rw [up_ne hni]
  by_cases hdi:d=i
  ·subst hdi
   exact hneed r hr n hn (by have:=(baseOk_row hk hr).2 n hn;omega) hOn
  rw [up_ne hdi] at hbd
  exact hc d r hr hOd hbd n hn hOn
theorem putSel_off {b:Nat→Bool}{t:Tmp}:∀ {L:List (Nat×Tmp×Value)}{a:Act},(L.all fun e=>!(e.2.1 == t))=true→(putSel a b L).tmps[t]?=a.tmps[t]?
  | [],_,_=>rfl
  | e :: r,a,h=>by
    rw [List.all_cons,Bool.and_eq_true] at h
    have he:e.2.1≠t:=by simpa using h.1
    unfold putSel
    by_cases hb:b e.1=true
    · rw [if_pos hb,putSel_off h.2]
      simp [Act.put,Array.getElem?_setIfInBounds_ne he]
    · rw [if_neg hb]
      exact putSel_off h.2
theorem putSel_on {b:Nat→Bool}{e:Nat×Tmp×Value}:∀ {L:List (Nat×Tmp×Value)}{a:Act}(k:Nat),L[k]?=some e→((L.drop (k+1)).all fun x=>!(x.2.1 == e.2.1))=true→b e.1=true→Nat.ble (e.2.1+1) a.tmps.size=true→(putSel a b L).tmps[e.2.1]?=some e.2.2
  | [],_,_,h,_,_,_=>by cases h
  | x :: r,a,0,h,hd,hb,ht=>by
    simp only [List.getElem?_cons_zero,Option.some.injEq] at h
    subst h
    unfold putSel
    rw [if_pos hb,putSel_off (by simpa using hd)]
    have ht2:x.2.1<a.tmps.size:=Nat.le_of_ble_eq_true ht
    simp [Act.put,ht2]
  | x :: r,a,k+1,h,hd,hb,ht=>by
    unfold putSel
    refine putSel_on k (by simpa using h) (by simpa using hd) hb ?_
    by_cases hx:b x.1=true
    · rw [if_pos hx]
      simpa [Act.put] using ht
    · rw [if_neg hx]
      exact ht
theorem put_comm {a:Act}{s t:Tmp}{u v:Value}(h:s≠t):(a.put (some s) u).put (some t) v=(a.put (some t) v).put (some s) u:=by
 simp only [Act.put]
 rw [Array.setIfInBounds_comm _ _ h]
theorem putSel_put {b:Nat→Bool}{t:Tmp}{v:Value}:∀ {L:List (Nat×Tmp×Value)}{a:Act},(L.all fun e=>!(e.2.1 == t))=true→(putSel a b L).put (some t) v=putSel (a.put (some t) v) b L
  | [],_,_=>rfl
  | e :: r,a,h=>by
    rw [List.all_cons,Bool.and_eq_true] at h
    have he:e.2.1≠t:=by simpa using h.1
    unfold putSel
    by_cases hb:b e.1=true
    · rw [if_pos hb,if_pos hb,putSel_put h.2,put_comm he]
    · rw [if_neg hb,if_neg hb]
      exact putSel_put h.2
theorem putSel_same {b:Nat→Bool}{i:Nat}:∀ {L:List (Nat×Tmp×Value)}{a:Act},(L.all fun e=>!(e.1 == i))=true→putSel a (up b i) L=putSel a b L
  | [],_,_=>rfl
  | e :: r,a,h=>by
    rw [List.all_cons,Bool.and_eq_true] at h
    have he:e.1≠i:=by simpa using h.1
    unfold putSel
    rw [up_ne he]
    exact putSel_same h.2
theorem putSel_up {b:Nat→Bool}{i:Nat}{t:Tmp}{v0 v:Value}:∀ {L1 L2:List (Nat×Tmp×Value)}{a:Act},b i=false→((L1 ++ L2).all fun e=>!(e.1 == i) && !(e.2.1 == t))=true →
    (putSel a b (L1 ++ (i,t,v0) :: L2)).put (some t) v=putSel a (up b i) (L1 ++ (i,t,v) :: L2)
  | [],L2,a,hb,h=>by
    simp only [List.nil_append] at h ⊢
    have h1:(L2.all fun e=>!(e.1 == i))=true:=List.all_eq_true.2 (fun e he=>by have:=List.all_eq_true.1 h e he;simp only [Bool.and_eq_true] at this;exact this.1)
    have h2:(L2.all fun e=>!(e.2.1 == t))=true:=List.all_eq_true.2 (fun e he=>by have:=List.all_eq_true.1 h e he;simp only [Bool.and_eq_true] at this;exact this.2)
    unfold putSel
    rw [if_neg (by rw [hb];decide),if_pos (up_self b i),putSel_put h2,putSel_same h1]
  | e :: r,L2,a,hb,h=>by
    simp only [List.cons_append,List.all_cons,Bool.and_eq_true] at h
    have he:e.1≠i:=by simpa using h.1.1
    simp only [List.cons_append]
    unfold putSel
    rw [up_ne he]
    exact putSel_up hb h.2
theorem putSel_upk {b:Nat→Bool}{i:Nat}{t:Tmp}{v0 v:Value}{a:Act}{L L':List (Nat×Tmp×Value)}(k:Nat)(hb:b i=false)(hL:L[k]?=some (i,t,v0))(hL':L.set k (i,t,v)=L')(hd:((L.take k ++ L.drop (k+1)).all fun e=>!(e.1 == i) && !(e.2.1 == t))=true) :
    (putSel a b L).put (some t) v=putSel a (up b i) L':=by
 have hk:=(List.getElem?_eq_some_iff.1 hL).1
 have h1:L=L.take k ++ (i,t,v0) :: L.drop (k+1):=by
  have h2:L[k]=(i,t,v0):=(List.getElem?_eq_some_iff.1 hL).2
  rw [← h2,List.getElem_cons_drop,List.take_append_drop]
 have h3:L'=L.take k ++ (i,t,v) :: L.drop (k+1):=by rw [← hL',List.set_eq_take_append_cons_drop,if_pos hk]
 rw [h3]
 conv=>lhs;rw [h1]
 exact putSel_up hb hd
theorem inv_ {l:Array Bool}{fuel:Nat}{a:Act}{w:World}(O:List Nat)(I:(Nat→Bool)→Act→World→Prop)(hT:rtab md ops=T)(hw:waitsOk T.2 B=true)(hk:baseOk T.2 O=true)
    (hl:(lof T.2.length O (fun _=>false) == l.toList && O.length == fuel)=true) (h0:I (fun _=>false) a w) (hs:∀ i ∈ O,StepAt P ops Q B O I i)
    (hend:∀ b a w,(∀ j,O.contains j=true→b j=true)→I b a w→Q .normal a w):wpAnyLast P md ops Q (fun _=>True) [] fuel l a w:=by
 rw [Bool.and_eq_true,beq_iff_eq,beq_iff_eq] at hl
 have h1:=inv_all hT hw hk I hs hend fuel (fun _=>false) a w (by rw [← hl.2];simp) (fun d r _ _ hb=>by cases hb) h0
 have h2:(lof T.2.length O (fun _=>false)).toArray=l:=by apply Array.ext';exact hl.1
 rw [h2] at h1
 exact h1
theorem inv_at {l:Array Bool}{fuel:Nat}{a:Act}{w:World}(O:List Nat)(I:Act→(Nat→Bool)→Act→World→Prop)(hT:rtab md ops=T)(hw:waitsOk T.2 B=true)(hk:baseOk T.2 O=true)
    (hl:(lof T.2.length O (fun _=>false) == l.toList && O.length == fuel)=true) (h0:I a (fun _=>false) a w) (hs:∀ i ∈ O,StepAt P ops Q B O (I a) i)
    (hend:∀ b a' w,(∀ j,O.contains j=true→b j=true)→I a b a' w→Q .normal a' w):wpAnyLast P md ops Q (fun _=>True) [] fuel l a w:=inv_ O (I a) hT hw hk hl h0 hs hend
end
end
end Go.Proofs.YtklebhlanidloaaGreatDoorW.PrintLast
end
section
set_option maxRecDepth 100000
namespace Go.Proofs.YtklebhlanidloaaGreatDoor.PZ
open Go.RowKit Go.Proofs.YtklebhlanidloaaGreatDoorW.PrintWords Go.Proofs.YtklebhlanidloaaGreatDoorW.PrintLast
section
def upd (b:Nat→Bool)(i:Nat):Nat→Bool:=fun j=>if j=i then true else b j
theorem upd_same (b:Nat→Bool)(i:Nat):upd b i i=true:=by simp [upd]
theorem upd_ne (b:Nat→Bool){i j:Nat}(h:j≠i):upd b i j=b j:=by simp [upd,h]
def AllAt (p:Nat→Oper→Prop):Nat→List Oper→Prop
  | _,[]=>True
  | k,o :: l=>p k o∧AllAt p (k+1) l
theorem AllAt.at {p:Nat→Oper→Prop}:∀ {l:List Oper}{k:Nat},AllAt p k l→∀ i o,l[i]?=some o→p (k+i) o
  | [],_,_,i,o,h=>by simp at h
  | x :: l, k, hA, 0, o, h => by obtain rfl : x = o := by simpa using h
                                 exact hA.1
  | x :: l,k,hA,i+1,o,h=>by
    have:=AllAt.at hA.2 i o (by simpa using h)
    rwa [show k+1+i=k+(i+1) by omega] at this
def onB (l:Array Bool):Nat→Bool:=fun j=>l.getD j false
theorem onB_set (l:Array Bool)(i:Nat)(h:i<l.size):onB (l.setIfInBounds i true)=upd (onB l) i:=by
 funext j
 unfold onB upd
 by_cases e:j=i
 · subst e;simp [Array.getD_eq_getD_getElem?,h]
 simp [Array.getD_eq_getD_getElem?,Array.getElem?_setIfInBounds,e,show ¬ i=j from fun z=>e z.symm]
def leftN (n:Nat)(b:Nat→Bool):Nat:=((List.range n).filter fun j=>!b j).length
theorem leftN_upd (n:Nat)(b:Nat→Bool)(i:Nat)(hi:i<n)(h:b i=false):leftN n (upd b i)+1=leftN n b:=by
 unfold leftN
 induction n with
 | zero=>omega
 | succ n ih=>
  rw [List.range_succ,List.filter_append,List.filter_append,List.length_append,List.length_append]
  by_cases e:i=n
  ·subst e
   have e1:(List.range i).filter (fun j=>!upd b i j)=(List.range i).filter fun j=>!b j:=by
    apply List.filter_congr
    intro j hj
    rw [upd_ne b (by have:=List.mem_range.1 hj;omega)]
   rw [e1]
   simp [upd_same,h]
  have:=ih (by omega)
  have e1:([n].filter fun j=>!upd b i j)=[n].filter fun j=>!b j:=by
   apply List.filter_congr
   intro j hj
   have:j=n:=by simpa using hj
   rw [upd_ne b (by omega)]
  rw [e1]
  omega
section
variable {P:Program}{md:Region.Mode}{l:List Oper}{Q:Exit→Act→World→Prop}
def lowB (md:Region.Mode)(ops:Array Oper):Bool:=(rtab md ops).2.zipIdx.all fun r=>r.1.1.all fun n=>n<r.2
theorem lowB_spec {ops:Array Oper}(h:lowB md ops=true){i:Nat}{o:Oper}(hi:ops[i]?=some o)(e:Edge)(he:e ∈ o.after)(hb:Region.binds md e=true):e.on<i:=by
 unfold lowB at h
 rw [List.all_eq_true] at h
 have h1:=h ((needsOf md o,clashOf md ops i o),i) (by rw [List.mem_zipIdx_iff_getElem?];exact rtab_some hi)
 rw [List.all_eq_true] at h1
 have h2:=h1 e.on (by
  unfold needsOf
  rw [List.mem_map]
  exact ⟨e,by rw [List.mem_filter];exact ⟨by simpa using he,hb⟩,rfl⟩)
 simpa using h2
def StepAt (P:Program)(md:Region.Mode)(ops:Array Oper)(Q:Exit→Act→World→Prop)(I:(Nat→Bool)→Act→World→Prop)(i:Nat)(o:Oper):Prop:=
  o.guard=none∧∀ b a w,b i=false→(∀ n ∈ needsOf md o,b n=true)→I b a w→o.wp P a w (fun a' w'=>I (upd b i) a' w') Q
theorem wpAny_inv (I:(Nat→Bool)→Act→World→Prop)(hlow:lowB md l.toArray=true)(hstep:AllAt (StepAt P md l.toArray Q I) 0 l)
    (hend:∀ b a w,(∀ j,j<l.length→b j=true)→I b a w→Q .normal a w) :
    ∀ (fuel:Nat) (li:Array Bool) (a:Act) (w:World),li.size=l.length→leftN l.length (onB li)≤fuel→I (onB li) a w→wpAny P md l.toArray Q fuel li a w:=by
 have hdone:∀ (li:Array Bool),li.size=l.length→Region.ready md l.toArray li=[]→∀ j,j<l.length→onB li j=true:=by
  intro li hsz hr j
  induction j using Nat.strongRecOn with
  | ind j ih=>
   intro hj
   cases hb:onB li j with
   | true=>rfl
   | false=>
    exfalso
    have ho:l.toArray[j]?=some l[j]:=by simp [hj]
    have:j ∈ Region.ready md l.toArray li:=by
     rw [mem_ready]
     refine ⟨?_,l[j],ho,fun e he hbi=>?_⟩
     ·unfold onB at hb
      simp [Array.getD_eq_getD_getElem?,hsz,hj] at hb ⊢
      exact hb
     have:=lowB_spec hlow ho e he hbi
     exact ih e.on this (by omega)
    rw [hr] at this
    cases this
 have hact:∀ (li:Array Bool) (a:Act) (w:World) (i:Nat),li.size=l.length→I (onB li) a w→i ∈ Region.ready md l.toArray li →
    i<l.length∧onB li i=false∧wpOp P l.toArray Q i (fun a' w'=>I (upd (onB li) i) a' w') a w:=by
  intro li a w i hsz hI hi
  obtain ⟨h0,o,ho,hn⟩:=mem_ready.1 hi
  have hlt:i<l.length:=by
    have:=(Array.getElem?_eq_some_iff.1 ho).1
    simpa using this
  have hb:onB li i=false:=by
    unfold onB
    simp [Array.getD_eq_getD_getElem?,hsz,hlt] at h0 ⊢
    exact h0
  refine ⟨hlt,hb,?_⟩
  obtain ⟨hg,hs⟩:=AllAt.at hstep i o (by simpa using ho)
  rw [Nat.zero_add] at hs
  unfold wpOp
  rw [ho]
  have hw:Region.wanted o (yielded l.toArray a.tmps)=true:=by simp [Region.wanted,hg]
  simp only [hw,if_true]
  refine .inl (hs _ a w hb (fun n hn'=>?_) hI)
  unfold needsOf at hn'
  rw [List.mem_map] at hn'
  obtain ⟨e,he,rfl⟩:=hn'
  rw [List.mem_filter] at he
  exact hn e (by simpa using he.1) he.2
 intro fuel
 induction fuel with
 | zero=>
  intro li a w hsz hf hI
  have hr:Region.ready md l.toArray li=[]:=by
   apply List.eq_nil_iff_forall_not_mem.2
   intro i hi
   obtain ⟨h1,h2,_⟩:=hact li a w i hsz hI hi
   have:=leftN_upd l.length (onB li) i h1 h2
   omega
  exact ⟨hr,hend _ a w (hdone li hsz hr) hI⟩
 | succ fuel ih=>
  intro li a w hsz hf hI
  refine ⟨fun hr=>hend _ a w (hdone li hsz hr) hI,fun i hi=>?_⟩
  obtain ⟨h1,h2,h3⟩:=hact li a w i hsz hI hi
  refine wpOp_mono (fun a' w' hI'=>?_) h3
  refine ih _ a' w' (by simpa using hsz) ?_ ?_
  ·rw [onB_set _ _ (by omega)]
   have:=leftN_upd l.length (onB li) i h1 h2
   omega
  rw [onB_set _ _ (by omega)]
  exact hI'
theorem wp_region_inv {id:Nat}{a:Act}{w:World}(I:(Nat→Bool)→Act→World→Prop)(hm:P.follows .mixedOrders=true)(hlow:lowB .any l.toArray=true)
    (hI:I (fun _=>false) a { w with drawn:=w.drawn+1 }) (hstep:AllAt (StepAt P .any l.toArray Q I) 0 l) (hend:∀ b a w,(∀ j,j<l.length→b j=true)→I b a w→Q .normal a w):(Code.region id l.toArray true).wp P Q a w:=by
 refine wp_region_any hm (wpAny_inv I hlow hstep hend _ _ _ _ (by simp) ?_ ?_)
 ·unfold leftN
  have:=List.length_filter_le (fun j=>!onB (Array.replicate l.toArray.size false) j) (List.range l.length)
  simpa using this
 have:onB (Array.replicate l.toArray.size false)=fun _=>false:=by
  funext j
  unfold onB
  simp only [Array.getD_eq_getD_getElem?,Array.getElem?_replicate]
  split <;> rfl
 rw [this]
 exact hI
end
end
end Go.Proofs.YtklebhlanidloaaGreatDoor.PZ
end
section
namespace Go.Proofs.YtklebhlanidloaaGreatDoorW.PrintWords
open Go.RowKit
section
def Kept (w W:World)(S:Nat→Prop):Prop:=w.heap.size≤W.heap.size∧∀ i,i<w.heap.size→¬ S i→W.heap[i]?=w.heap[i]?
section
variable {w W W2:World}{S S2 S':Nat→Prop}
theorem Kept.refl (w:World)(S:Nat→Prop):Kept w w S:=⟨Nat.le_refl _,fun _ _ _=>rfl⟩
theorem Kept.of_below (h:Below w.heap.size w W)(S:Nat→Prop):Kept w W S:=⟨h.size,fun i hi _=>h.block i hi⟩
theorem Kept.mono (h:Kept w W S)(hs:∀ k,S k→S' k):Kept w W S':=⟨h.1,fun i hi hn=>h.2 i hi (fun hk=>hn (hs i hk))⟩
theorem Kept.then_ (h:Kept w W S)(k:Kept W W2 S2)(hs:∀ k,S2 k→S k∨w.heap.size≤k):Kept w W2 S:=
  ⟨Nat.le_trans h.1 k.1,fun i hi hn=>(k.2 i (Nat.lt_of_lt_of_le hi h.1) (fun h2=>(hs i h2).elim hn (fun h3=>by omega))).trans (h.2 i hi hn)⟩
theorem Kept.of_grown {row:Option Nat}(hg:W.grownBy W2 row)(h:Kept w W S)(hr:∀ k,row=some k→S k∨w.heap.size≤k):Kept w W2 S:=
  h.then_ (S2:=fun k=>row=some k) ⟨hg.size,fun i hi hn=>hg.block i hi (fun he=>hn he.symm)⟩ hr
theorem Kept.below (h:Kept w W S)(hb:Below W.heap.size W W2):Kept w W2 S:=h.then_ (Kept.of_below hb (fun _=>False)) (fun _ hk=>hk.elim)
theorem Kept.alloc (h:Kept w W S)(o:Obj):Kept w (W.alloc o) S:=h.below (below_alloc (Below.refl _ _) o)
theorem Kept.drew (h:Kept w W S):Kept w W.drew S:=h
theorem Kept.drewN (h:Kept w W S)(m:Nat):Kept w (W.drewN m) S:=h
theorem Kept.setCell (h:Kept w W S){p:Addr}(hp:S p.block∨w.heap.size≤p.block)(u:Value):Kept w (W.setCell p u) S:=
  h.then_ (S2:=fun k=>k=p.block) ⟨by simp [World.setCell],fun i _ hn=>Below.heap_setCell W p u i hn⟩ (fun k hk=>by rw [hk];exact hp)
theorem Kept.keep {g:Nat}(h:KeepBut w W g none)(k:Kept W W2 S2)(hs:∀ k,S2 k→w.heap.size≤k):KeepBut w W2 g none:=
  ⟨Nat.le_trans h.1 k.1,fun i hi hg hr=>(k.2 i (Nat.lt_of_lt_of_le hi h.1) (fun h2=>by have:=hs i h2;omega)).trans (h.2 i hi hg hr)⟩
end
namespace Kd
section
variable {α:Type}{d:Kd α}{e base n c:Nat}{ok oki S S2:Nat→Prop}{w w0 W W1 W2:World}{v:Value}{A:Option Addr}{xs:List α}{i:Int}{cs:List Value}
end
end Kd
end
end Go.Proofs.YtklebhlanidloaaGreatDoorW.PrintWords
end
