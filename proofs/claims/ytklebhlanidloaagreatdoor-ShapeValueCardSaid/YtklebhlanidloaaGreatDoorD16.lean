/- Texts of this seat, joined. Conditions: none beyond each statement's own. -/
import Derived.Test.YtklebhlanidloaaGreatDoorD10
import Derived.Test.YtklebhlanidloaaGreatDoorD15
import Derived.Deep.Upon
import Derived.Deep.AppendSrc
import Derived.Deep.MidRow
import Derived.Lib.JoinLaws
import Derived.Test.YtklebhlanidloaaGreatDoorD14
set_option linter.all false
section
set_option maxRecDepth 100000
namespace Go.Proofs.YtklebhlanidloaaGreatDoor.PZ
open Go.RowKit Go.Proofs.YtklebhlanidloaaGreatDoorW.PrintWords Go.Proofs.YtklebhlanidloaaGreatDoorW.PrintLast
def RowS (W:World)(base:Nat)(v:Value)(l:List Int):Prop:=∃ g cap,v = .slice (some ⟨g,0,none⟩) l.length cap∧base≤g∧g<W.heap.size∧l.length≤cap∧cap≤9223372036854775807∧(∀ j,j<l.length→W.cell? ⟨g,j,none⟩=some (.int .u8 (rd l j)))∧∀ j,j<cap→(W.cell? ⟨g,j,none⟩).isSome=true∧W.frozen? ⟨g,j,none⟩=false
theorem cell_of_blk {W W':World}{g:Nat}(h:W'.heap[g]?=W.heap[g]?)(j:Nat):W'.cell? ⟨g,j,none⟩=W.cell? ⟨g,j,none⟩∧W'.frozen? ⟨g,j,none⟩=W.frozen? ⟨g,j,none⟩:=by
 constructor
 · simp only [World.cell?,h]
 simp only [World.frozen?,h]
theorem RowS.below {W W':World}{base:Nat}{v:Value}{l:List Int}(h:RowS W base v l)(hb:Below W.heap.size W W'):RowS W' base v l:=by
 obtain ⟨g,cap,e,h1,h2,h3,h4,h5,h6⟩:=h
 have hg:=hb.block g h2
 exact ⟨g,cap,e,h1,Nat.lt_of_lt_of_le h2 hb.size,h3,h4,fun j hj=>by rw [(cell_of_blk hg j).1];exact h5 j hj,fun j hj=>by rw [(cell_of_blk hg j).1,(cell_of_blk hg j).2];exact h6 j hj⟩
theorem RowS.keep {W W':World}{base:Nat}{v:Value}{l:List Int}(h:RowS W base v l)(hs:W.heap.size≤W'.heap.size)(hb:∀ g,v.ownBlock=some g→W'.heap[g]?=W.heap[g]?):RowS W' base v l:=by
 obtain ⟨g,cap,e,h1,h2,h3,h4,h5,h6⟩:=h
 have hg:=hb g (by rw [e];rfl)
 exact ⟨g,cap,e,h1,Nat.lt_of_lt_of_le h2 hs,h3,h4,fun j hj=>by rw [(cell_of_blk hg j).1];exact h5 j hj,fun j hj=>by rw [(cell_of_blk hg j).1,(cell_of_blk hg j).2];exact h6 j hj⟩
theorem RowS.F {W:World}{base:Nat}{v:Value}{l:List Int}(h:RowS W base v l):∃ A cap,v = .slice A l.length cap∧l.length≤cap∧Kd.F (Kd.int .u8) W (fun k=>base≤k) A l.length l:=by
 obtain ⟨g,cap,rfl,h1,h2,h3,h4,h5,h6⟩:=h
 refine ⟨_,cap,rfl,h3,fun W' hW=>?_⟩
 refine Kd.C_of_reads (d:=(0:Int)) (h1:=fun _=>rfl) ⟨rfl,by omega,fun _=>⟨_,rfl,fun j hj=>?_⟩⟩
 rw [add_plain,(cell_of_blk (hW g h1 h2) j).1,h5 j hj]
 simp [rd,List.getD_eq_getElem?_getD,List.getElem?_eq_getElem hj]
theorem RowS.make (W:World)(m:Nat)(hm:m≤9223372036854775807)(base:Nat)(hb:base≤W.heap.size):RowS (W.alloc (.cells (List.replicate m (Value.int .u8 0)).toArray 5)) base (.slice (some ⟨W.heap.size,0,none⟩) m m) (List.replicate m 0):=by
 have hn:=heap_alloc_new W (.cells (List.replicate m (Value.int .u8 0)).toArray 5)
 have hc:∀ j,j<m→(W.alloc (.cells (List.replicate m (Value.int .u8 0)).toArray 5)).cell? ⟨W.heap.size,j,none⟩=some (.int .u8 0):=fun j hj=>by
  rw [cell_of_row _ _ _ _ _ _ hn]
  simp [hj]
 refine ⟨W.heap.size,m,by simp,hb,by simp,by simp,hm,fun j hj=>?_,fun j hj=>⟨by rw [hc j hj];rfl,?_⟩⟩
 · rw [hc j (by simpa using hj),rd_zeros]
 unfold World.frozen?
 simp only [hn]
 simp
theorem src_of_C (W:World)(A:Option Addr)(zs:List Int)(c:Nat)(hC:Kd.C (Kd.int .u8) W A zs.length zs):Src Tryz.prog 1 27 (.slice A zs.length c) zs.length (zs.map (Value.int .u8)) W:=by
 cases A with
 | none=>
  have:zs=[]:=by
   cases zs with
   | nil=>rfl
   | cons x l=>obtain ⟨ad,he,_⟩:=Kd.at_int hC 0 (by omega) (by simp);cases he
  subst this
  exact ⟨.inl ⟨_,Tryz.underlying27⟩,fun _=>rfl,run_firstCells_none _ _ _ _ _,run_firstCells_none _ _ _ _ _,rfl,by simp⟩
 | some a=>
  refine Src.ofSlice W Tryz.underlying27 a zs.length c _ (by simp) (fun j u hu=>?_) (fun u hu=>?_)
  ·have hj:j<zs.length:=by have:=(List.getElem?_eq_some_iff.1 hu).1;simpa using this
   obtain ⟨ad,he,hcell⟩:=Kd.at_int hC (j:Int) (by omega) (by omega)
   cases he
   simp only [Int.toNat_natCast] at hcell
   rw [hcell]
   rw [List.getElem?_map,List.getElem?_eq_getElem hj] at hu
   simp [rd,List.getD_eq_getElem?_getD,List.getElem?_eq_getElem hj]
   simpa using hu
  obtain ⟨x,_,rfl⟩:=List.mem_map.1 hu
  rfl
theorem size_sets (g:Nat):∀ (vs:List Value)(o:Nat)(W:World),(W.setCells g o vs).heap.size=W.heap.size
  | [],_,_=>rfl
  | v :: r,o,W=>(size_sets g r (o+1) _).trans (by simp)
theorem append_rows (W:World)(base:Nat)(v:Value)(l:List Int)(h:RowS W base v l)(A:Option Addr)(zs:List Int)(c:Nat)(hC:Kd.C (Kd.int .u8) W A zs.length zs)(hlen:l.length+zs.length≤140737488355328)(hbase:base≤W.heap.size)(ty:TypeId) :
    ∃ v' W',(Builtin.append_ #[27,27] ty #[v,.slice A zs.length c]).run Tryz.prog W = .ok v' W'∧RowS W' base v' (l ++ zs)∧Below base W W':=by
 obtain ⟨i,hi,hz,hsz,hby⟩:=info_parts zerosByteInfo
 obtain ⟨g,cap,rfl,h1,h2,h3,h4,h5,h6⟩:=h
 have hsrc:Src Tryz.prog i.size 27 (.slice A zs.length c) zs.length (zs.map (Value.int .u8)) W:=by rw [hsz];exact src_of_C W A zs c hC
 by_cases h0:zs.length=0
 ·obtain rfl:zs=[]:=List.eq_nil_of_length_eq_zero h0
  refine ⟨_,W,run_append_nothing W _ _ ty _ i Tryz.underlying27 hi _ _ _ h3 _ hsrc,?_,Below.refl _ _⟩
  rw [List.append_nil]
  exact ⟨g,cap,rfl,h1,h2,h3,h4,h5,h6⟩
 by_cases hroom:l.length+zs.length≤cap
 ·refine ⟨_,_,run_append_room_src W _ _ ty _ i Tryz.underlying27 hi g 0 l.length cap _ _ _ hsrc hroom (fun j hj=>?_) (fun j hj=>?_),?_,below_sets h1 _ _ _ (Below.refl _ _)⟩
  · rw [hsz];simp at hj;exact (h6 _ (by omega)).1
  · rw [hsz];simp at hj;exact (h6 _ (by omega)).2
  rw [hsz,Nat.mul_one,Nat.zero_add]
  have hin:∀ j,j<(zs.map (Value.int .u8)).length→(W.cell? ⟨g,l.length+j,none⟩).isSome=true:=fun j hj=>(h6 _ (by simp at hj;omega)).1
  refine ⟨g,cap,by simp,h1,by rw [size_sets];exact h2,by simpa using hroom,h4,fun j hj=>?_,fun j hj=>⟨?_,?_⟩⟩
  ·rw [List.length_append] at hj
   by_cases hjl:j<l.length
   · rw [World.cell?_setCells_out g _ _ _ _ (fun _ _=>by show j<l.length∨_;omega),h5 j hjl,rd_append_left _ _ _ hjl]
   have hq:=World.cell?_setCells_in g (zs.map (Value.int .u8)) l.length W hin (j - l.length) (by simp;omega)
   rw [show l.length+(j - l.length)=j by omega] at hq
   rw [hq,rd_append_right _ _ _ (by omega)]
   simp [rd,List.getD_eq_getElem?_getD,List.getElem?_eq_getElem (show j - l.length<zs.length by omega)]
  · exact World.isSome_setCells g _ _ _ _ (h6 j hj).1
  rw [World.frozen?_setCells];exact (h6 j hj).2
 have hold:(Builtin.firstCells i.size l.length (.slice (some ⟨g,0,none⟩) l.length cap)).run Tryz.prog W.drew = .ok ((l.map (Value.int .u8)).toArray) W.drew:=by
  refine run_firstCells_some W.drew i.size l.length ⟨g,0,none⟩ l.length cap _ (by rw [hsz,List.length_map,Nat.mul_one]) ?_
  intro j u hu
  have hj:j<l.length:=by have:=(List.getElem?_eq_some_iff.1 hu).1;simpa using this
  rw [add_plain,World.cell?_drew,h5 j hj]
  rw [List.getElem?_map,List.getElem?_eq_getElem hj] at hu
  simp [rd,List.getD_eq_getElem?_getD,List.getElem?_eq_getElem hj]
  simpa using hu
 have hrun:=run_append_grow_src W 27 27 ty 5 i _ Tryz.underlying27 hi hz (some ⟨g,0,none⟩) l.length cap (l.map (Value.int .u8)) hold _ zs.length _ hsrc (by omega) (by omega) (by rw [hby];exact growslice_fits (by omega) (by omega))
 have hG:=grownCap_ge W (l.length+zs.length) cap 5
 have hG2:=grownCap_le_maxLen W (l.length+zs.length) cap 5 (by unfold maxLen;omega)
 unfold maxLen at hG2
 generalize grownCap W (l.length+zs.length) cap 5=G at *
 rw [zero_cells] at hrun
 refine ⟨_,_,hrun,?_,(below_drew (Below.refl _ _)).alloc (by simpa using hbase) _⟩
 ·have hn:=heap_alloc_new W.drew (.cells ((l.map (Value.int .u8) ++ zs.map (Value.int .u8)).toArray ++ (List.replicate (G - (l.length+zs.length)) (Value.int .u8 0)).toArray) 5)
  rw [World.size_drew] at hn
  have hc:∀ j,(W.drew.alloc (.cells ((l.map (Value.int .u8) ++ zs.map (Value.int .u8)).toArray ++ (List.replicate (G - (l.length+zs.length)) (Value.int .u8 0)).toArray) 5)).cell? ⟨W.heap.size,j,none⟩=((l ++ zs).map (Value.int .u8) ++ List.replicate (G - (l.length+zs.length)) (Value.int .u8 0))[j]?:=fun j=>by
   rw [cell_of_row _ _ _ _ _ _ hn,← Array.getElem?_toList,Array.toList_append,List.toList_toArray,List.toList_toArray,List.map_append]
  refine ⟨W.heap.size,G,by simp,hbase,by simp,by simpa using hG,hG2,fun j hj=>?_,fun j hj=>⟨?_,?_⟩⟩
  ·rw [hc,List.getElem?_append_left (by simpa using hj)]
   simp only [List.getElem?_map,List.getElem?_eq_getElem hj]
   simp [rd,List.getD_eq_getElem?_getD,List.getElem?_eq_getElem hj]
  · rw [hc,List.getElem?_eq_getElem (by simp;omega)];rfl
  unfold World.frozen?
  simp only [hn]
  simp
def Spare (g cap:Nat)(W:World):Prop:=∀ j,j<cap→(W.cell? ⟨g,j,none⟩).isSome=true∧W.frozen? ⟨g,j,none⟩=false
theorem Spare.put {g cap:Nat}{W:World}(h:Spare g cap W)(k:Nat)(u:Value):Spare g cap (W.setCell ⟨g,k,none⟩ u):=fun j hj=>
  ⟨World.isSome_setCells g [u] k W _ (h j hj).1,by rw [World.frozen?_setCell];exact (h j hj).2⟩
theorem Spare.start (W:World)(s:ByteArray):Spare W.heap.size (grownCap W s.size 0 5) (Lib.bytesWorld W 5 s):=by
 intro j hj
 have hge:=grownCap_ge W s.size 0 5
 have h1:=Lib.bytesWorld_at_new W 5 s
 have hsz:(Lib.bytesCells W 5 s).size=grownCap W s.size 0 5:=by
  unfold Lib.bytesCells
  have e:s.data.size=s.size:=rfl
  simp
  omega
 constructor
 · rw [cell_of_row _ _ _ _ _ _ h1,Array.getElem?_eq_getElem (by omega)];rfl
 unfold World.frozen?
 simp only [h1]
 simp
 omega
set_option maxHeartbeats 1000000 in
theorem figures_row (a0:Int)(r:List Int)(w:World)(hG:GL w)(h:round_figures.f a0=some r) :
    Calls Tryz.prog 119 #[.int .i64 a0] w fun e w'=>∃ v0_:Value,e = .returned (v0_)∧RowS w' w.heap.size v0_ r∧Below w.heap.size w w':=by
 unfold round_figures.f at h
 by_cases hb : -9223372036854775808≤a0∧a0≤9223372036854775807
 rotate_left
 ·rw [if_neg hb] at h
  cases h
 rw [if_pos hb] at h
 obtain rfl:=zE h
 clear h
 have hsz:=numText_size a0 hb.1 hb.2
 have hIt:=strconv_Itoa.calls a0 (numText a0) w hG (by unfold strconv_Itoa.f numText;rw [if_pos hb])
 have hlen:(bytesOf (numText a0)).length=(numText a0).size:=bytesOf_length _
 clear hb hG
 generalize numText a0=s at *
 have kc:=fun (W:World)=>print_bytes (P:=Tryz.prog) 9 27 5 Tryz.underlying9 Tryz.underlying27 Tryz.underlying5 s W
 have HSZ:=zA hsz
 have HLEN:=zA hlen
 clear hsz hlen
 go_enter Tryz.func119,Tryz.ntmps119
 go_wp2_with (go_at_call 76;refine hIt.mono ?_;rintro e w1 ⟨rfl,hb1⟩;have HB1:=zA hb1;clear hb1)
 have H0:=zA (MixSt.start w1 s)
 have S0:=zA (Spare.start w1 s)
 have HB2:=zA (bytes_below HB1.out HB1.out.size 5 s)
 go_loopg [4,10] s.size (fun gg _ s12 wr=>∃ k:Nat,k≤s.size∧s.size - k≤gg∧s12 = .int .i64 k∧Aside0 (MixSt w1.heap.size (bytesOf s) k wr∧Spare w1.heap.size (grownCap w1 s.size 0 5) wr)∧Aside0 (Below w.heap.size w wr))
 case atStart=>exact ⟨0,Nat.zero_le _,by omega,rfl,⟨H0.out,S0.out⟩,HB2⟩
 case round=>
  obtain ⟨k,hk,hg,rfl,HM,HB⟩:=hrel
  have hs21:=HSZ.out
  by_cases hlt:k<s.size
  ·have hlt1:=zC hlt
   obtain ⟨hcell,hfz⟩:=HM.out.1.2 k (by rw [HLEN.out];exact hlt)
   rw [if_neg (Nat.lt_irrefl k)] at hcell
   have HP:=zA (And.intro (HM.out.1.put (by rw [HLEN.out];exact hlt)) (HM.out.2.put k (.int .u8 (lessB (rd (bytesOf s) k)))))
   generalize hy:rd (bytesOf s) (k:Int)=y at hcell HP
   clear hy
   go_wp2
   go_roundg (s.size - (k+1))
   case measure=>omega
   case rel=>exact ⟨k+1,by omega,by omega,by go_num,HP,⟨Below.setCell HB.out HB1.out.size _⟩⟩
  have:k=s.size:=by omega
  subst this
  have hlt1:=zD hlt
  go_wp2
  go_ret
  obtain ⟨hd,hs⟩:=HM.out
  have hge:=grownCap_ge w1 s.size 0 5
  have hle:=grownCap_le_maxLen w1 s.size 0 5 (by unfold maxLen;omega)
  unfold maxLen at hle
  have hl2:=HLEN.out
  refine ⟨_,rfl,⟨w1.heap.size,grownCap w1 s.size 0 5,by rw [List.length_map,hl2];rfl,HB1.out.size,hd.1,by rw [List.length_map,hl2];exact hge,by omega,fun j hj=>?_,hs⟩,HB.out⟩
  rw [List.length_map] at hj
  rw [(hd.2 j hj).1,if_pos (by omega)]
  simp [rd,List.getD_eq_getElem?_getD,List.getElem?_eq_getElem hj]
section
def PS.cs (s:PS)(v:V4):Array Value:=#[.slice v.v0.a v.v0.n v.v0.c,.slice v.v1.a v.v1.n v.v1.c,.slice v.v2.a v.v2.n v.v2.c,.slice v.v3.a v.v3.n v.v3.c,.bool s.neg,.int .i64 s.hash,.int .i64 s.minInt,.int .i64 s.minFrac,.int .i64 s.maxFrac,.int .i64 s.g1,.int .i64 s.g2,.int .i64 s.minSig,.int .i64 s.maxSig,.int .i64 s.exp,.bool s.plus,.int .i32 s.pad,.int .i64 s.padAt]
theorem PS.val_eq (s:PS)(v:V4):s.val v = .agg (s.cs v):=rfl
theorem pat_info:(Tryz.prog.info? 26).map (·.size)=some 17:=by kernel_rfl
theorem pat_row:∃ d,Tryz.prog.underlying 26=some d∧d.isRow=true:=⟨_,Tryz.underlying26,rfl⟩
theorem PS.one (s:PS)(v:V4):(s.cs v).all (·.oneCell')=true:=by simp [PS.cs,Value.oneCell']
theorem len_sets (g:Nat):∀ (vs:List Value)(o:Nat)(W:World),(W.setCells g o vs).heap.size=W.heap.size
  | [],_,_=>rfl
  | v :: r,o,W=>(len_sets g r (o+1) _).trans (by simp)
def PBox (g:Nat)(s:PS)(v:V4)(W:World):Prop:=W.heap[g]?=some (.cells (s.cs v) 26 (0,0))
theorem keep_sets (g:Nat):∀ (vs:List Value)(o:Nat)(W:World)(i:Nat),i≠g→(W.setCells g o vs).heap[i]?=W.heap[i]?
  | [],_,_,_,_=>rfl
  | v :: r,o,W,i,h=>(keep_sets g r (o+1) _ i h).trans (Below.heap_setCell W ⟨g,o,none⟩ v i h)
structure But (g:Nat)(W W1:World):Prop where
  keep:∀ i,i≠g→W1.heap[i]?=W.heap[i]?
  size:W1.heap.size=W.heap.size
  below:∀ B w,Below B w W→B≤g→Below B w W1
theorem PBox.lt {g:Nat}{s:PS}{v:V4}{W:World}(h:PBox g s v W):g<W.heap.size:=(Array.getElem?_eq_some_iff.1 h).1
theorem PBox.below {g:Nat}{s:PS}{v:V4}{W W1:World}(h:PBox g s v W)(hb:Below W.heap.size W W1):PBox g s v W1:=blk_below h hb
theorem PBox.but {g g':Nat}{s:PS}{v:V4}{W W1:World}(h:PBox g s v W)(hb:But g' W W1)(hne:g≠g'):PBox g s v W1:=(hb.keep g hne).trans h
section
variable {ops:Array Oper}{rest:List Oper}{o:Oper}{a:Act}{W:World}{Q:Exit→Act→World→Prop}
theorem pat_box {x:Operand}{N:Tmp}(hg:o.guard=none)(hN:o.dst=some N)(ho:o.op = .box 26 x)(s:PS)(v:V4)(hx:a.eval x=s.val v)
    (h:∀ g W1,g=W.heap.size→PBox g s v W1→Below W.heap.size W W1→wpList Tryz.prog ops Q rest (a.put (some N) (.pointer (some ⟨g,0,none⟩))) W1):wpList Tryz.prog ops Q (o :: rest) a W:=by
 refine box_event hg hN (cs:=s.cs v) (t:=26) ?_ (fun g hg W1 hb hB=>by rw [hN];exact h g W1 hg hb hB)
 unfold execOp
 simp only [ho,hx,PS.val_eq]
 rfl
theorem pat_alloc {N:Tmp}(hg:o.guard=none)(hN:o.dst=some N)(ho:o.op = .alloc 26)
    (h:∀ g W1,g=W.heap.size→PBox g PS.zero V4.nil W1→Below W.heap.size W W1→wpList Tryz.prog ops Q rest (a.put (some N) (.pointer (some ⟨g,0,none⟩))) W1):wpList Tryz.prog ops Q (o :: rest) a W:=by
 refine box_event hg hN (cs:=PS.zero.cs V4.nil) (t:=26) ?_ (fun g hg W1 hb hB=>by rw [hN];exact h g W1 hg hb hB)
 unfold execOp
 simp only [ho]
 rfl
theorem pat_load {x:Operand}{N:Tmp}(hg:o.guard=none)(hN:o.dst=some N)(ho:o.op = .load 26 x)(g:Nat)(hx:a.eval x = .pointer (some ⟨g,0,none⟩))(s:PS)(v:V4)(hb:PBox g s v W)
    (h:wpList Tryz.prog ops Q rest (a.put (some N) (s.val v)) W):wpList Tryz.prog ops Q (o :: rest) a W:=by
 obtain ⟨d,hu,hd⟩:=pat_row
 refine wpList_load_mid hg 26 x ho g 0 hx (s.cs v).toList d ?_ hu hd (by rw [pat_info];rfl) (by rw [hN];exact h)
 intro j v hj
 rw [Nat.zero_add,blk_cell hb,← Array.getElem?_toList]
 exact hj
theorem pat_store {x y:Operand}(hg:o.guard=none)(hN:o.dst=none)(ho:o.op = .store 26 x y)(g:Nat)(hx:a.eval x = .pointer (some ⟨g,0,none⟩))(s:PS)(v:V4)(hy:a.eval y=s.val v)(s':PS)(u:V4)(hb:PBox g s' u W)
    (h:∀ W1,PBox g s v W1→But g W W1→wpList Tryz.prog ops Q rest a W1):wpList Tryz.prog ops Q (o :: rest) a W:=by
 refine wpList_store_mid hg 26 x y ho g 0 (s.cs v) hx hy ?_ (by rw [pat_info];rfl) (PS.one s v) ?_
 ·intro j hj
  rw [Nat.zero_add,blk_cell hb]
  refine ⟨?_,blk_frozen hb j⟩
  rw [Array.getElem?_eq_getElem (show j<(s'.cs u).size from hj)]
  rfl
 rw [hN]
 obtain ⟨cs',h1,h2,h3⟩:=blk_sets (s.cs v).toList 0 W _ hb (Nat.le_refl 17)
 refine h _ ?_ ⟨fun i hi=>keep_sets g _ _ W i hi,len_sets g _ _ W,fun B w hB hle=>below_sets hle _ _ _ hB⟩
 have e:cs'=s.cs v:=by
  apply Array.ext'
  rw [h3]
  rfl
 rw [e] at h1
 exact h1
theorem pat_field {t:TypeId}{x y:Operand}(hg:o.guard=none)(hN:o.dst=none)(ho:o.op = .store t x y)(g j:Nat)(x_:Value)(s s':PS)(v u:V4)(hb:PBox g s v W)(hs:(s.cs v).setIfInBounds j x_=s'.cs u)
    (hrun:(execOp a.eval o).run Tryz.prog W = .ok .skip (W.setCell ⟨g,j,none⟩ x_))
    (h:∀ W1,PBox g s' u W1→But g W W1→wpList Tryz.prog ops Q rest a W1):wpList Tryz.prog ops Q (o :: rest) a W:=by
 refine wpList_plain hg fun K hK=>?_
 unfold Oper.wp
 rw [hrun]
 show K (a.put o.dst undef) _
 rw [hN]
 exact hK _ _ (h _ (blk_put hb j x_ hs) ⟨fun i hi=>Below.heap_setCell W ⟨g,j,none⟩ x_ i hi,by simp,fun B w hB hle=>Below.setCell hB hle x_⟩)
theorem pat_load_run {x:Operand}(ho:o.op = .load 26 x)(g:Nat)(hx:a.eval x = .pointer (some ⟨g,0,none⟩))(s:PS)(v:V4)(hb:PBox g s v W):(execOp a.eval o).run Tryz.prog W = .ok (.value (s.val v)) W:=by
 obtain ⟨d,hu,hd⟩:=pat_row
 have hr:W.rangeAt g 0 (s.cs v).toList:=fun j x hj=>by
  rw [Nat.zero_add,blk_cell hb,← Array.getElem?_toList]
  exact hj
 unfold execOp
 simp only [ho,hx,Instr.loadAt,Instr.sureAddr,Sem.run_bind,Sem.run_pure,Result.andThen_ok,run_loadVar_mid W g 0 26 (s.cs v).toList d hr hu hd (by rw [pat_info];rfl)]
 rfl
theorem pat_store_step {Kc:Act→World→Prop}{x y:Operand}(hw:Region.wanted o (yielded ops a.tmps)=true)(hN:o.dst=none)(ho:o.op = .store 26 x y)(g:Nat)(hx:a.eval x = .pointer (some ⟨g,0,none⟩))(s:PS)(v:V4)(hy:a.eval y=s.val v)(s':PS)(u:V4)(hb:PBox g s' u W)
    (h:∀ W1,PBox g s v W1→But g W W1→Kc a W1):if Region.wanted o (yielded ops a.tmps)=true then Oper.wp Tryz.prog o a W Kc Q else Kc (a.put none undef) W:=by
 rw [if_pos hw]
 refine wp_store_mid 26 x y ho g 0 (s.cs v) hx hy ?_ (by rw [pat_info];rfl) (PS.one s v) ?_
 ·intro j hj
  rw [Nat.zero_add,blk_cell hb]
  refine ⟨?_,blk_frozen hb j⟩
  rw [Array.getElem?_eq_getElem (show j<(s'.cs u).size from hj)]
  rfl
 rw [hN]
 obtain ⟨cs',h1,h2,h3⟩:=blk_sets (s.cs v).toList 0 W _ hb (Nat.le_refl 17)
 refine h _ ?_ ⟨fun i hi=>keep_sets g _ _ W i hi,len_sets g _ _ W,fun B w hB hle=>below_sets hle _ _ _ hB⟩
 have e:cs'=s.cs v:=by
  apply Array.ext'
  rw [h3]
  rfl
 rw [e] at h1
 exact h1
theorem PBox.cell {g:Nat}{s:PS}{v:V4}(h:PBox g s v W)(j:Nat):W.cell? ⟨g,j,none⟩=(s.cs v)[j]?:=blk_cell h j
theorem PBox.free {g:Nat}{s:PS}{v:V4}(h:PBox g s v W)(j:Nat):W.frozen? ⟨g,j,none⟩=false:=blk_frozen h j
theorem pat_results {fn:Func}{p n m:Tmp}(h:fn.results = #[.cell p 26,.tmp n,.tmp m])(tmps:Array Value)(g:Nat)(hp:tmps.getD p undef = .pointer (some ⟨g,0,none⟩))(s:PS)(v:V4)(hg:PBox g s v W) :
    (results fn tmps).run Tryz.prog W = .ok (.tuple #[s.val v,tmps.getD n undef,tmps.getD m undef]) W:=by
 obtain ⟨d,hu,hd⟩:=pat_row
 have hp':tmps[p]?.getD undef = .pointer (some ⟨g,0,none⟩):=by simpa using hp
 have hr:=run_loadVar_row W g 26 26 (s.cs v) (0,0) d hg hu (by cases d <;> simp_all) (by rw [pat_info];rfl)
 simp [results,h,hp',asAddr,hr,PS.val_eq]
end
structure PSt (w W:World)(gp gr:Nat)(s:PS)(v:V4)(r:PS)(u:V4):Prop where
  p:PBox gp s v W
  r:PBox gr r u W
  ne:gp≠gr
  hp:w.heap.size≤gp
  hr:w.heap.size≤gr
  b:Below w.heap.size w W
section
variable {w W W1:World}{gp gr:Nat}{s s' r:PS}{v u:V4}
theorem PSt.start (hg:gp=w.heap.size)(hp:PBox gp s v W)(hb:Below w.heap.size w W)(hr:gr=W.heap.size)(h1:PBox gr r u W1)(hb1:Below W.heap.size W W1):PSt w W1 gp gr s v r u:=
  ⟨hp.below hb1,h1,by have:=hp.lt;omega,by omega,by have:=hb.size;omega,hb.trans (hb1.mono hb.size)⟩
theorem PSt.below (h:PSt w W gp gr s v r u)(hb:Below W.heap.size W W1):PSt w W1 gp gr s v r u:=⟨h.p.below hb,h.r.below hb,h.ne,h.hp,h.hr,h.b.trans (hb.mono h.b.size)⟩
theorem PSt.drewN (h:PSt w W gp gr s v r u)(n:Nat):PSt w (W.drewN n) gp gr s v r u:=h.below (pw_below_drewN (Below.refl _ _) n)
theorem PSt.drew (h:PSt w W gp gr s v r u):PSt w W.drew gp gr s v r u:=h.below (below_drew1 (Below.refl _ _))
theorem PSt.grown (h:PSt w W gp gr s v r u){row:Option Nat}(hg:W.grownBy W1 row)(h1:some gp≠row)(h2:some gr≠row)(hb:Below w.heap.size w W1):PSt w W1 gp gr s v r u:=⟨blk_grown h.p hg h1,blk_grown h.r hg h2,h.ne,h.hp,h.hr,hb⟩
theorem PSt.put (h:PSt w W gp gr s v r u)(h1:PBox gp s' v W1)(hb:But gp W W1):PSt w W1 gp gr s' v r u:=⟨h1,h.r.but hb h.ne.symm,h.ne,h.hp,h.hr,hb.below _ _ h.b h.hp⟩
theorem PSt.ret (h:PSt w W gp gr s v r u){v':V4}(h1:PBox gr s' v' W1)(hb:But gr W W1):PSt w W1 gp gr s v s' v':=⟨h.p.but hb h.ne,h1,h.ne,h.hp,h.hr,hb.below _ _ h.b h.hr⟩
end
end
end Go.Proofs.YtklebhlanidloaaGreatDoor.PZ
end
