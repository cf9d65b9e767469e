/- Texts of this seat, joined. Conditions: none beyond each statement's own. -/
import Derived.Test.YtklebhlanidloaaGreatDoorD12
import Derived.Test.YtklebhlanidloaaGreatDoorD13
import Derived.Test.YtklebhlanidloaaGreatDoorD09
set_option linter.all false
section
set_option maxRecDepth 100000
namespace Go.Proofs.YtklebhlanidloaaGreatDoor.PZ
open Go.RowKit Go.Shelf Go.Proofs.YtklebhlanidloaaGreatDoorW.PrintWords Go.Proofs.YtklebhlanidloaaGreatDoorW.PrintLast
theorem blk_sets {g:Nat}{t:TypeId}:∀ (vs:List Value)(o:Nat)(W:World)(cs:Array Value),W.heap[g]?=some (.cells cs t (0,0))→o+vs.length≤cs.size →
    ∃ cs',(W.setCells g o vs).heap[g]?=some (.cells cs' t (0,0))∧cs'.size=cs.size∧cs'.toList=cs.toList.take o ++ vs ++ cs.toList.drop (o+vs.length)
  | [],o,W,cs,h,_=>⟨cs,h,rfl,by simp⟩
  | v :: r,o,W,cs,h,hl=>by
    have hl':o+(r.length+1)≤cs.size:=by simpa using hl
    obtain ⟨cs',h1,h2,h3⟩:=blk_sets r (o+1) (W.setCell ⟨g,o,none⟩ v) (cs.setIfInBounds o v) (blk_set h o v) (by simp;omega)
    refine ⟨cs',h1,by simpa using h2,?_⟩
    rw [h3,Array.toList_setIfInBounds,List.take_set,List.drop_set]
    rw [if_pos (by omega)]
    have e1:(cs.toList.take (o+1)).set o v=cs.toList.take o ++ [v]:=by
     have ho:o<cs.toList.length:=by simp;omega
     rw [List.take_succ_eq_append_getElem ho,List.set_append_right _ _ (by simp;omega)]
     have hm:o - min o cs.size=0:=by omega
     simp [hm]
    rw [e1]
    simp [Nat.add_assoc,Nat.add_comm 1]
theorem below_sets {B g:Nat}(hg:B≤g){A:World}:∀ (vs:List Value)(o:Nat)(W:World),Below B A W→Below B A (W.setCells g o vs)
  | [],_,_,h=>h
  | v :: r,o,W,h=>below_sets hg r (o+1) _ (h.setCell (p:=⟨g,o,none⟩) hg v)
theorem below_drew {B:Nat}{A W:World}(h:Below B A W):Below B A W.drew:=⟨h.os,h.tape,h.output,h.size,h.block⟩
theorem insert_calls (base vb:Nat)(v:Value)(l:List Int)(W:World)(hlen:l.length≤70368744177664)(hbase:base≤W.heap.size)(hvb:W.heap[vb]?=some (.cells #[.int .u8 0] 5 (0,0)))(hown:W.ownsRow base 5 1 v l.length (l.map (Value.int .u8)))(hne:some vb≠v.ownBlock) :
    Calls Tryz.prog 124 #[v,.int .i64 0,.slice (some ⟨vb,0,none⟩) 1 1] W fun e W'=>∃ v',e = .returned v'∧W'.ownsRow base 5 1 v' (l.length+1) ((0 :: l).map (Value.int .u8))∧Below base W W':=by
 obtain ⟨i0,hi,hz0,hz1,hz2⟩:=info_parts zerosByteInfo
 have hv0:W.cell? ⟨vb,0,none⟩=some (.int .u8 0):=by rw [cell_of_row _ _ _ _ _ _ hvb];rfl
 have hvlt:vb<W.heap.size:=(Array.getElem?_eq_some_iff.1 hvb).1
 by_cases hn:l.length=0
 ·obtain rfl:l=[]:=List.eq_nil_of_length_eq_zero hn
  have hone:∀ j u,[Value.int .u8 0][j]?=some u→W.cell? ((⟨vb,0,none⟩:Addr).add j)=some u:=by
   intro j u hu
   cases j with
   | zero => obtain rfl : Value.int .u8 0 = u := by simpa using hu
             exact hv0
   | succ j=>simp at hu
  have hcase:v = .slice none 0 0∨∃ g cap,v = .slice (some ⟨g,0,none⟩) 0 cap∧cap≤9223372036854775807∧0≤cap:=by
   rcases hown.2 with ⟨rfl,_⟩|⟨g,cap,cur,rfl,_,_,_,hc,_⟩
   · exact .inl rfl
   exact .inr ⟨g,cap,rfl,by unfold maxLen at hc;omega,by omega⟩
  have hoB:∀ k,v.ownBlock=some k→base≤k:=own_base hown
  clear hn
  rcases hcase with rfl|⟨g,cap,rfl,hc1,hc2⟩
  ·have HOB:=zA hoB
   clear hoB
   go_enter Tryz.func124,Tryz.ntmps124
   go_wp2_with (at_builtin;refine wpList_append_own _ rfl _ _ 27 rfl base 5 i0 (.int .u8 0) 1 1 Tryz.underlying27 hi hz0 hz1 hz2 rfl (by decide) _ _ _ rfl hown ⟨vb,0,none⟩ 1 1 [.int .u8 0] rfl rfl hone (by simp [Value.oneCell']) (by simp only [maxLen];simp) (by simp) hbase ?_;intro v' w1 hown' hgrow hat)
   go_ret
   exact ⟨v',rfl,hown',(Below.refl _ _).grown hgrow hbase HOB.out⟩
  have HOB:=zA hoB
  clear hoB
  go_enter Tryz.func124,Tryz.ntmps124
  go_wp2_with (at_builtin;refine wpList_append_own _ rfl _ _ 27 rfl base 5 i0 (.int .u8 0) 1 1 Tryz.underlying27 hi hz0 hz1 hz2 rfl (by decide) _ _ _ rfl hown ⟨vb,0,none⟩ 1 1 [.int .u8 0] rfl rfl hone (by simp [Value.oneCell']) (by simp only [maxLen];simp) (by simp) hbase ?_;intro v' w1 hown' hgrow hat)
  go_ret
  exact ⟨v',rfl,hown',(Below.refl _ _).grown hgrow hbase HOB.out⟩
 rcases hown.2 with ⟨_,h0⟩|⟨g,cap,cur,rfl,hgb,hblk,hnc,hcm,hsz,htk⟩
 · exact absurd h0 hn
 have hne':vb≠g:=by
  intro e
  subst e
  exact hne (by simp [Value.ownBlock])
 have hfz:∀ j,W.frozen? ⟨g,j,none⟩=false:=fun j=>by unfold World.frozen?;simp only [hblk];simp
 have hfv:∀ j,W.frozen? ⟨vb,j,none⟩=false:=fun j=>by unfold World.frozen?;simp only [hvb];simp
 have hcell:∀ j,W.cell? ⟨g,j,none⟩=cur[j]?:=fun j=>cell_of_row _ _ _ _ _ _ hblk
 rw [Nat.mul_one] at hsz htk
 unfold maxLen at hcm
 have hcs:∀ j u,(l.map (Value.int .u8))[j]?=some u→W.cell? ⟨g,0+j,none⟩=some u:=fun j u hj=>by
  rw [Nat.zero_add,hcell,← Array.getElem?_toList]
  rw [← htk,List.getElem?_take] at hj
  split at hj
  · exact hj
  cases hj
 have hvs:∀ j u,[Value.int .u8 0][j]?=some u→W.cell? ⟨vb,0+j,none⟩=some u:=by
  intro j u hu
  cases j with
  | zero => obtain rfl : Value.int .u8 0 = u := by simpa using hu
            exact hv0
  | succ j=>simp at hu
 have h1c:∀ u ∈ l.map (Value.int .u8),u.oneCell'=true:=by
  intro u hu
  obtain ⟨x,_,rfl⟩:=List.mem_map.1 hu
  rfl
 have h1v:∀ u ∈ [Value.int .u8 0],u.oneCell'=true:=by simp [Value.oneCell']
 by_cases hroom:l.length+1≤cap
 ·refine (insert_shift g 0 l.length cap 0 vb 0 1 1 (l.map (Value.int .u8)) [.int .u8 0] W (by omega) (by omega) hroom hcm hne' (by simp) rfl hcs
   (fun j hj=>by rw [Nat.zero_add,hcell,Array.getElem?_eq_getElem (by omega)];rfl) (fun j hj=>hfz _) hvs h1c h1v 5 5 1 cap
   (by unfold World.shape?;rw [hvb];rfl) (by unfold World.shape?;rw [hblk];simp [hsz]) (by omega) (hfv _) (hfv _)).mono ?_
  rintro e W' ⟨rfl,rfl⟩
  refine ⟨_,rfl,?_,below_sets hgb _ _ _ (below_sets hgb _ _ _ (below_drew (Below.refl _ _)))⟩
  simp only [List.drop_zero]
  obtain ⟨c1,a1,a2,a3⟩:=blk_sets (l.map (Value.int .u8)) (0+(0+1)) W.drew cur hblk (by simp;omega)
  obtain ⟨c2,b1,b2,b3⟩:=blk_sets [.int .u8 0] (0+0) _ c1 a1 (by simp;omega)
  refine ⟨by simp,.inr ⟨g,cap,c2,rfl,hgb,b1,hroom,by unfold maxLen;omega,by omega,?_⟩⟩
  rw [b3,a3,Nat.mul_one]
  obtain ⟨c,r,hcr⟩:∃ c r,cur.toList=c :: r:=by
   cases hq:cur.toList with
   | nil => have : cur.size = 0 := by rw [← Array.length_toList, hq]; rfl
            omega
   | cons c r=>exact ⟨c,r,rfl⟩
  rw [hcr]
  simp
 refine (insert_grow g 0 l.length cap 0 vb 0 1 1 (l.map (Value.int .u8)) [.int .u8 0] W (by omega) (by omega) hnc (by omega) (by omega) (by simp) rfl hcs hvs h1c h1v).mono ?_
 rintro e W' ⟨rfl,rfl⟩
 have hG:=grownCap_ge W (l.length+1) cap 5
 have hG2:=grownCap_le_maxLen W (l.length+1) cap 5 (by unfold maxLen;omega)
 generalize grownCap W (l.length+1) cap 5=G at *
 refine ⟨_,rfl,?_,below_sets hbase _ _ _ (below_drew (below_sets hbase _ _ _ (below_drew ((Below.refl _ _).alloc hbase _))))⟩
 simp only [List.drop_zero,List.take_zero]
 have hrow:=heap_alloc_new W (.cells (([]:List Value).toArray ++ Builtin.zeroCells (Value.int .u8 0).cells (l.length+1 - 0) ++ Builtin.zeroCells (Value.int .u8 0).cells (G - (l.length+1))) 5)
 rw [zero_cells,zero_cells] at hrow ⊢
 obtain ⟨c1,a1,a2,a3⟩:=blk_sets [.int .u8 0] 0 (W.alloc (.cells (([]:List Value).toArray ++ (List.replicate (l.length+1 - 0) (Value.int .u8 0)).toArray ++ (List.replicate (G - (l.length+1)) (Value.int .u8 0)).toArray) 5)).drew _ hrow (by simp;omega)
 obtain ⟨c2,b1,b2,b3⟩:=blk_sets (l.map (Value.int .u8)) (0+1) (World.drew (World.setCells _ W.heap.size 0 [.int .u8 0])) c1 a1 (by rw [a2];simp;omega)
 refine ⟨by simp,.inr ⟨W.heap.size,G,c2,rfl,hbase,b1,hG,hG2,?_,?_⟩⟩
 · rw [b2,a2];simp;omega
 rw [b3,a3,Nat.mul_one]
 simp
def moreR:List Int→List Int
  | []=>[]
  | c :: r=>if c<9 then (c+1) :: r else 0 :: moreR r
def moreL (l:List Int):List Int:=(moreR (0 :: l).reverse).reverse
theorem moreR_nines (k:Nat)(r:List Int)(c:Int)(hc:c<9):moreR (List.replicate k 9 ++ c :: r)=List.replicate k 0 ++ (c+1) :: r:=by
 induction k with
 | zero=>simp [moreR,hc]
 | succ k ih=>rw [List.replicate_succ,List.replicate_succ,List.cons_append,List.cons_append,moreR,if_neg (by omega),ih]
theorem moreL_nines (a:List Int)(c:Int)(k:Nat)(hc:c<9)(l:List Int)(h:0 :: l=a ++ c :: List.replicate k 9):moreL l=a ++ (c+1) :: List.replicate k 0:=by
 unfold moreL
 rw [h,List.reverse_append,List.reverse_cons,List.reverse_replicate,List.append_assoc]
 have:=moreR_nines k a.reverse c hc
 rw [show [c] ++ a.reverse=c :: a.reverse from rfl,this]
 simp
theorem moreR_num (l:List Int)(h:Figs l)(hz:∃ a,l=a ++ [0]):num (moreR l).reverse=num l.reverse+1∧Figs (moreR l)∧(moreR l).length=l.length:=by
 induction l with
 | nil=>obtain ⟨a,ha⟩:=hz;simp at ha
 | cons c r ih=>
  have hc:=h.head
  unfold moreR
  by_cases h9:c<9
  ·rw [if_pos h9,List.reverse_cons,List.reverse_cons,num_snoc,num_snoc]
   exact ⟨by omega,Figs.cons (by omega) (by omega) h.tail,by simp⟩
  rw [if_neg h9,List.reverse_cons,List.reverse_cons,num_snoc,num_snoc]
  obtain ⟨a,ha⟩:=hz
  have hr:∃ a,r=a ++ [0]:=by
   cases a with
   | nil=>simp at ha;omega
   | cons x a=>exact ⟨a,by simp at ha;exact ha.2⟩
  obtain ⟨h1,h2,h3⟩:=ih h.tail hr
  exact ⟨by omega,Figs.cons (by omega) (by omega) h2,by simp [h3]⟩
theorem moreL_num {l:List Int}(h:Figs l):num (moreL l)=num l+1∧Figs (moreL l)∧(moreL l).length=l.length+1:=by
 have h0:Figs (0 :: l):=Figs.cons (by omega) (by omega) h
 obtain ⟨h1,h2,h3⟩:=moreR_num (0 :: l).reverse h0.reverse ⟨l.reverse,by simp⟩
 unfold moreL
 rw [h1,List.reverse_reverse,num_cons]
 exact ⟨by omega,h2.reverse,by simpa using h3⟩
def round_more.f (l:List Int):Option (List Int):=if l.length≤70368744177664∧(∀ c ∈ l,0≤c∧c≤9) then some (moreL l) else none
theorem own_ne {W:World}{base n:Nat}{e:TypeId}{v:Value}{xs:List Value}(h:W.ownsRow base e 1 v n xs):some W.heap.size≠v.ownBlock:=by
 rcases h.2 with ⟨rfl,_⟩|⟨g,cap,cur,rfl,_,hg,_⟩
 · simp [Value.ownBlock]
 have:=(Array.getElem?_eq_some_iff.1 hg).1
 simp [Value.ownBlock]
 omega
def MoreSt (base g cap:Nat)(l:List Int)(m:Nat)(W:World):Prop:=W.ownsRow base 5 1 (.slice (some ⟨g,0,none⟩) (l.length+1) cap) (l.length+1) (((0 :: l).take (m+1) ++ List.replicate (l.length - m) 0).map (Value.int .u8))∧(0 :: l).drop (m+1)=List.replicate (l.length - m) 9
theorem MoreSt.at {base g cap:Nat}{l:List Int}{m:Nat}{W:World}(h:MoreSt base g cap l m W)(hm:m≤l.length):W.cell? ⟨g,m,none⟩=some (.int .u8 (rd (0 :: l) m))∧W.frozen? ⟨g,m,none⟩=false:=by
 obtain ⟨h1,h2⟩:=own_at_of (enc:=Value.int .u8) (d:=(0:Int)) h.1 (m:Int) (by omega) (by omega)
 refine ⟨?_,h2⟩
 rw [Int.toNat_natCast] at h1
 rw [h1]
 have:rd ((0 :: l).take (m+1) ++ List.replicate (l.length - m) 0) m=rd (0 :: l) m:=by
  rw [rd_append_left _ _ _ (by simp;omega)]
  rw [rd_nat,rd_nat,List.getD_eq_getElem?_getD,List.getElem?_take,if_pos (by omega),List.getD_eq_getElem?_getD]
 rw [← this]
 rfl
theorem MoreSt.next {base g cap:Nat}{l:List Int}{m:Nat}{W:World}(h:MoreSt base g cap l (m+1) W)(hm:m+1≤l.length)(h9:rd (0 :: l) ((m+1:Nat):Int)=9):MoreSt base g cap l m (W.setCell ⟨g,m+1,none⟩ (.int .u8 0)):=by
 obtain ⟨h1,h2⟩:=own_store_of (enc:=Value.int .u8) h.1 ((m+1:Nat):Int) 0
 rw [Int.toNat_natCast] at h1
 have e:l.length - m=l.length - (m+1)+1:=by omega
 refine ⟨?_,?_⟩
 ·have e2:((0 :: l).take (m+1+1) ++ List.replicate (l.length - (m+1)) 0).set (m+1) 0=(0 :: l).take (m+1) ++ List.replicate (l.length - m) 0:=by
   have ho:m+1<(0 :: l).length:=by simp;omega
   rw [List.take_succ_eq_append_getElem ho,List.append_assoc,List.set_append_right _ _ (by simp;omega)]
   have hz:m+1 - ((0 :: l).take (m+1)).length=0:=by simp;omega
   rw [hz,e,List.replicate_succ]
   rfl
  rw [e2] at h1
  exact h1
 rw [drop_cons (0 :: l) (m+1) (by simp;omega),h9,h.2,e,List.replicate_succ]
theorem MoreSt.done {base g cap:Nat}{l:List Int}{m:Nat}{W:World}(h:MoreSt base g cap l m W)(hm:m≤l.length)(h9:rd (0 :: l) m<9):(W.setCell ⟨g,m,none⟩ (.int .u8 (rd (0 :: l) m+1))).ownsRow base 5 1 (.slice (some ⟨g,0,none⟩) (l.length+1) cap) (l.length+1) ((moreL l).map (Value.int .u8)):=by
 obtain ⟨h1,h2⟩:=own_store_of (enc:=Value.int .u8) h.1 (m:Int) (rd (0 :: l) m+1)
 rw [Int.toNat_natCast] at h1
 have e1:0 :: l=(0 :: l).take m ++ rd (0 :: l) m :: List.replicate (l.length - m) 9:=by
  rw [← h.2,← drop_cons (0 :: l) m (by simp;omega),List.take_append_drop]
 rw [moreL_nines _ _ _ h9 l e1]
 have e2:((0 :: l).take (m+1) ++ List.replicate (l.length - m) 0).set m (rd (0 :: l) m+1)=(0 :: l).take m ++ (rd (0 :: l) m+1) :: List.replicate (l.length - m) 0:=by
  have ho:m<(0 :: l).length:=by simp;omega
  rw [List.take_succ_eq_append_getElem ho,List.append_assoc,List.set_append_right _ _ (by simp;omega)]
  have hz:m - ((0 :: l).take m).length=0:=by simp;omega
  rw [hz]
  rfl
 rw [e2] at h1
 exact h1
set_option maxRecDepth 100000 in
theorem round_more.calls (A0:Option Addr)(c0:Nat)(l0:List Int)(r:List Int)(w:World)(hr0:Kd.C (Kd.int .u8) w A0 l0.length l0)(hc0:l0.length≤c0)(h:round_more.f l0=some r) :
    Calls Tryz.prog 97 #[.slice A0 l0.length c0] w fun e w'=>∃ v0_:Value,e = .returned (v0_)∧Kd.R (Kd.int .u8) 5 w' w.heap.size (fun _=>True) v0_ r∧Below w.heap.size w w':=by
 unfold round_more.f at h
 by_cases hb:l0.length≤70368744177664∧(∀ c ∈ l0,0≤c∧c≤9)
 rotate_left
 ·rw [if_neg hb] at h
  cases h
 rw [if_pos hb] at h
 obtain rfl:=zE h
 obtain ⟨hl,hf⟩:=hb
 have hcl:=slices_Clone_byte_byte.calls A0 c0 l0 l0 w hr0 hc0 (by unfold slices_Clone_byte_byte.f;rw [if_pos (by omega)])
 have HF:=zA (show Figs l0 from hf)
 clear hr0 h hf
 go_enter Tryz.func97,Tryz.ntmps97
 go_wp2_with (first|(go_at_call 83;refine hcl.mono ?_;clear hcl;rintro e w1 ⟨v,rfl,hR,hB1⟩;have HR:=zA hR;have HB1:=zA hB1;clear hR hB1)|(go_at_call 124;refine (insert_calls w.heap.size w1.heap.size v l0 _ hl (by simp;exact Nat.le_succ_of_le HB1.out.size) (heap_alloc_new _ _) ((Kd.own_of_R HR.out).alloc _) (own_ne (Kd.own_of_R HR.out))).mono ?_;rintro e w2 ⟨v',rfl,hown,hB2⟩;obtain ⟨g,cap,rfl⟩:=ownsRow_succ hown;have HO:=zA hown;have HB2:=zA hB2;clear hown hB2))
 have HB3:=zA (((Below.refl _ _).trans HB1.out).trans (((Below.refl _ w1).alloc HB1.out.size _).trans HB2.out))
 have hgb:=own_base HO.out g rfl
 have HG:=zA hgb
 clear hgb
 go_loopw [4] (fun s4 wr=>∃ m:Nat,m≤l0.length∧s4 = .int .i64 (m:Int)∧Aside0 (MoreSt w.heap.size g cap l0 m wr)∧Aside0 (Below w.heap.size w wr)) (fun s4 _=>(intOf s4+1).toNat)
 case atStart=>exact ⟨l0.length,Nat.le_refl _,by go_num,⟨by simpa using HO.out,by simp⟩,HB3⟩
 case round=>
  obtain ⟨m,hm,rfl,HM,HB⟩:=hrel
  obtain ⟨hcell,hfz⟩:=HM.out.at hm
  have hy:=rd_figs (show Figs (0 :: l0) from Figs.cons (by omega) (by omega) HF.out) m
  obtain ⟨y,hye⟩:∃ y,rd (0 :: l0) (m:Int)=y:=⟨_,rfl⟩
  rw [hye] at hcell hy
  have HY:=zA hye
  clear hye
  obtain ⟨hy0,hy9⟩:=hy
  by_cases hlt:y<9
  ·have hd:=zC hlt
   go_wp2
   refine bodyPost_ret (results_tmp rfl _ _ _) rfl ?_
   have hd2:=HM.out.done hm (by rw [HY.out];exact hlt)
   rw [HY.out] at hd2
   have hl1:(moreL l0).length=l0.length+1:=(moreL_num HF.out).2.2
   rw [← hl1] at hd2
   exact ⟨.slice (some ⟨g,0,none⟩) (moreL l0).length cap,by rw [hl1];rfl,Kd.R_of_own hd2 (fun _ _=>trivial),HB.out.setCell (p:=⟨g,m,none⟩) HG.out _⟩
  have hd:=zD hlt
  obtain rfl:y=9:=by omega
  have hmp:m≠0:=by
   intro z
   subst z
   have:=HY.out
   simp [rd] at this
  obtain ⟨m,rfl⟩:∃ j,m=j+1:=⟨m - 1,by omega⟩
  have HN:=zA (HM.out.next hm HY.out)
  go_wp2
  go_roundw
  case rel=>exact ⟨m,by omega,by go_num,HN,⟨HB.out.setCell (p:=⟨g,m+1,none⟩) HG.out _⟩⟩
  case measure=>simp [intOf];omega
theorem lowD_num (c:Nat):num (lowD c).reverse=c∧Figs (lowD c):=by
 induction c using Nat.strongRecOn with
 | ind c ih=>
  by_cases h:0<c
  ·obtain ⟨h1,h2⟩:=ih (c / 10) (by omega)
   rw [lowD_pos h,List.reverse_cons,num_snoc,h1]
   exact ⟨by omega,Figs.cons (by omega) (by omega) h2⟩
  obtain rfl:c=0:=by omega
  rw [lowD_zero]
  exact ⟨rfl,Figs.nil⟩
theorem backK_snd (zs:List Int)(n:Nat)(h:n≤zs.length):(backK zs n).map Prod.snd=(zs.drop (zs.length - n)).reverse:=by
 induction n with
 | zero=>simp [backK]
 | succ n ih=>
  rw [backK_succ,List.map_append,ih (by omega)]
  have e:zs.length - (n+1)+1=zs.length - n:=by omega
  rw [drop_cons zs (zs.length - (n+1)) (by omega),e,List.reverse_cons]
  congr 2
  have:(zs.length:Int) - 1 - n=((zs.length - (n+1):Nat):Int):=by omega
  simp [this]
theorem timesS_eq (k:Int)(l:List Int):timesS k (backK l l.length)=l.reverse.foldl (timesStep k) (0,[]):=by
 unfold timesS
 rw [backK_snd l l.length (Nat.le_refl _)]
 simp
theorem timesStep_eq {k s c:Int}(out:List Int)(hk:0≤k∧k≤1000000000)(hs:0≤s∧s≤k)(hc:0≤c∧c≤9):timesStep k (s,out) c=((s+c * k) / 10,out ++ [(s+c * k) % 10])∧0≤(s+c * k) / 10∧(s+c * k) / 10≤k:=by
 have h1:0≤c * k:=Int.mul_nonneg hc.1 hk.1
 have h2:c * k≤9 * k:=Int.mul_le_mul_of_nonneg_right hc.2 hk.1
 unfold timesStep
 rw [w64 c (by omega) (by omega)]
 generalize c * k=y at *
 have e1:wrap64 y=y:=w64 _ (by omega) (by omega)
 dsimp only
 rw [e1,w64 (s+y) (by omega) (by omega),Int.tdiv_eq_ediv_of_nonneg (by omega),Int.tmod_eq_emod_of_nonneg (by omega),w64 ((s+y) / 10) (by omega) (by omega)]
 have e2:(s+y) % 10 % 256=(s+y) % 10:=by omega
 rw [e2]
 exact ⟨rfl,by omega,by omega⟩
theorem times_fold {k:Int}(hk:0≤k∧k≤1000000000)(p:List Int)(hp:Figs p):∀ s:Int×List Int,0≤s.1∧s.1≤k→Figs s.2 →
    (0≤(p.foldl (timesStep k) s).1∧(p.foldl (timesStep k) s).1≤k)∧Figs (p.foldl (timesStep k) s).2∧(p.foldl (timesStep k) s).2.length=s.2.length+p.length ∧
    num (p.foldl (timesStep k) s).2.reverse+(p.foldl (timesStep k) s).1 * T10 (s.2.length+p.length)=num s.2.reverse+(s.1+k * num p.reverse) * T10 s.2.length:=by
 induction p with
 | nil=>intro s h1 h2;exact ⟨h1,h2,by simp,by simp [num_nil]⟩
 | cons c p ih=>
  rintro ⟨s,out⟩ h1 h2
  obtain ⟨e,b1,b2⟩:=timesStep_eq out hk h1 hp.head
  rw [List.foldl_cons,e]
  obtain ⟨a1,a2,a3,a4⟩:=ih hp.tail ((s+c * k) / 10,out ++ [(s+c * k) % 10]) ⟨b1,b2⟩ (h2.append (Figs.cons (by omega) (by omega) Figs.nil))
  refine ⟨a1,a2,by rw [a3];simp;omega,?_⟩
  have e2:(out ++ [(s+c * k) % 10]).length+p.length=out.length+(c :: p).length:=by simp;omega
  dsimp only at a4 ⊢
  rw [e2] at a4
  have e7:num (c :: p).reverse=num p.reverse * 10+c:=by rw [List.reverse_cons,num_snoc]
  rw [a4,List.reverse_append,e7]
  have e3:num (([(s+c * k) % 10]:List Int).reverse ++ out.reverse)=(s+c * k) % 10 * T10 out.length+num out.reverse:=by
   rw [num_append];simp [num_one]
  rw [e3]
  have e4:(out ++ [(s+c * k) % 10]).length=out.length+1:=by simp
  rw [e4,T10_succ]
  have e5:s+c * k=10 * ((s+c * k) / 10)+(s+c * k) % 10:=by omega
  generalize (s+c * k) / 10=u at *
  generalize (s+c * k) % 10=v at *
  have e6:s=10 * u+v - c * k:=by omega
  subst e6
  grind
def timesL (l:List Int)(k:Int):List Int:=((l.reverse.foldl (timesStep k) (0,[])).2 ++ lowD (l.reverse.foldl (timesStep k) (0,[])).1.toNat).reverse
theorem timesL_num {l:List Int}{k:Int}(hl:Figs l)(hk:0≤k∧k≤1000000000):Figs (timesL l k)∧num (timesL l k)=num l * k∧(timesL l k).length≤l.length+10:=by
 obtain ⟨a1,a2,a3,a4⟩:=times_fold hk l.reverse hl.reverse (0,[]) ⟨Int.le_refl _,hk.1⟩ Figs.nil
 obtain ⟨b1,b2⟩:=lowD_num (l.reverse.foldl (timesStep k) (0,[])).1.toNat
 have b3:=lowD_len 10 (l.reverse.foldl (timesStep k) (0,[])).1.toNat (by omega)
 unfold timesL
 generalize l.reverse.foldl (timesStep k) (0,[])=s at *
 obtain ⟨c,out⟩:=s
 dsimp only at *
 simp only [List.length_nil,List.length_reverse,Nat.zero_add,List.reverse_nil,List.reverse_reverse,num_nil,T10_zero] at a3 a4
 refine ⟨(a2.append b2).reverse,?_,by simp;omega⟩
 rw [List.reverse_append,num_append,b1,List.length_reverse,a3,Int.toNat_of_nonneg a1.1]
 have:k * num l=num l * k:=Int.mul_comm _ _
 omega
def round_times.f (l:List Int)(k:Int):Option (List Int):=if (0≤k∧k≤1000000000∧l.length≤70368744177664)∧(∀ c ∈ l,0≤c∧c≤9) then some (timesL l k) else none
theorem rev_l0 (d:Nat):∀ (k:Nat)(a m b:List Int),m.length≤d→d<k→a.length+m.length+b.length≤4611686018427387904 →
    slices_Reverse_byte_byte.l0 k (a ++ m ++ b) a.length ((a.length+m.length:Int) - 1)=some (a ++ m.reverse ++ b):=by
 induction d with
 | zero=>
  intro k a m b hm hk hb
  obtain ⟨k,rfl⟩:∃ j,k=j+1:=⟨k - 1,by omega⟩
  have:m=[]:=List.eq_nil_of_length_eq_zero (by omega)
  subst this
  simp only [slices_Reverse_byte_byte.l0,List.length_nil,List.reverse_nil]
  rw [if_neg (by omega)]
 | succ d ih=>
  intro k a m b hm hk hb
  obtain ⟨k,rfl⟩:∃ j,k=j+1:=⟨k - 1,by omega⟩
  cases m with
  | nil=>simp only [slices_Reverse_byte_byte.l0,List.length_nil,List.reverse_nil];rw [if_neg (by omega)]
  | cons x m=>
   rcases List.eq_nil_or_concat m with rfl|⟨m,y,rfl⟩
   · simp only [slices_Reverse_byte_byte.l0,List.length_cons,List.length_nil,List.reverse_cons,List.reverse_nil,List.nil_append];rw [if_neg (by omega)]
   simp only [List.concat_eq_append] at *
   have hlm:(x :: (m ++ [y])).length=m.length+2:=by simp
   rw [hlm] at hm hb ⊢
   have hL:(a ++ (x :: (m ++ [y])) ++ b).length=a.length+m.length+2+b.length:=by simp;omega
   have hj:((a.length:Int)+((m.length+2:Nat):Int)) - 1=((a.length+m.length+1:Nat):Int):=by omega
   have hx:rd (a ++ (x :: (m ++ [y])) ++ b) (a.length:Int)=x:=by
    simp [rd,List.getD_eq_getElem?_getD]
   have hy:rd (a ++ (x :: (m ++ [y])) ++ b) ((a.length+m.length+1:Nat):Int)=y:=by
    have e1:a ++ (x :: (m ++ [y])) ++ b=(a ++ x :: m) ++ (y :: b):=by simp
    rw [e1,rd_append_right _ _ _ (by simp;omega)]
    have:a.length+m.length+1 - (a ++ x :: m).length=0:=by simp;omega
    rw [this];rfl
   have hs:((a ++ (x :: (m ++ [y])) ++ b).set a.length y).set (a.length+m.length+1) x=(a ++ [y]) ++ m ++ (x :: b):=by
    have e1:(a ++ (x :: (m ++ [y])) ++ b).set a.length y=a ++ (y :: (m ++ [y])) ++ b:=by
     rw [List.append_assoc,List.set_append_right _ _ (Nat.le_refl _),Nat.sub_self,List.cons_append,List.set_cons_zero]
     simp
    have e2:a ++ (y :: (m ++ [y])) ++ b=((a ++ [y]) ++ m) ++ (y :: b):=by simp
    rw [e1,e2,List.set_append_right _ _ (by simp;omega)]
    have:a.length+m.length+1 - ((a ++ [y]) ++ m).length=0:=by simp;omega
    rw [this,List.set_cons_zero]
   have:=ih k (a ++ [y]) m (x :: b) (by omega) (by omega) (by simp;omega)
   simp only [slices_Reverse_byte_byte.l0]
   rw [hj,if_pos (by omega),if_pos (by omega),if_pos (by rw [hL];omega),if_pos (by omega),if_pos (by rw [hL];omega),hx,hy]
   simp only [Int.toNat_natCast]
   rw [hs,w64 _ (by omega) (by omega),w64 _ (by omega) (by omega)]
   have e3:((a ++ [y]).length:Int)=(a.length:Int)+1:=by simp
   have e4:((a ++ [y]).length+m.length:Int) - 1=((a.length+m.length+1:Nat):Int) - 1:=by simp;omega
   rw [e3] at this e4
   rw [e4] at this
   rw [this]
   simp
theorem rev_f (l:List Int)(hl:l.length≤4611686018427387904):slices_Reverse_byte_byte.f (l.length+1) l=some l.reverse:=by
 have:=rev_l0 l.length (l.length+1) [] l [] (Nat.le_refl _) (by omega) (by simpa using hl)
 unfold slices_Reverse_byte_byte.f
 rw [w64 _ (by omega) (by omega)]
 simpa using this
theorem round_times.calls (A0:Option Addr)(c0:Nat)(l0:List Int)(a1:Int)(r:List Int)(w:World)(hr0:Kd.C (Kd.int .u8) w A0 l0.length l0)(_hc0:l0.length≤c0)(h:round_times.f l0 a1=some r) :
    Calls Tryz.prog 98 #[.slice A0 l0.length c0,.int .i64 a1] w fun e w'=>∃ v0_:Value,e = .returned (v0_)∧Kd.R (Kd.int .u8) 5 w' w.heap.size (fun _=>True) v0_ r∧Below w.heap.size w w':=by
 unfold round_times.f at h
 by_cases hb:(0≤a1∧a1≤1000000000∧l0.length≤70368744177664)∧(∀ c ∈ l0,0≤c∧c≤9)
 rotate_left
 ·rw [if_neg hb] at h
  cases h
 rw [if_pos hb] at h
 obtain rfl:=zE h
 obtain ⟨⟨b1,b2,b3⟩,hf⟩:=hb
 obtain ⟨a1',_⟩:=times_fold ⟨b1,b2⟩ l0.reverse (Figs.reverse hf) (0,[]) ⟨Int.le_refl _,b1⟩ Figs.nil
 have hcar:0≤(timesS a1 (backK l0 l0.length)).1∧(timesS a1 (backK l0 l0.length)).1<9223372036854775808:=by rw [timesS_eq];omega
 have:=times_in Fence.wide 3 trivial trivial trivial trivial rfl (Nat.le_refl _) A0 c0 l0 a1 b3 hcar w hr0 ?_
 ·have h2:=callsIn_wide.1 this
  rw [timesS_eq] at h2
  exact h2
 intro v outs W hB hown hol
 refine callsIn_wide.2 ?_
 refine (slices_Reverse_byte_byte.calls (outs.length+1) (fun k=>v.ownBlock=some k) v outs outs.reverse w W hB (Kd.R_of_own hown (fun k hk=>?_)) (rev_f outs (by omega))).mono ?_
 · exact hk
 rintro e W' ⟨h1,h2,h3,h4⟩
 exact ⟨h1,Kd.R_mono h2 (fun _ _=>trivial),h3,h4⟩
end Go.Proofs.YtklebhlanidloaaGreatDoor.PZ
end
