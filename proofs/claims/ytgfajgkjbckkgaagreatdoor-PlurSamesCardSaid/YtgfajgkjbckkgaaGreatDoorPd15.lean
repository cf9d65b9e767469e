/- Texts of this seat, joined. Conditions: none beyond each statement's own. -/
import Derived.Test.YtgfajgkjbckkgaaGreatDoorPd14
import Derived.RangeFuncBox
import Derived.RangeFuncNested
import Derived.RangeFuncBound
import Derived.RangeFuncCalls
import Derived.RangeFuncLeaves
import Derived.Shelf.RegionOpen
import Derived.OwnWalkIn
import Derived.TacticsInMore
import Derived.LoopNIn
import Derived.LoopIn
import Derived.Laws.ResultCell
set_option linter.all false
section
set_option maxRecDepth 100000
namespace Go.Proofs.YtgfajgkjbckkgaaGreatDoor.PZ
open Go.RowKit Go.Proofs.YtgfajgkjbckkgaaGreatDoorW.PrintWords Go.Proofs.YtgfajgkjbckkgaaGreatDoorW.PrintLast
section
theorem not_none {t:List Int}{j:Nat}(h:notP t=(none,j)):signP [33,61] t=false∧signP [61] t=false∧j=bl t:=by
 unfold notP at h
 split at h
 · cases h
 rename_i h1
 split at h
 · cases h
 rename_i h2
 exact ⟨by simpa using h1,by simpa using h2,(congrArg Prod.snd h).symm⟩
theorem not_case {t:List Int}{b:Bool}{j:Nat}(h:notP t=(some b,j)):(signP [33,61] t=true∧b=true∧j=bl t+2)∨(signP [33,61] t=false∧signP [61] t=true∧b=false∧j=bl t+1):=by
 unfold notP at h
 split at h
 ·rename_i h1
  simp only [Prod.mk.injEq,Option.some.injEq] at h
  exact .inl ⟨h1,h.1.symm,h.2.symm⟩
 rename_i h1
 split at h
 ·rename_i h2
  simp only [Prod.mk.injEq,Option.some.injEq] at h
  exact .inr ⟨by simpa using h1,h2,h.1.symm,h.2.symm⟩
 cases h
def RngOut (W:World)(g:Nat)(s:ByteArray)(K:Nat)(c v:Int)(nt:Bool)(e:Ending)(W':World):Prop:=
  match rngP ((bytesOf s).drop K) with
  | (none,i)=>RelBad W g s (K+i) e W'
  | (some l,i)=>RelGood W g s (K+i+bl ((bytesOf s).drop (K+i))) ⟨c,v,nt,l⟩ e W'
def RestOut (W:World)(g:Nat)(s:ByteArray)(Q:Nat)(c v:Int)(e:Ending)(W':World):Prop:=
  match notP ((bytesOf s).drop Q) with
  | (none,j)=>RelBad W g s (Q+j) e W'
  | (some nt,j)=>RngOut W g s (Q+j) c v nt e W'
theorem rest_none {W W':World}{g:Nat}{s:ByteArray}{Q j:Nat}{c v:Int}{e:Ending}(h:notP ((bytesOf s).drop Q)=(none,j))(k:RelBad W g s (Q+j) e W'):RestOut W g s Q c v e W':=by
 unfold RestOut
 rw [h]
 exact k
theorem rest_bad {W W':World}{g:Nat}{s:ByteArray}{Q j i:Nat}{c v:Int}{nt:Bool}{e:Ending}(h:notP ((bytesOf s).drop Q)=(some nt,j))(h2:rngP ((bytesOf s).drop (Q+j))=(none,i))(k:RelBad W g s (Q+j+i) e W'):RestOut W g s Q c v e W':=by
 unfold RestOut
 rw [h]
 simp only
 unfold RngOut
 rw [h2]
 exact k
theorem rest_good {W W':World}{g:Nat}{s:ByteArray}{Q j i:Nat}{c v:Int}{nt:Bool}{l:List Rg}{e:Ending}(h:notP ((bytesOf s).drop Q)=(some nt,j))(h2:rngP ((bytesOf s).drop (Q+j))=(some l,i))(k:RelGood W g s (Q+j+i+bl ((bytesOf s).drop (Q+j+i))) ⟨c,v,nt,l⟩ e W'):RestOut W g s Q c v e W':=by
 unfold RestOut
 rw [h]
 simp only
 unfold RngOut
 rw [h2]
 exact k
theorem hasTo_eq (x:ByteArray)(s:ByteArray)(P:Nat):hasTo x s P=if signP (bytesOf x) ((bytesOf s).drop P) then P+bl ((bytesOf s).drop P)+x.size else P+bl ((bytesOf s).drop P):=rfl
def comb (l:List Rg)(d:Nat):Option (List Rg)×Nat→Option (List Rg)×Nat
  | (none,j)=>(none,d+j)
  | (some r,j)=>(some (l ++ r),d+j)
theorem comb_comb (l m:List Rg)(d e:Nat)(p:Option (List Rg)×Nat):comb l d (comb m e p)=comb (l ++ m) (d+e) p:=by
 rcases p with ⟨_|r,j⟩
 · simp only [comb,Nat.add_assoc]
 simp only [comb,Nat.add_assoc,List.append_assoc]
theorem comb_nil (p:Option (List Rg)×Nat):comb [] 0 p=p:=by rcases p with ⟨_|r,j⟩ <;> simp [comb]
theorem rng_none {t:List Int}{n:Nat}(h:oneP t=(none,n)):rngP t=(none,n):=by rw [rngP_eq,h]
theorem rng_last {t:List Int}{n:Nat}{r:Rg}(h:oneP t=(some r,n))(hs:signP [44] (t.drop n)=false):rngP t=(some [r],n):=by
 rw [rngP_eq,h]
 simp only [hs,Bool.false_eq_true,if_false]
theorem rng_more {t:List Int}{n:Nat}{r:Rg}(h:oneP t=(some r,n))(hs:signP [44] (t.drop n)=true):rngP t=comb [r] (n+(bl (t.drop n)+1)) (rngP (t.drop (n+(bl (t.drop n)+1)))):=by
 rw [rngP_eq,h]
 simp only [hs,if_true]
 rcases rngP (t.drop (n+(bl (t.drop n)+1))) with ⟨_|r,j⟩ <;> rfl
structure Path (s:ByteArray)(k:Nat)(r:Rg)(K:Nat)(b:Bool):Prop where
  le:K≤s.size
  bad:b=false→∃ n,oneP ((bytesOf s).drop k)=(none,n)∧K=k+n
  good:b=true→∃ n,0<n∧oneP ((bytesOf s).drop k)=(some r,n)∧SameAt s K (k+n)
structure LpOn (s:ByteArray)(K0 k:Nat)(l:List Rg)(gg:Nat):Prop where
  le:k≤s.size
  len:l.length≤k
  from_:K0≤k
  fuel:s.size+1 - k≤gg
  eq:rngP ((bytesOf s).drop K0)=comb l (k - K0) (rngP ((bytesOf s).drop k))
def LpInv (s:ByteArray)(K0 k:Nat)(b mo:Bool)(l:List Rg)(gg:Nat):Prop:=
  (mo=true∧b=true∧LpOn s K0 k l gg)∨(mo=false∧b=false∧∃ i,rngP ((bytesOf s).drop K0)=(none,i)∧k=K0+i) ∨
  (mo=false∧b=true∧∃ i,rngP ((bytesOf s).drop K0)=(some l,i)∧k=K0+i+bl ((bytesOf s).drop (K0+i)))
theorem LpInv.bad {s:ByteArray}{K0 k K:Nat}{l l':List Rg}{r:Rg}{gg gg':Nat}(h:LpOn s K0 k l gg)(p:Path s k r K false):LpInv s K0 K false false l' gg':=by
 obtain ⟨n,h1,h2⟩:=p.bad rfl
 refine .inr (.inl ⟨rfl,rfl,k - K0+n,?_,?_⟩)
 · rw [h.eq,rng_none h1];rfl
 have:=h.from_;omega
theorem LpInv.next {s:ByteArray}{K0 k K:Nat}{l:List Rg}{r:Rg}{gg:Nat}(h:LpOn s K0 k l gg)(p:Path s k r K true) :
    ∃ Z,SameAt s K Z∧∀ gg',gg≤gg'+1→LpInv s K0 (hasTo ⟨#[44]⟩ s Z) true (signP [44] ((bytesOf s).drop Z)) (l ++ [r]) gg':=by
 obtain ⟨n,hn,h1,h2⟩:=p.good rfl
 refine ⟨k+n,h2,fun gg' hgg=>?_⟩
 have hf:=h.from_
 have hle:=h.le
 have hlen:=h.len
 have hfu:=h.fuel
 have hd:((bytesOf s).drop k).drop n=(bytesOf s).drop (k+n):=List.drop_drop ..
 have hsz:=hasTo_le ⟨#[44]⟩ s K h2.le
 rw [h2.has] at hsz
 rw [hasTo_eq] at hsz ⊢
 rw [show bytesOf (⟨#[44]⟩:ByteArray)=[44] from rfl] at hsz ⊢
 cases hs:signP [44] ((bytesOf s).drop (k+n)) with
 | true=>
  rw [hs] at hsz
  simp only [if_true] at hsz ⊢
  rw [show (⟨#[44]⟩:ByteArray).size=1 from rfl] at hsz ⊢
  have he:=rng_more h1 (by rw [hd];exact hs)
  rw [hd,List.drop_drop] at he
  refine .inl ⟨rfl,rfl,hsz,by rw [List.length_append];simp;omega,by omega,by omega,?_⟩
  rw [h.eq,he,comb_comb]
  rw [show k - K0+(n+(bl ((bytesOf s).drop (k+n))+1))=k+n+bl ((bytesOf s).drop (k+n))+1 - K0 by omega,show k+(n+(bl ((bytesOf s).drop (k+n))+1))=k+n+bl ((bytesOf s).drop (k+n))+1 by omega]
 | false=>
  simp only [Bool.false_eq_true,if_false]
  refine .inr (.inr ⟨rfl,rfl,k - K0+n,?_,?_⟩)
  ·rw [h.eq,rng_last h1 (by rw [hd];exact hs)]
   rfl
  rw [show K0+(k - K0+n)=k+n by omega]
section
variable {W wr W2:World}{g:Nat}{s:ByteArray}{a:Nat}{b:Bool}{g2 g3:Nat}{c m:Int}{nt:Bool}{v:Value}{l:List Rg}
theorem RelSt.after (h:RelSt W g s a b g2 g3 c m nt v l wr)(hgr:wr.grownBy W2 v.ownBlock):W2.cell? ⟨g3,3,none⟩=some v∧W2.frozen? ⟨g3,3,none⟩=false:=by
 have hx:=blk_grown h.x3 hgr (fun e=>(h.row_lt g3 e.symm).2.2 rfl)
 exact ⟨(blk_cell hx 3).trans rfl,blk_frozen hx 3⟩
theorem RelSt.fresh (h:RelSt W g s a b g2 g3 c m nt v l wr):∀ k,wr.heap.size≤k→k≠g∧k≠g2∧k≠g3:=by
 intro k hk
 have h1:=blk_lt h.rd.rdr
 have h2:=blk_lt h.z2
 have h3:=blk_lt h.x3
 omega
end
theorem num_at {W0:World}{g:Nat}{s:ByteArray}(H:∀ (K':Nat)(l:Int)(i:Nat)(r:Option Int),K'≤s.size→numP l ((bytesOf s).drop K')=(r,i)→∀ wc:World,RdTo W0 g s K' true wc→Calls Tryz.prog 91 #[.pointer (some ⟨g,0,none⟩),.int .i64 l] wc (NumEnd l wc g s K' true))
    {K':Nat} {l:Int} {i:Nat} {r:Option Int} {wc:World} (h1:K'≤s.size) (h2:numP l ((bytesOf s).drop K')=(r,i)) (hr:RdTo W0 g s K' true wc):Calls Tryz.prog 91 #[.pointer (some ⟨g,0,none⟩),.int .i64 l] wc (NumEnd l wc g s K' true):=H K' l i r h1 h2 wc hr
theorem num_end {g:Nat}{s:ByteArray}{K':Nat}{l:Int}{i:Nat}{wc:World}(h:Calls Tryz.prog 91 #[.pointer (some ⟨g,0,none⟩),.int .i64 l] wc (NumEnd l wc g s K' true))(hn:numP l ((bytesOf s).drop K')=(none,i)) :
    Calls Tryz.prog 91 #[.pointer (some ⟨g,0,none⟩),.int .i64 l] wc fun e W'=>e = .returned (.int .i64 0)∧RdTo wc g s (K'+i) false W':=by
 unfold NumEnd at h
 rw [hn] at h
 exact h
theorem num_end2 {g:Nat}{s:ByteArray}{K':Nat}{l v:Int}{i:Nat}{wc:World}(h:Calls Tryz.prog 91 #[.pointer (some ⟨g,0,none⟩),.int .i64 l] wc (NumEnd l wc g s K' true))(hn:numP l ((bytesOf s).drop K')=(some v,i)) :
    Calls Tryz.prog 91 #[.pointer (some ⟨g,0,none⟩),.int .i64 l] wc fun e W'=>e = .returned (.int .i64 v)∧RdTo wc g s (K'+i) true W':=by
 unfold NumEnd at h
 rw [hn] at h
 exact h
set_option maxHeartbeats 8000000 in
set_option maxRecDepth 100000 in
theorem rel_rest (w0:World)(hG:GL w0)(g:Nat)(s:ByteArray)(a n m:Nat)(c v:Int)(W:World)(h:Rdr W g s a true)(hB:Below w0.heap.size w0 W)(hg0:w0.heap.size≤g)(ha:a≤s.size)(hs0:s.size≤1000000)(hop:opP ((bytesOf s).drop a)=(some c,n))(hm:modP ((bytesOf s).drop (a+n))=(some v,m)) :
    Calls Tryz.prog 66 #[.pointer (some ⟨g,0,none⟩)] W (RestOut W g s (a+n+m) c v):=by
 have hs:s.size≤140737488351232:=by omega
 have hO:=rd_op g s a true (W.alloc (.cells #[.int .u8 0,.int .i64 0,.bool false,.slice none 0 0] 60)) (h.alloc _) ha hs
 have hn:=op_le ha hop
 unfold OpEndR at hO
 rw [hop] at hO
 simp only at hO
 have hg:g<W.heap.size:=blk_lt h
 have HG:=zA hg
 obtain ⟨r37,hr37⟩:∃ r,signP [37] ((bytesOf s).drop (a+n))=r:=⟨_,rfl⟩
 obtain ⟨K,hK⟩:∃ K,hasTo ⟨#[37]⟩ s (a+n)=K:=⟨_,rfl⟩
 have hle:=hasTo_le ⟨#[37]⟩ s (a+n) hn
 rw [hK] at hle
 have HH:=zA (fun (wc:World) (hr:Rdr wc g s (a+n) true)=>has_same ⟨#[37]⟩ (SameAt.refl hn) hr hs hr37 hK)
 have HN:Aside0 (r37=true→∃ j,K+j=a+n+m∧K+j≤s.size∧∀ wc,RdTo W g s K true wc→Calls Tryz.prog 91 #[.pointer (some ⟨g,0,none⟩),.int .i64 1] wc fun e W'=>e = .returned (.int .i64 v)∧RdTo wc g s (K+j) true W'):=⟨fun hr=>by
  rcases mod_case hm with ⟨m1,j,m2,rfl⟩|⟨m1,_,_⟩
  ·rw [hasTo_eq,show bytesOf (⟨#[37]⟩:ByteArray)=[37] from rfl,m1] at hK
   simp only [if_true] at hK
   have e1:K=a+n+(bl ((bytesOf s).drop (a+n))+1):=by rw [← hK];rfl
   rw [List.drop_drop,← e1] at m2
   exact ⟨j,by omega,num_le hle m2,fun wc hrd=>num_ok 1 hG hB hg0 hrd hle hs m2⟩
  rw [hr37,hr] at m1;cases m1⟩
 have HF:Aside0 (r37=false→v=0∧SameAt s K (a+n+m)):=⟨fun hr=>by
  rcases mod_case hm with ⟨m1,_⟩|⟨m1,m2,m3⟩
  · rw [hr37,hr] at m1;cases m1
  rw [hasTo_eq,show bytesOf (⟨#[37]⟩:ByteArray)=[37] from rfl,m1] at hK
  simp only [Bool.false_eq_true,if_false] at hK
  exact ⟨m2,by rw [← hK,m3,Nat.add_zero];exact SameAt.skip hn⟩⟩
 have HRN:=zA (fun (K':Nat) (l:Int) (i:Nat) (r:Option Int) (hK':K'≤s.size) (hn:numP l ((bytesOf s).drop K')=(r,i)) (wc:World) (hr:RdTo W g s K' true wc)=>rd_number l w0 hG g s K' true wc hr.1 (hr.below hB hg0) hg0 hK' hs)
 generalize a+n+m=Q at *
 clear hop hm hK hle hG hB hg0 h hg hr37
 go_enter Tryz.func66,Tryz.ntmps66
 go_upto_region 1 with (fail)
 go_cut [3] (fun s3 wc=>∃ g3,s3 = .pointer (some ⟨g3,0,none⟩)∧Aside0 (RelSt W g s (a+n) true W.heap.size g3 c 0 false (.slice none 0 0) [] wc))
 case first=>
  go_wp2_with (go_at_call 89;refine hO.mono ?_;rintro e W1 ⟨rfl,hr1⟩;have HR:=zA hr1;clear hr1)
  go_meet
  case rel=>exact ⟨W1.heap.size,rfl,⟨RelSt.start HR.out HG.out⟩⟩
 case rest=>
  obtain ⟨g3,rfl,HS⟩:=hcut
  clear hO
  obtain ⟨⟨c0,c1,c2,f1,f2⟩,d0,d1,d2,d3,k1,k2,k3,y0,y1,y2,y3,e0,e1,e2,e3⟩:=HS.out.cells
  go_upto_if 17 with (go_at_call 90;(with_reducible refine (HH.out _ HS.out.rd.rdr).mono ?_);rintro e W2 ⟨rfl,hr2⟩;have HS2:=zA (HS.out.call hr2);clear hr2)
  clear c0 c1 c2 f1 f2 d0 d1 d2 d3 k1 k2 k3 y0 y1 y2 y3 e0 e1 e2 e3
  go_cut [] (fun wc=>∃ P,Aside0 (SameAt s P Q)∧Aside0 (RelSt W g s P true W.heap.size g3 c v false (.slice none 0 0) [] wc))
  case first=>
   cases r37 with
   | true=>
    obtain ⟨j,hj1,hj2,hN⟩:=HN.out rfl
    have HJ:=zA hj1
    have HJ2:=zA hj2
    have HN2:=zA hN
    clear hj1 hj2 hN
    go_wp2_with (go_at_call 91;(with_reducible refine (HN2.out _ HS2.out.rd).mono ?_);rintro e W3 ⟨rfl,hr3⟩;have HS3:=zA (HS2.out.call hr3);clear hr3;obtain ⟨⟨c0,c1,c2,f1,f2⟩,d0,d1,d2,d3,k1,k2,k3,y0,y1,y2,y3,e0,e1,e2,e3⟩:=HS3.out.cells)
    go_meet
    case rel=>exact ⟨K+j,⟨by rw [← HJ.out];exact SameAt.refl HJ2.out⟩,⟨HS3.out.set1 v⟩⟩
   | false=>
    obtain ⟨hv,hS⟩:=HF.out rfl
    subst hv
    have HS4:=zA hS
    clear hS
    go_wp2
    go_meet
    case rel=>exact ⟨K,HS4,HS2⟩
  case rest=>
   clear HS HS2 HH HN HF
   obtain ⟨P,HP,HS⟩:=hcut
   rcases hnot:notP ((bytesOf s).drop Q) with ⟨_|nt,j⟩
   ·have HNOT:=zA hnot
    obtain ⟨n1,n2,hj⟩:=not_none hnot
    subst hj
    have hb:(bytesOf s).drop (Q+bl ((bytesOf s).drop Q))=((bytesOf s).drop Q).drop (bl ((bytesOf s).drop Q)):=(bl_drop s Q).symm
    have hK:hasTo ⟨#[33,61]⟩ s Q=Q+bl ((bytesOf s).drop Q):=by rw [hasTo_eq,show bytesOf (⟨#[33,61]⟩:ByteArray)=[33,61] from rfl,n1];rfl
    have hle:Q+bl ((bytesOf s).drop Q)≤s.size:=by
     have:=hasTo_le ⟨#[33,61]⟩ s P HP.out.le
     rw [HP.out.has,hK] at this
     exact this
    have hK2:hasTo ⟨#[61]⟩ s (Q+bl ((bytesOf s).drop Q))=Q+bl ((bytesOf s).drop Q):=by
     rw [hasTo_eq,show bytesOf (⟨#[61]⟩:ByteArray)=[61] from rfl,hb,sign_skip,n2,bl_bl]
     rfl
    have HA:=zA (fun (wc:World) (hr:Rdr wc g s P true)=>has_same ⟨#[33,61]⟩ HP.out hr hs n1 hK)
    have HB:=zA (fun (wc:World) (hr:Rdr wc g s (Q+bl ((bytesOf s).drop Q)) true)=>has_same ⟨#[61]⟩ (SameAt.refl hle) hr hs (r:=false) (by rw [hb,sign_skip];exact n2) hK2)
    clear hnot n1 n2 hb hK hle hK2 HRN HP
    obtain ⟨E,hE⟩:∃ E,Q+bl ((bytesOf s).drop Q)=E:=⟨_,rfl⟩
    rw [hE] at HA HB
    have HE:=zA hE
    clear hE
    obtain ⟨⟨c0,c1,c2,f1,f2⟩,d0,d1,d2,d3,k1,k2,k3,y0,y1,y2,y3,e0,e1,e2,e3⟩:=HS.out.cells
    go_upto_region 9 with (first
     | (go_at_call 90;(with_reducible refine (HA.out _ HS.out.rd.rdr).mono ?_);rintro e W2 ⟨rfl,hr2⟩;have HS2:=zA (HS.out.call hr2);clear hr2)
     | (go_at_call 90;(with_reducible refine (HB.out _ HS2.out.rd.rdr).mono ?_);rintro e W3 ⟨rfl,hr3⟩;have HS3:=zA (HS2.out.call hr3);clear hr3;obtain ⟨⟨c0,c1,c2,f1,f2⟩,d0,d1,d2,d3,k1,k2,k3,y0,y1,y2,y3,e0,e1,e2,e3⟩:=HS3.out.cells))
    go_cut [] (fun wc=>Aside0 (RelSt W g s E false W.heap.size g3 c v false (.slice none 0 0) [] wc))
    case first=>
     go_wp2
     go_meet
     case rel=>exact ⟨HS3.out.call ((RdTo.start HS3.out.rd.rdr).bad false)⟩
    case rest=>
     clear c0 c1 c2 f1 f2 d0 d1 d2 d3 k1 k2 k3 y0 y1 y2 y3 e0 e1 e2 e3 HS HS2 HS3 HA HB
     have HS:=hcut
     obtain ⟨⟨c0,c1,c2,f1,f2⟩,d0,d1,d2,d3,k1,k2,k3,y0,y1,y2,y3,e0,e1,e2,e3⟩:=HS.out.cells
     go_wp2
     obtain ⟨z1,z2,z3⟩:=HS.out.done
     exact bodyPost_ret (results_cell_row rfl _ _ _ 60 _ (0,0) _ rfl z2 Tryz.underlying60 rfl (by kernel_rfl)) rfl (rest_none HNOT.out ⟨⟨_,_,_,_,_,_,rfl⟩,by rw [HE.out];exact z1⟩)
   have HNOT:=zA hnot
   obtain ⟨r33,hr33⟩:∃ r,signP [33,61] ((bytesOf s).drop Q)=r:=⟨_,rfl⟩
   have hQ:Q+bl ((bytesOf s).drop Q)≤s.size:=by rw [← HP.out.bl_];exact run_size isBl s P HP.out.le
   obtain ⟨E,hE⟩:∃ E,hasTo ⟨#[33,61]⟩ s Q=E:=⟨_,rfl⟩
   have HA:=zA (fun (wc:World) (hr:Rdr wc g s P true)=>has_same ⟨#[33,61]⟩ HP.out hr hs hr33 hE)
   have hjs:Q+j≤s.size:=by
    rcases not_case hnot with ⟨n1,_,rfl⟩|⟨n1,n2,_,rfl⟩
    ·have:=hasTo_le ⟨#[33,61]⟩ s P HP.out.le
     rw [HP.out.has,hasTo_eq,show bytesOf (⟨#[33,61]⟩:ByteArray)=[33,61] from rfl,n1] at this
     exact this
    have:=hasTo_le ⟨#[61]⟩ s P HP.out.le
    rw [HP.out.has,hasTo_eq,show bytesOf (⟨#[61]⟩:ByteArray)=[61] from rfl,n2] at this
    exact this
   have HT:Aside0 (r33=true→nt=true∧E=Q+j):=⟨fun hr=>by
    rcases not_case hnot with ⟨n1,n2,rfl⟩|⟨n1,_⟩
    · exact ⟨n2,by rw [← hE,hasTo_eq,show bytesOf (⟨#[33,61]⟩:ByteArray)=[33,61] from rfl,n1];rfl⟩
    rw [hr33,hr] at n1;cases n1⟩
   have HF:Aside0 (r33=false→nt=false∧∀ wc,Rdr wc g s E true→Calls Tryz.prog 90 #[.pointer (some ⟨g,0,none⟩),.string ⟨#[61]⟩] wc fun e W'=>e = .returned (.bool true)∧RdTo wc g s (Q+j) true W'):=⟨fun hr=>by
    rcases not_case hnot with ⟨n1,_⟩|⟨n1,n2,n3,rfl⟩
    · rw [hr33,hr] at n1;cases n1
    refine ⟨n3,fun wc hrd=>?_⟩
    have hE2:E=Q+bl ((bytesOf s).drop Q):=by rw [← hE,hasTo_eq,show bytesOf (⟨#[33,61]⟩:ByteArray)=[33,61] from rfl,n1];rfl
    have hb:(bytesOf s).drop E=((bytesOf s).drop Q).drop (bl ((bytesOf s).drop Q)):=by rw [hE2];exact (bl_drop s Q).symm
    refine has_same ⟨#[61]⟩ (SameAt.refl (by omega)) hrd hs (r:=true) (by rw [hb,sign_skip];exact n2) ?_
    rw [hasTo_eq,show bytesOf (⟨#[61]⟩:ByteArray)=[61] from rfl,hb,sign_skip,n2,bl_bl,hE2]
    rfl⟩
   clear hnot hE hr33 hQ
   obtain ⟨K0,hK0⟩:∃ K0,Q+j=K0:=⟨_,rfl⟩
   rw [hK0] at HT HF hjs
   have HK0:=zA hK0
   clear hK0
   go_upto_block 0 with (fail)
   go_cut [] (fun wc=>Aside0 (RelSt W g s K0 true W.heap.size g3 c v nt (.slice none 0 0) [] wc))
   case first=>
    obtain ⟨⟨c0,c1,c2,f1,f2⟩,d0,d1,d2,d3,k1,k2,k3,y0,y1,y2,y3,e0,e1,e2,e3⟩:=HS.out.cells
    cases r33 with
    | true=>
     obtain ⟨hnt,hE⟩:=HT.out rfl
     subst hnt
     subst hE
     go_wp2_with (go_at_call 90;(with_reducible refine (HA.out _ HS.out.rd.rdr).mono ?_);rintro e W9 ⟨rfl,hr9⟩;have HS2:=zA (HS.out.call hr9);clear hr9;obtain ⟨⟨c0,c1,c2,f1,f2⟩,d0,d1,d2,d3,k1,k2,k3,y0,y1,y2,y3,e0,e1,e2,e3⟩:=HS2.out.cells)
     go_meet
     case rel=>exact ⟨HS2.out.set2 true⟩
    | false=>
     obtain ⟨hnt,hB⟩:=HF.out rfl
     subst hnt
     have HB:=zA hB
     clear hB
     go_wp2_with (first|(go_at_call 90;(with_reducible refine (HA.out _ HS.out.rd.rdr).mono ?_);rintro e W9 ⟨rfl,hr9⟩;have HS2:=zA (HS.out.call hr9);clear hr9;obtain ⟨⟨c0,c1,c2,f1,f2⟩,d0,d1,d2,d3,k1,k2,k3,y0,y1,y2,y3,e0,e1,e2,e3⟩:=HS2.out.cells)|(go_at_call 90;(with_reducible refine (HB.out _ HS2.out.rd.rdr).mono ?_);rintro e W9 ⟨rfl,hr9⟩;have HS3:=zA (HS2.out.call hr9);clear hr9;obtain ⟨⟨c0,c1,c2,f1,f2⟩,d0,d1,d2,d3,k1,k2,k3,y0,y1,y2,y3,e0,e1,e2,e3⟩:=HS3.out.cells))
     go_meet
     case rel=>exact HS3
   case rest=>
    clear HS HA HT HF HP
    have HS:=hcut
    have HN0:=HRN
    clear HRN hcut
    obtain ⟨⟨c0,c1,c2,f1,f2⟩,d0,d1,d2,d3,k1,k2,k3,y0,y1,y2,y3,e0,e1,e2,e3⟩:=HS.out.cells
    go_wp2
    have LEN0:=zA hs0
    go_loopg [4] (s.size+2) (fun gg s4 wr=>∃ (k:Nat) (b mo:Bool) (v':Value) (l:List Rg),s4 = .bool mo∧Aside0 (RelSt W g s k b W.heap.size g3 c v nt v' l wr)∧Aside0 (LpInv s K0 k b mo l gg))
    case atStart=>exact ⟨K0,true,true,_,[],rfl,HS,⟨.inl ⟨rfl,rfl,hjs,by simp,Nat.le_refl _,by omega,by rw [Nat.sub_self,comb_nil]⟩⟩⟩
    case round=>
     clear HS c0 c1 c2 f1 f2 d0 d1 d2 d3 k1 k2 k3 y0 y1 y2 y3 e0 e1 e2 e3
     obtain ⟨k,b,mo,v',l,rfl,HS,HL⟩:=hrel
     rcases HL.out with ⟨hmo,hb,ho⟩|⟨hmo,hb,i,h1,h2⟩|⟨hmo,hb,i,h1,h2⟩
     ·subst hmo hb
      have HO:=zA ho
      have LEN:=zA (show (l.length+1) * 16≤140737488355328 from by have:=HO.out.len;have:=HO.out.le;have:=LEN0.out;omega)
      clear HL ho
      obtain ⟨⟨c0,c1,c2,f1,f2⟩,d0,d1,d2,d3,k1,k2,k3,y0,y1,y2,y3,e0,e1,e2,e3⟩:=HS.out.cells
      go_upto_block 2 with (fail)
      clear c0 c1 c2 f1 f2 d0 d1 d2 d3 k1 k2 k3 y0 y1 y2 y3 e0 e1 e2 e3
      go_cut [] (fun wc=>∃ (r:Rg) (K:Nat) (b':Bool) (v2:Value),Aside0 (Path s k r K b')∧Aside0 (RelSt W g s K b' W.heap.size g3 c v nt v2 (l ++ [r]) wc))
      case first=>
       obtain ⟨⟨c0,c1,c2,f1,f2⟩,d0,d1,d2,d3,k1,k2,k3,y0,y1,y2,y3,e0,e1,e2,e3⟩:=HS.out.cells
       have hk:=HO.out.le
       rcases h1:numP 0 ((bytesOf s).drop k) with ⟨_|x,n⟩
       ·have HPth:=zA (show Path s k ⟨0,0⟩ (k+n) false from ⟨num_le hk h1,fun _=>⟨n,by unfold oneP;rw [h1],rfl⟩,(fun z=>by cases z)⟩)
        have HA:=zA (fun (wc:World) (hr:RdTo W g s k true wc)=>num_end (num_at HN0.out hk h1 hr) h1)
        clear h1 hk
        go_wp2_with (first|(go_at_call 91;(with_reducible refine (HA.out _ HS.out.rd).mono ?_);rintro e W9 ⟨rfl,hr9⟩;have HS2:=zA (HS.out.call hr9);clear hr9;obtain ⟨⟨c0,c1,c2,f1,f2⟩,d0,d1,d2,d3,k1,k2,k3,y0,y1,y2,y3,e0,e1,e2,e3⟩:=HS2.out.cells)|((with_reducible refine gate_builtin (b:=.append) (xs:=#[.tmp 71,.tmp 75]) rfl ?_);at_builtin;refine Kd.R_append k57 (w0:=_) W.heap.size rfl (.tmp 71) (.tmp 75) 58 57 (.agg #[(.int .i64 0),(.int .i64 0)]) 16 rfl Tryz.underlying58 info57 rfl (by decide) (by omega) _ _ (⟨0,0⟩:Rg) [.int .i64 0,.int .i64 0] (fun k=>k≠g∧k≠W.heap.size∧k≠g3) (fun _=>False) rfl rfl (k57_mkM _ _ _ (⟨0,0⟩:Rg)) (fun _ hk=>hk.elim) HS2.out.fresh HS2.out.row (Below.refl _ _) (Nat.le_trans HS2.out.h2 (Nat.le_of_lt (blk_lt HS2.out.z2))) LEN.out ?_;intro v9 w9 ho9 hb9 hg9 hat9;obtain ⟨A9,c9,e9⟩:=Kd.R_slice ho9;subst e9;obtain ⟨q3,p3⟩:=HS2.out.after hg9;have HS9:=zA (HS2.out.set3 ho9 hg9);clear ho9 hb9 hg9 hat9 d3 k3))
        go_meet
        case rel=>exact ⟨⟨0,0⟩,k+n,false,_,HPth,⟨by have h9:=HS9.out;simp only [List.length_append,List.length_cons,List.length_nil,Nat.zero_add] at h9;exact h9⟩⟩
       have hx:=num_some h1
       have hk1:=num_le hk h1
       have HA:=zA (fun (wc:World) (hr:RdTo W g s k true wc)=>num_end2 (num_at HN0.out hk h1 hr) h1)
       have hx0:0≤x:=hx.1
       have hx1:x≤999999999:=hx.2.2
       have hd:((bytesOf s).drop k).drop n=(bytesOf s).drop (k+n):=List.drop_drop ..
       cases h2:signP [46,46] ((bytesOf s).drop (k+n)) with
       | true=>
        have hK:hasTo ⟨#[46,46]⟩ s (k+n)=k+n+bl ((bytesOf s).drop (k+n))+2:=by
         rw [hasTo_eq,show bytesOf (⟨#[46,46]⟩:ByteArray)=[46,46] from rfl,h2];rfl
        have hk2:=hasTo_le ⟨#[46,46]⟩ s (k+n) hk1
        rw [hK] at hk2
        have HB:=zA (fun (wc:World) (hr:Rdr wc g s (k+n) true)=>has_same ⟨#[46,46]⟩ (SameAt.refl hk1) hr hs h2 hK)
        have hd2:((bytesOf s).drop k).drop (n+(bl ((bytesOf s).drop (k+n))+2))=(bytesOf s).drop (k+n+bl ((bytesOf s).drop (k+n))+2):=by rw [List.drop_drop];congr 1;omega
        rcases h3:numP (x+1) ((bytesOf s).drop (k+n+bl ((bytesOf s).drop (k+n))+2)) with ⟨_|y,m'⟩
        ·have HPth:=zA (show Path s k ⟨x,0⟩ (k+n+bl ((bytesOf s).drop (k+n))+2+m') false from ⟨num_le hk2 h3,fun _=>⟨n+(bl ((bytesOf s).drop (k+n))+2)+m',by unfold oneP;rw [h1];simp only [hd,h2,if_true,hd2,h3],by omega⟩,(fun z=>by cases z)⟩)
         have HC:=zA (fun (wc:World) (hr:RdTo W g s _ true wc)=>num_end (num_at HN0.out hk2 h3 hr) h3)
         generalize k+n+bl ((bytesOf s).drop (k+n))+2=K2 at *
         clear h1 h2 h3 hk hk1 hk2 hx hd hd2 hK
         go_wp2_with (first|(go_at_call 91;(with_reducible refine (HA.out _ HS.out.rd).mono ?_);rintro e W9 ⟨rfl,hr9⟩;have HS2:=zA (HS.out.call hr9);clear hr9;obtain ⟨⟨c0,c1,c2,f1,f2⟩,d0,d1,d2,d3,k1,k2,k3,y0,y1,y2,y3,e0,e1,e2,e3⟩:=HS2.out.cells)|(go_at_call 90;(with_reducible refine (HB.out _ HS2.out.rd.rdr).mono ?_);rintro e W9 ⟨rfl,hr9⟩;have HS3:=zA (HS2.out.call hr9);clear hr9;obtain ⟨⟨c0,c1,c2,f1,f2⟩,d0,d1,d2,d3,k1,k2,k3,y0,y1,y2,y3,e0,e1,e2,e3⟩:=HS3.out.cells)|(go_at_call 91;(with_reducible refine (HC.out _ HS3.out.rd).mono ?_);rintro e W9 ⟨rfl,hr9⟩;have HS4:=zA (HS3.out.call hr9);clear hr9;obtain ⟨⟨c0,c1,c2,f1,f2⟩,d0,d1,d2,d3,k1,k2,k3,y0,y1,y2,y3,e0,e1,e2,e3⟩:=HS4.out.cells)|((with_reducible refine gate_builtin (b:=.append) (xs:=#[.tmp 71,.tmp 75]) rfl ?_);at_builtin;refine Kd.R_append k57 (w0:=_) W.heap.size rfl (.tmp 71) (.tmp 75) 58 57 (.agg #[(.int .i64 0),(.int .i64 0)]) 16 rfl Tryz.underlying58 info57 rfl (by decide) (by omega) _ _ (⟨x,0⟩:Rg) [.int .i64 x,.int .i64 0] (fun k=>k≠g∧k≠W.heap.size∧k≠g3) (fun _=>False) rfl rfl (k57_mkM _ _ _ (⟨x,0⟩:Rg)) (fun _ hk=>hk.elim) HS4.out.fresh HS4.out.row (Below.refl _ _) (Nat.le_trans HS4.out.h2 (Nat.le_of_lt (blk_lt HS4.out.z2))) LEN.out ?_;intro v9 w9 ho9 hb9 hg9 hat9;obtain ⟨A9,c9,e9⟩:=Kd.R_slice ho9;subst e9;obtain ⟨q3,p3⟩:=HS4.out.after hg9;have HS9:=zA (HS4.out.set3 ho9 hg9);clear ho9 hb9 hg9 hat9 d3 k3))
         go_meet
         case rel=>exact ⟨⟨x,0⟩,K2+m',false,_,HPth,⟨by have h9:=HS9.out;simp only [List.length_append,List.length_cons,List.length_nil,Nat.zero_add] at h9;exact h9⟩⟩
        have HPth:=zA (show Path s k ⟨x,y⟩ (k+n+bl ((bytesOf s).drop (k+n))+2+m') true from ⟨num_le hk2 h3,(fun z=>by cases z),fun _=>⟨n+(bl ((bytesOf s).drop (k+n))+2)+m',by omega,by unfold oneP;rw [h1];simp only [hd,h2,if_true,hd2,h3],by
         rw [show k+(n+(bl ((bytesOf s).drop (k+n))+2)+m')=k+n+bl ((bytesOf s).drop (k+n))+2+m' by omega]
         exact SameAt.refl (num_le hk2 h3)⟩⟩)
        have HC:=zA (fun (wc:World) (hr:RdTo W g s _ true wc)=>num_end2 (num_at HN0.out hk2 h3 hr) h3)
        generalize k+n+bl ((bytesOf s).drop (k+n))+2=K2 at *
        clear h1 h2 h3 hk hk1 hk2 hx hd hd2 hK
        go_wp2_with (first|(go_at_call 91;(with_reducible refine (HA.out _ HS.out.rd).mono ?_);rintro e W9 ⟨rfl,hr9⟩;have HS2:=zA (HS.out.call hr9);clear hr9;obtain ⟨⟨c0,c1,c2,f1,f2⟩,d0,d1,d2,d3,k1,k2,k3,y0,y1,y2,y3,e0,e1,e2,e3⟩:=HS2.out.cells)|(go_at_call 90;(with_reducible refine (HB.out _ HS2.out.rd.rdr).mono ?_);rintro e W9 ⟨rfl,hr9⟩;have HS3:=zA (HS2.out.call hr9);clear hr9;obtain ⟨⟨c0,c1,c2,f1,f2⟩,d0,d1,d2,d3,k1,k2,k3,y0,y1,y2,y3,e0,e1,e2,e3⟩:=HS3.out.cells)|(go_at_call 91;(with_reducible refine (HC.out _ HS3.out.rd).mono ?_);rintro e W9 ⟨rfl,hr9⟩;have HS4:=zA (HS3.out.call hr9);clear hr9;obtain ⟨⟨c0,c1,c2,f1,f2⟩,d0,d1,d2,d3,k1,k2,k3,y0,y1,y2,y3,e0,e1,e2,e3⟩:=HS4.out.cells)|((with_reducible refine gate_builtin (b:=.append) (xs:=#[.tmp 71,.tmp 75]) rfl ?_);at_builtin;refine Kd.R_append k57 (w0:=_) W.heap.size rfl (.tmp 71) (.tmp 75) 58 57 (.agg #[(.int .i64 0),(.int .i64 0)]) 16 rfl Tryz.underlying58 info57 rfl (by decide) (by omega) _ _ (⟨x,y⟩:Rg) [.int .i64 x,.int .i64 y] (fun k=>k≠g∧k≠W.heap.size∧k≠g3) (fun _=>False) rfl rfl (k57_mkM _ _ _ (⟨x,y⟩:Rg)) (fun _ hk=>hk.elim) HS4.out.fresh HS4.out.row (Below.refl _ _) (Nat.le_trans HS4.out.h2 (Nat.le_of_lt (blk_lt HS4.out.z2))) LEN.out ?_;intro v9 w9 ho9 hb9 hg9 hat9;obtain ⟨A9,c9,e9⟩:=Kd.R_slice ho9;subst e9;obtain ⟨q3,p3⟩:=HS4.out.after hg9;have HS9:=zA (HS4.out.set3 ho9 hg9);clear ho9 hb9 hg9 hat9 d3 k3))
        go_meet
        case rel=>exact ⟨⟨x,y⟩,K2+m',true,_,HPth,⟨by have h9:=HS9.out;simp only [List.length_append,List.length_cons,List.length_nil,Nat.zero_add] at h9;exact h9⟩⟩
       | false=>
        have hK:hasTo ⟨#[46,46]⟩ s (k+n)=k+n+bl ((bytesOf s).drop (k+n)):=by
         rw [hasTo_eq,show bytesOf (⟨#[46,46]⟩:ByteArray)=[46,46] from rfl,h2];rfl
        have HB:=zA (fun (wc:World) (hr:Rdr wc g s (k+n) true)=>has_same ⟨#[46,46]⟩ (SameAt.refl hk1) hr hs h2 hK)
        have hn:=(num_pos' h1).1
        have HPth:=zA (show Path s k ⟨x,x⟩ (k+n+bl ((bytesOf s).drop (k+n))) true from ⟨run_size isBl s _ hk1,(fun z=>by cases z),fun _=>⟨n,hn,by unfold oneP;rw [h1];simp only [hd,h2,Bool.false_eq_true,if_false],SameAt.skip hk1⟩⟩)
        generalize k+n+bl ((bytesOf s).drop (k+n))=K2 at *
        clear h1 h2 hk hk1 hx hd hK hn
        go_wp2_with (first|(go_at_call 91;(with_reducible refine (HA.out _ HS.out.rd).mono ?_);rintro e W9 ⟨rfl,hr9⟩;have HS2:=zA (HS.out.call hr9);clear hr9;obtain ⟨⟨c0,c1,c2,f1,f2⟩,d0,d1,d2,d3,k1,k2,k3,y0,y1,y2,y3,e0,e1,e2,e3⟩:=HS2.out.cells)|(go_at_call 90;(with_reducible refine (HB.out _ HS2.out.rd.rdr).mono ?_);rintro e W9 ⟨rfl,hr9⟩;have HS3:=zA (HS2.out.call hr9);clear hr9;obtain ⟨⟨c0,c1,c2,f1,f2⟩,d0,d1,d2,d3,k1,k2,k3,y0,y1,y2,y3,e0,e1,e2,e3⟩:=HS3.out.cells)|((with_reducible refine gate_builtin (b:=.append) (xs:=#[.tmp 71,.tmp 75]) rfl ?_);at_builtin;refine Kd.R_append k57 (w0:=_) W.heap.size rfl (.tmp 71) (.tmp 75) 58 57 (.agg #[(.int .i64 0),(.int .i64 0)]) 16 rfl Tryz.underlying58 info57 rfl (by decide) (by omega) _ _ (⟨x,x⟩:Rg) [.int .i64 x,.int .i64 x] (fun k=>k≠g∧k≠W.heap.size∧k≠g3) (fun _=>False) rfl rfl (k57_mkM _ _ _ (⟨x,x⟩:Rg)) (fun _ hk=>hk.elim) HS3.out.fresh HS3.out.row (Below.refl _ _) (Nat.le_trans HS3.out.h2 (Nat.le_of_lt (blk_lt HS3.out.z2))) LEN.out ?_;intro v9 w9 ho9 hb9 hg9 hat9;obtain ⟨A9,c9,e9⟩:=Kd.R_slice ho9;subst e9;obtain ⟨q3,p3⟩:=HS3.out.after hg9;have HS9:=zA (HS3.out.set3 ho9 hg9);clear ho9 hb9 hg9 hat9 d3 k3))
        go_meet
        case rel=>exact ⟨⟨x,x⟩,K2,true,_,HPth,⟨by have h9:=HS9.out;simp only [List.length_append,List.length_cons,List.length_nil,Nat.zero_add] at h9;exact h9⟩⟩
      case rest=>
       clear HS
       obtain ⟨r,K,b',v2,HP,HS⟩:=hcut
       obtain ⟨⟨c0,c1,c2,f1,f2⟩,d0,d1,d2,d3,k1,k2,k3,y0,y1,y2,y3,e0,e1,e2,e3⟩:=HS.out.cells
       cases b' with
       | false=>
        have HI:=zA (fun gg':Nat=>LpInv.bad (l':=l ++ [r]) (gg':=gg') HO.out HP.out)
        have hfu:=HO.out.fuel
        have hle:=HO.out.le
        go_wp2
        go_roundg 0
        case measure=>omega
        case rel=>exact ⟨K,false,false,v2,l ++ [r],rfl,HS,⟨HI.out _⟩⟩
       | true=>
        obtain ⟨Z,hZ,hI⟩:=LpInv.next HO.out HP.out
        have HI:=zA hI
        have HB:=zA (fun (wc:World) (hr:Rdr wc g s K true)=>has_same ⟨#[44]⟩ hZ hr hs rfl rfl)
        have hfu:=HO.out.fuel
        have hle:=HO.out.le
        clear hZ hI
        rw [show bytesOf (⟨#[44]⟩:ByteArray)=[44] from rfl] at HB
        generalize signP [44] ((bytesOf s).drop Z)=r44 at *
        generalize hasTo ⟨#[44]⟩ s Z=E9 at *
        go_wp2_with (go_at_call 90;(with_reducible refine (HB.out _ HS.out.rd.rdr).mono ?_);rintro e W9 ⟨rfl,hr9⟩;have HS2:=zA (HS.out.call hr9);clear hr9;obtain ⟨⟨c0,c1,c2,f1,f2⟩,d0,d1,d2,d3,k1,k2,k3,y0,y1,y2,y3,e0,e1,e2,e3⟩:=HS2.out.cells)
        go_roundg (gk - 1)
        case measure=>omega
        case rel=>exact ⟨E9,true,r44,v2,l ++ [r],rfl,HS2,⟨HI.out _ (by omega)⟩⟩
     ·subst hmo hb
      have HR:=zA h1
      have HK:=zA h2
      clear h1 h2 HL
      obtain ⟨Av,cv,ev⟩:=Kd.R_slice HS.out.row
      subst ev
      obtain ⟨⟨c0,c1,c2,f1,f2⟩,d0,d1,d2,d3,k1,k2,k3,y0,y1,y2,y3,e0,e1,e2,e3⟩:=HS.out.cells
      go_wp2
      obtain ⟨z1,z2,z3⟩:=HS.out.done
      exact bodyPost_ret (results_cell_row rfl _ _ _ 60 _ (0,0) _ rfl z2 Tryz.underlying60 rfl (by kernel_rfl)) rfl (rest_bad HNOT.out (by rw [HK0.out];exact HR.out) ⟨⟨_,_,_,_,_,_,rfl⟩,by rw [HK0.out,← HK.out];exact z1⟩)
     subst hmo hb
     have HR:=zA h1
     have HK:=zA h2
     clear h1 h2 HL
     obtain ⟨Av,cv,ev⟩:=Kd.R_slice HS.out.row
     subst ev
     obtain ⟨⟨c0,c1,c2,f1,f2⟩,d0,d1,d2,d3,k1,k2,k3,y0,y1,y2,y3,e0,e1,e2,e3⟩:=HS.out.cells
     go_wp2
     obtain ⟨z1,z2,z3⟩:=HS.out.done
     exact bodyPost_ret (results_cell_row rfl _ _ _ 60 _ (0,0) _ rfl z2 Tryz.underlying60 rfl (by kernel_rfl)) rfl (rest_good HNOT.out (by rw [HK0.out];exact HR.out) ⟨_,rfl,z3,by rw [HK0.out,← HK.out];exact z1⟩)
end
end Go.Proofs.YtgfajgkjbckkgaaGreatDoor.PZ
end
section
set_option maxRecDepth 100000
namespace Go.Proofs.YtgfajgkjbckkgaaGreatDoor.PZ
open Go.RowKit Go.Shelf Go.Proofs.YtgfajgkjbckkgaaGreatDoorW.PrintWords Go.Proofs.YtgfajgkjbckkgaaGreatDoorW.PrintLast
section
attribute [local go_sem] Oper.semAt_some
def hlist (q:Ru→Bool)(l:List Ru):List Int:=(l.filter q).map (·.f0)
theorem hlist_more {q:Ru→Bool}{l:List Ru}{k:Nat}(hk:k<l.length):hlist q (l.take (k+1))=hlist q (l.take k) ++ (if q (l.getD k ⟨0,[]⟩)=true then [(l.getD k ⟨0,[]⟩).f0] else []):=by
 unfold hlist
 have e:l.getD k ⟨0,[]⟩=l[k]:=by simp [List.getD_eq_getElem?_getD,List.getElem?_eq_getElem hk]
 rw [List.take_succ_eq_append_getElem hk,List.filter_append,List.map_append,e]
 congr 1
 by_cases h:q l[k]=true <;> simp [h]
theorem hlist_split (q:Ru→Bool)(l:List Ru)(k:Nat):hlist q l=hlist q (l.take k) ++ hlist q (l.drop k):=by
 unfold hlist
 conv=>lhs;rw [← List.take_append_drop k l,List.filter_append,List.map_append]
theorem hlist_lt {q:Ru→Bool}{l:List Ru}{k:Nat}(hk:k<l.length)(h:q (l.getD k ⟨0,[]⟩)=true):(hlist q (l.take k)).length<(hlist q l).length:=by
 have e1:=congrArg List.length (hlist_split q l (k+1))
 have e2:=congrArg List.length (hlist_more (q:=q) hk)
 rw [if_pos h] at e2
 simp only [List.length_append,List.length_cons,List.length_nil] at e1 e2
 omega
structure PlArgs (W:World)(Bl Bo:Nat)(A:Option Addr)(cap:Nat)(l:List Ru)(A0:Option Addr)(n0 c0:Nat)(A1:Option Addr)(n1 c1:Nat)(a2 a3:Int):Prop where
  bl:W.cell? ⟨Bl,0,none⟩=some (.slice A l.length cap)
  o0:W.cell? ⟨Bo,0,none⟩=some (.slice A0 n0 c0)
  o1:W.cell? ⟨Bo,1,none⟩=some (.slice A1 n1 c1)
  o2:W.cell? ⟨Bo,2,none⟩=some (.int .i64 a2)
  o3:W.cell? ⟨Bo,3,none⟩=some (.int .i64 a3)
  row:Kd.C k65 W A l.length l
theorem PlArgs.below {W W':World}{Bl Bo:Nat}{A:Option Addr}{cap:Nat}{l:List Ru}{A0:Option Addr}{n0 c0:Nat}{A1:Option Addr}{n1 c1:Nat}{a2 a3:Int}(h:PlArgs W Bl Bo A cap l A0 n0 c0 A1 n1 c1 a2 a3)(hb:Below W.heap.size W W'):PlArgs W' Bl Bo A cap l A0 n0 c0 A1 n1 c1 a2 a3:=by
 have hk:∀ {a:Addr} {u:Value},W.cell? a=some u→W'.cell? a=some u:=fun h=>(hb.cell (World.block_lt_of_cell? W _ h)).trans h
 exact ⟨hk h.bl,hk h.o0,hk h.o1,hk h.o2,hk h.o3,Kd.C_below h.row hb⟩
theorem below_none {W W':World}(hb:Below W.heap.size W W'):W.grownBy W' none:=⟨hb.os,hb.tape,hb.output,hb.size,fun k hk _=>hb.block k hk⟩
set_option maxRecDepth 100000 in
set_option maxHeartbeats 4000000 in
theorem holding1_in (F:Fence)(n:Nat)(hf:F.fn 70)(hf3:F.fn 37)(hro:F.round=none)(hn:2≤n)(lk Bl Bo:Nat)(A:Option Addr)(cap:Nat)(l:List Ru)(A0:Option Addr)(n0 c0:Nat)(A1:Option Addr)(n1 c1:Nat)(a2 a3:Int)(q:Ru→Bool)
    (w:World) (ha:PlArgs w Bl Bo A cap l A0 n0 c0 A1 n1 c1 a2 a3)
    (hH:∀ x ∈ l,∀ W Ax cx,Below w.heap.size w W→Kd.C (Kd.slice 60 k60) W Ax x.f1.length x.f1→x.f1.length≤cx→CallsIn F (n - 1) Tryz.prog 37 #[.slice Ax x.f1.length cx,.agg #[.slice A0 n0 c0,.slice A1 n1 c1,.int .i64 a2,.int .i64 a3]] W fun e w'=>e = .returned (.bool (q x))∧Below W.heap.size W w')
    (J Jx:List Int→World→Prop) (W:World) (hW:Below w.heap.size w W) (hJ:AbidesFrom W.heap.size J)
    (hY:∀ pre x W1,J pre W1→pre.length<(hlist q l).length→YieldAt F (n - 1) Tryz.prog lk #[.int .i64 x] W1 fun e W'=>
      (e = .returned (.bool true)∧J (pre ++ [x]) W'∧Below w.heap.size W1 W')∨(e = .returned (.bool false)∧Jx (pre ++ [x]) W'))
    (h0:J [] W) :
    CallsIn F n Tryz.prog 70 #[.func (.yield lk) #[] #[],.pointer (some ⟨Bl,0,none⟩),.pointer (some ⟨Bo,0,none⟩)] W fun e W'=>(∃ v,e = .returned v) ∧
      ((∃ ys,ys=hlist q l∧J ys W')∨(∃ pre,(∃ t,hlist q l=pre ++ t)∧Jx pre W')):=by
 have h1:1≤n - 1:=by omega
 have h2:1≤n:=by omega
 have hl:=ha.row.2.1
 have ha0:=ha.below hW
 have hb0:=ha0.bl
 have HA:=zA (fun W' (hb:Below w.heap.size w W')=>ha.below hb)
 have HH:=zA hH
 have HY:=zA hY
 have HJ:=zA hJ
 clear hH hY hJ ha ha0
 refine callsIn_of_wp Tryz.func70 rfl hf ?_ hro
 simp only [Tryz.ntmps70,List.size_toArray,List.length_cons,List.length_nil,Nat.reduceAdd,Nat.reduceSub,Array.replicate_succ,Array.replicate_zero,List.push_toArray,List.append_toArray,List.nil_append,List.cons_append]
 gi_wp2
 clear hb0
 gi_loopw [8] (fun i wr=>∃ k:Nat,k≤l.length∧i = .int .i64 k∧Aside0 (J (hlist q (l.take k)) wr)∧Aside0 (Below w.heap.size w wr)∧Aside0 (W.heap.size≤wr.heap.size))
  (fun i _=>l.length - (intOf i).toNat)
 case atStart=>exact ⟨0,Nat.zero_le _,rfl,⟨h0⟩,⟨hW⟩,⟨Nat.le_refl _⟩⟩
 case round=>
  obtain ⟨k,hk,rfl,HJs,HB,HZ⟩:=hrel
  by_cases hlt:k<l.length
  rotate_left
  ·have j1:decide ((k:Int)<(l.length:Int))=false:=zD (by omega)
   gi_wp2
   go_end0
   exact ⟨⟨_,rfl⟩,.inl ⟨_,by rw [List.take_of_length_le (by omega)],HJs.out⟩⟩
  have j1:decide ((k:Int)<(l.length:Int))=true:=zC (by omega)
  have HAr:=HA.out wr HB.out
  obtain ⟨ad,A3,c3,e3,x0,x1,hx3,HX⟩:=ruled_at HAr.row k hlt
  subst e3
  have p0:(0≤(k:Int))=True:=eq_true (by omega)
  have m2:decide (k<l.length)=true:=zC hlt
  have m3:((k:Int)<(l.length:Int))=True:=eq_true (by omega)
  have m4:(k<l.length)=True:=eq_true hlt
  have hmem:=getD_mem (⟨0,[]⟩:Ru) hlt
  have hmore:=hlist_more (q:=q) hlt
  have hlen:=zA (hlist_lt (q:=q) hlt)
  have hgo:=zA (hlist_split q l (k+1))
  generalize l.getD k ⟨0,[]⟩=X at *
  have HBx:=below_alloc (Below.refl wr.heap.size wr) (.cells #[.int .i64 X.f0,.slice A3 X.f1.length c3] 65)
  have hnew:=heap_alloc_new wr (.cells #[.int .i64 X.f0,.slice A3 X.f1.length c3] 65)
  have HC:=zA (HH.out X hmem _ A3 c3 (below_step HB.out HBx) (Kd.C_below HX HBx) hx3)
  have z0:=fun o=>((below_alloc (Below.refl wr.heap.size wr) o).cell (World.block_lt_of_cell? wr _ HAr.o0)).trans HAr.o0
  have z1:=fun o=>((below_alloc (Below.refl wr.heap.size wr) o).cell (World.block_lt_of_cell? wr _ HAr.o1)).trans HAr.o1
  have z2:=fun o=>((below_alloc (Below.refl wr.heap.size wr) o).cell (World.block_lt_of_cell? wr _ HAr.o2)).trans HAr.o2
  have z3:=fun o=>((below_alloc (Below.refl wr.heap.size wr) o).cell (World.block_lt_of_cell? wr _ HAr.o3)).trans HAr.o3
  have hcat:=zA ((blk_cell hnew 0).trans (rfl:_=some (Value.int .i64 X.f0)))
  replace HBx:=zA HBx
  replace hmore:=zA hmore
  clear HAr HX hx3 hmem hnew
  cases hq:q X with
  | false=>
   rw [hq] at HC
   gi_wp2_with (gi_at_call 37;refine (HC.out).mono ?_;rintro e w5 ⟨rfl,hb5⟩;have hB:=zA (below_step HBx.out hb5);clear hb5)
   refine ⟨(fun _ h_=>by cases h_),?_⟩
   gi_wp2
   go_roundw
   case rel=>
    refine ⟨k+1,by omega,by go_num,⟨?_⟩,⟨below_step HB.out hB.out⟩,⟨Nat.le_trans HZ.out hB.out.size⟩⟩
    rw [hmore.out,hq]
    simp only [Bool.false_eq_true,if_false,List.append_nil]
    exact HJ.out _ _ _ none HJs.out (below_none hB.out) (fun _ e=>by cases e)
   case measure=>first|omega|(simp [intOf];omega)
  | true=>
   rw [hq] at HC
   replace hlen:=zA (hlen.out hq)
   replace hmore:=zA (hmore.out.trans (by rw [hq,if_pos rfl]))
   clear hq
   gi_wp2_with (gi_at_call 37;refine (HC.out).mono ?_;rintro e w5 ⟨rfl,hb5⟩;have hcat5:=(hb5.cell (World.block_lt_of_cell? _ _ hcat.out)).trans hcat.out;have hB:=zA (below_step HBx.out hb5);clear hb5;obtain ⟨fn,tmps,assign,body,hy,hR⟩:=HY.out (hlist q (l.take k)) X.f0 w5 (HJ.out _ _ _ none HJs.out (below_none hB.out) (fun _ e=>by cases e)) hlen.out;(try dsimp only at hy);have HR:=zA hR;clear hR)
   refine HR.out.mono ?_
   rintro e W3 (⟨rfl,hJ3,hk3⟩|⟨rfl,hJx3⟩)
   ·gi_wp2
    go_roundw
    case rel=>
     exact ⟨k+1,by omega,by go_num,⟨by rw [hmore.out];exact hJ3⟩,⟨(below_step HB.out hB.out).trans hk3⟩,⟨Nat.le_trans (Nat.le_trans HZ.out hB.out.size) hk3.size⟩⟩
    case measure=>simp [intOf];omega
   gi_wp2
   refine bodyPost_ret (results_none rfl _ _ _) rfl ?_
   exact ⟨⟨_,rfl⟩,.inr ⟨_,⟨_,by rw [hgo.out,hmore.out]⟩,hJx3⟩⟩
theorem holding_in (F:Fence)(n:Nat)(hf:F.fn 50)(hro:F.round=none)(A:Option Addr)(ln cap:Nat)(A0:Option Addr)(n0 c0:Nat)(A1:Option Addr)(n1 c1:Nat)(a2 a3:Int)(w:World) :
    CallsIn F n Tryz.prog 50 #[.slice A ln cap,.agg #[.slice A0 n0 c0,.slice A1 n1 c1,.int .i64 a2,.int .i64 a3]] w fun e w'=>e = .returned (.func (.func 70) #[] #[.pointer (some ⟨w.heap.size,0,none⟩),.pointer (some ⟨w.heap.size+1,0,none⟩)]) ∧
      w'=(w.alloc (.cells #[.slice A ln cap] 28)).alloc (.cells #[.slice A0 n0 c0,.slice A1 n1 c1,.int .i64 a2,.int .i64 a3] 36):=by
 refine callsIn_of_wp Tryz.func50 rfl hf ?_ hro
 simp only [Tryz.ntmps50,List.size_toArray,List.length_cons,List.length_nil,Nat.reduceAdd,Nat.reduceSub,Array.replicate_succ,Array.replicate_zero,List.push_toArray,List.append_toArray,List.nil_append,List.cons_append]
 gi_wp2
 go_ret
 exact ⟨rfl,rfl⟩
set_option maxRecDepth 100000 in
set_option maxHeartbeats 4000000 in
theorem of_in (F:Fence)(n:Nat)(hf:F.fn 27)(hf1:F.fn 50)(hf2:F.fn 70)(hf3:F.fn 37)(hro:F.round=none)(hn:3≤n)(A:Option Addr)(cap:Nat)(l:List Ru)(A0:Option Addr)(n0 c0:Nat)(A1:Option Addr)(n1 c1:Nat)(a2 a3:Int)(q:Ru→Bool)
    (w:World) (hr:Kd.C k65 w A l.length l)
    (hH:∀ x ∈ l,∀ W Ax cx,Below w.heap.size w W→Kd.C (Kd.slice 60 k60) W Ax x.f1.length x.f1→x.f1.length≤cx→CallsIn F (n - 1 - 1) Tryz.prog 37 #[.slice Ax x.f1.length cx,.agg #[.slice A0 n0 c0,.slice A1 n1 c1,.int .i64 a2,.int .i64 a3]] W fun e w'=>e = .returned (.bool (q x))∧Below W.heap.size W w') :
    CallsIn F n Tryz.prog 27 #[.slice A l.length cap,.agg #[.slice A0 n0 c0,.slice A1 n1 c1,.int .i64 a2,.int .i64 a3]] w fun e W'=>e = .returned (.int .i64 ((hlist q l).headD 0))∧Below w.heap.size w W':=by
 have h1:1≤n:=by omega
 refine callsIn_of_wp_marks Tryz.func27 rfl hf ?_ hro
 simp only [Tryz.ntmps27,List.size_toArray,List.length_cons,List.length_nil,Nat.reduceAdd,Nat.reduceSub,Array.replicate_succ,Array.replicate_zero,List.push_toArray,List.append_toArray,List.nil_append,List.cons_append]
 have HR:=zA hr
 have HH:=zA hH
 clear hr hH
 gi_wp2_with (gi_at_call 50;refine (holding_in F (n - 1) hf1 hro _ _ _ _ _ _ _ _ _ _ _ _).mono ?_;rintro e w' ⟨rfl,rfl⟩)
 obtain ⟨w2,hw2⟩:∃ w2,w2=(w.alloc (.cells #[.slice A0 n0 c0,.slice A1 n1 c1,.int .i64 a2,.int .i64 a3] 36)).alloc (.cells #[.int .i64 0] 3):=⟨_,rfl⟩
 obtain ⟨w4,hw4⟩:∃ w4,w4=(w2.alloc (.cells #[.slice A l.length cap] 28)).alloc (.cells #[.slice A0 n0 c0,.slice A1 n1 c1,.int .i64 a2,.int .i64 a3] 36):=⟨_,rfl⟩
 have hs2:w2.heap.size=w.heap.size+1+1:=by rw [hw2];simp
 have hs4:w4.heap.size=w.heap.size+1+1+1+1:=by rw [hw4];simp [hs2]
 have hb2:Below w.heap.size w w2:=by rw [hw2];exact below_alloc (below_alloc (Below.refl _ _) _) _
 have hb4:Below w.heap.size w w4:=by rw [hw4];exact below_alloc (below_alloc hb2 _) _
 have bR2:Boxed w2 (w.heap.size+1) 3 (.int .i64 0):=by
  have:=Boxed.new (w.alloc (.cells #[.slice A0 n0 c0,.slice A1 n1 c1,.int .i64 a2,.int .i64 a3] 36)) 3 (.int .i64 0)
  simp only [World.size_alloc] at this
  rw [hw2];exact this
 have bR:Boxed w4 (w.heap.size+1) 3 (.int .i64 0):=by rw [hw4];exact (bR2.alloc _).alloc _
 have bL:Boxed w4 (w.heap.size+1+1) 28 (.slice A l.length cap):=by
  have:=(Boxed.new w2 28 (.slice A l.length cap)).alloc (.cells #[.slice A0 n0 c0,.slice A1 n1 c1,.int .i64 a2,.int .i64 a3] 36)
  rw [hs2] at this
  rw [hw4];exact this
 have bO:=heap_alloc_new (w2.alloc (.cells #[.slice A l.length cap] 28)) (.cells #[.slice A0 n0 c0,.slice A1 n1 c1,.int .i64 a2,.int .i64 a3] 36)
 rw [World.size_alloc,hs2,← hw4] at bO
 have ha:PlArgs w4 (w.heap.size+1+1) (w.heap.size+1+1+1) A cap l A0 n0 c0 A1 n1 c1 a2 a3:=
  ⟨bL.cell,(blk_cell bO 0).trans rfl,(blk_cell bO 1).trans rfl,(blk_cell bO 2).trans rfl,(blk_cell bO 3).trans rfl,Kd.C_below HR.out hb4⟩
 rw [← hw2,← hw4]
 refine wpIn_rangeFunc_ownG hro h1 (gf:=70) (lb:=#[.pointer (some ⟨w.heap.size+1+1,0,none⟩),.pointer (some ⟨w.heap.size+1+1+1,0,none⟩)]) rfl hf2 (enters_of Tryz.func70 (by kernel_rfl) rfl)
  (encs:=fun x:Int=>#[Value.int .i64 x]) (Kp:=Below w4.heap.size) (S:=fun ys=>ys=hlist q l) (Sp:=fun pre=>∃ t,hlist q l=pre ++ t) (N:=(hlist q l).length) (w0:=w4)
  (fun lk J Jx W hW hJ _ hY h0=>holding1_in F (n - 1) hf2 hf3 hro (by omega) lk _ _ A cap l A0 n0 c0 A1 n1 c1 a2 a3 q w4 ha (fun x hx W Ax cx hB hC hc=>HH.out x hx W Ax cx (below_step hb4 hB) hC hc) J Jx W hW hJ hY h0)
  belowK_t (belowK_b (Nat.le_refl _)) (Below.refl _ _) (fun _=>rfl)
  (fun pre W=>(pre=[]∧Boxed W (w.heap.size+1) 3 (.int .i64 0))∧Below w.heap.size w W)
  (fun c pre W=>(c = .ret∧∃ x,pre=[x]∧Boxed W (w.heap.size+1) 3 (.int .i64 x))∧Below w.heap.size w W)
  (OwnFrom.and (fun pre W W' row h hg hr=>⟨h.1,h.2.kept hg (fun e=>by obtain ⟨_,o,ho,hc⟩:=hr _ e.symm;rw [show W.heap[w.heap.size+1]?=_ from h.2] at ho;cases ho;cases hc)⟩) (ownFrom_below (Nat.le_refl _) (by omega)))
  (fun c=>OwnFrom.and (fun pre W W' row h hg hr=>by
    obtain ⟨hc,x,hx,hb⟩:=h
    exact ⟨hc,x,hx,hb.kept hg (fun e=>by obtain ⟨_,o,ho,hc⟩:=hr _ e.symm;rw [show W.heap[w.heap.size+1]?=_ from hb] at ho;cases ho;cases hc)⟩) (ownFrom_below (Nat.le_refl _) (by omega)))
  ⟨⟨rfl,bR⟩,hb4⟩
  (fun x=>{ tmps:=#[.slice A l.length cap,.agg #[.slice A0 n0 c0,.slice A1 n1 c1,.int .i64 a2,.int .i64 a3],undef,.pointer (some ⟨w.heap.size,0,none⟩),.pointer (some ⟨w.heap.size+1,0,none⟩),.int .i64 x,.slice A l.length cap,.agg #[.slice A0 n0 c0,.slice A1 n1 c1,.int .i64 a2,.int .i64 a3],.func (.func 70) #[] #[.pointer (some ⟨w.heap.size+1+1,0,none⟩),.pointer (some ⟨w.heap.size+1+1+1,0,none⟩)],.int .i64 x,undef],defers:=[] }) ?assign ?body ?done ?stop
 case assign=>
  intro lk x W K hK
  gi_wp2
  exact hK
 case body=>
  rintro lk pre x W ⟨⟨rfl,hb⟩,hB⟩ hlt
  have hc:=hb.cell
  have hfz:=hb.frozen
  gi_wp2
  exact ⟨(KeepsOthers.setCell _ _ _).from _,⟨rfl,x,rfl,hb.set _⟩,hB.setCell (p:=⟨w.heap.size+1,0,none⟩) (by simp) _⟩
 case done=>
  rintro D ys W hD hys ⟨⟨hnil,hb⟩,hB⟩ hK
  have hc:=hb.cell
  have hfz:=hb.frozen
  have HY:=zA (hys.symm.trans hnil)
  clear hys hnil
  gi_wp2
  have hD2:=(KeepsOthers.setCell W ⟨w.heap.size+1,0,none⟩ (.int .i64 0)).same D _ hK rfl
  have hb5:=hb.set (.int .i64 0)
  have hb6:Boxed ((W.setCell ⟨w.heap.size+1,0,none⟩ (.int .i64 0)).putObj D (.deferred none)) (w.heap.size+1) 3 (.int .i64 0):=hb5.kept (grownBy_putObj' _ D _) (fun e=>by cases e;rw [show (W.setCell ⟨w.heap.size+1,0,none⟩ (.int .i64 0)).heap[w.heap.size+1]?=_ from hb5] at hD2;cases hD2)
  have hc6:=hb6.cell
  refine ⟨by simp,.inl ⟨_,_,rfl,run_takeDeferred hD2,?_⟩⟩
  refine ⟨.int .i64 0,(by simp [results,Tryz.results27,go_sem,hc6]),by rw [HY.out];rfl,?_⟩
  exact (hB.setCell (p:=⟨w.heap.size+1,0,none⟩) (by simp) _).trans (belowK_b (w:=w) (Nat.le_refl _) _ D _ _ (by omega) hD2 rfl rfl)
 case stop=>
  rintro D c pre W hD ⟨t,ht⟩ ⟨⟨rfl,x,rfl,hb⟩,hB⟩ hK
  have HT:=zA ht
  clear ht
  have hc:=hb.cell
  gi_wp2
  have hb6:Boxed (W.putObj D (.deferred none)) (w.heap.size+1) 3 (.int .i64 x):=hb.kept (grownBy_putObj' _ D _) (fun e=>by cases e;rw [show W.heap[w.heap.size+1]?=_ from hb] at hK;cases hK)
  have hc6:=hb6.cell
  refine ⟨by simp,.inl ⟨_,_,rfl,run_takeDeferred hK,?_⟩⟩
  refine ⟨.int .i64 x,(by simp [results,Tryz.results27,go_sem,hc6]),by rw [HT.out];rfl,?_⟩
  exact hB.trans (belowK_b (w:=w) (Nat.le_refl _) _ D _ _ (by omega) hK rfl rfl)
def plur_Of.f (l:List Ru)(l0 l1:List Int)(a2 a3:Int):Option Int:=
  if ∀ x ∈ l,(rule_Holds.f x.f1 l0 l1 a2 a3).isSome then some ((hlist (fun x=>rule_Holds.f x.f1 l0 l1 a2 a3 == some true) l).headD 0) else none
theorem plur_Of.calls (A0:Option Addr)(c0:Nat)(l0:List Ru)(A1_0:Option Addr)(c1_0:Nat)(l1_0:List Int)(A1_1:Option Addr)(c1_1:Nat)(l1_1:List Int)(a1_2 a1_3:Int)(r:Int)(w:World)(hG:GL w)
    (hr0:Kd.C k65 w A0 l0.length l0) (hc0:l0.length≤c0) (hr1_0:Kd.C (Kd.int .u8) w A1_0 l1_0.length l1_0) (hc1_0:l1_0.length≤c1_0) (hr1_1:Kd.C (Kd.int .u8) w A1_1 l1_1.length l1_1) (hc1_1:l1_1.length≤c1_1)
    (h:plur_Of.f l0 l1_0 l1_1 a1_2 a1_3=some r) :
    Calls Tryz.prog 27 #[.slice A0 l0.length c0,.agg #[.slice A1_0 l1_0.length c1_0,.slice A1_1 l1_1.length c1_1,.int .i64 a1_2,.int .i64 a1_3]] w fun e w'=>e = .returned (.int .i64 r)∧Below w.heap.size w w':=by
 unfold plur_Of.f at h
 split at h
 ·rename_i hs
  obtain rfl:=zE h
  exact callsIn_wide.1 (of_in Fence.wide 3 trivial trivial trivial trivial rfl (Nat.le_refl _) A0 c0 l0 A1_0 l1_0.length c1_0 A1_1 l1_1.length c1_1 a1_2 a1_3 _ w hr0 (fun x hx W Ax cx hB hC hc=>by
   obtain ⟨b,hb⟩:=Option.isSome_iff_exists.mp (hs x hx)
   have hbb:(rule_Holds.f x.f1 l1_0 l1_1 a1_2 a1_3 == some true)=b:=by rw [hb];cases b <;> rfl
   rw [hbb]
   exact callsIn_wide.2 (rule_Holds.calls Ax cx x.f1 A1_0 c1_0 l1_0 A1_1 c1_1 l1_1 a1_2 a1_3 b W (hG.below hB) hC hc (Kd.C_below hr1_0 hB) hc1_0 (Kd.C_below hr1_1 hB) hc1_1 hb)))
 cases h
end
end Go.Proofs.YtgfajgkjbckkgaaGreatDoor.PZ
end
section
set_option maxRecDepth 100000
namespace Go.Proofs.YtgfajgkjbckkgaaGreatDoor.PZ
open Go.RowKit Go.Proofs.YtgfajgkjbckkgaaGreatDoorW.PrintWords Go.Proofs.YtgfajgkjbckkgaaGreatDoorW.PrintLast
section
theorem ev_const {α:Type}{a:Option α}{r:α}(h:Ev (fun _=>a) r):a=some r:=by
 obtain ⟨K,hk⟩:=h
 exact hk K (Nat.le_refl _)
theorem any_congr' {α:Type}{l:List α}{p q:α→Bool}(h:∀ x ∈ l,p x=q x):l.any p=l.any q:=by
 induction l with
 | nil=>rfl
 | cons a l ih=>rw [List.any_cons,List.any_cons,h a (by simp),ih (fun x hx=>h x (by simp [hx]))]
theorem not_any' {α:Type}{l:List α}{p q:α→Bool}(h:∀ x ∈ l,p x = !q x):(!l.any p)=l.all q:=by
 induction l with
 | nil=>rfl
 | cons a l ih=>rw [List.any_cons,List.all_cons,Bool.not_or,h a (by simp),ih (fun x hx=>h x (by simp [hx])),Bool.not_not]
def inV (v a b:Int):Bool:=decide (0≤b∧(0≤a→a≤v)∧v≤b)
def relV (i f:List Int)(w c:Int)(x:Rl):Int:=if x.f1>0 then num (operandR i f w c x.f0).1 % x.f1 else num (operandR i f w c x.f0).1
def relX (i f:List Int)(w c:Int)(x:Rl):Bool:=((operandR i f w c x.f0).2 && x.f3.any fun r=>inV (relV i f w c x) r.f0 r.f1) != x.f2
def condX (i f:List Int)(w c:Int)(l:List (List Rl)):Bool:=l.any fun row=>row.all fun x=>relX i f w c x
structure NumX (x:Rl):Prop where
  m0:0≤x.f1
  m1:x.f1≤1000000000
  rg:∀ r ∈ x.f3,(-9223372036854775808≤r.f0∧r.f0≤9223372036854775807)∧(-9223372036854775808≤r.f1∧r.f1≤9223372036854775807)∧(x.f1>0→0≤r.f0)
theorem GoodX.numX {x:Rl}(h:GoodX x):NumX x:=by
 obtain ⟨_,h1,h2,_,h3⟩:=h
 refine ⟨h1,by omega,fun r hr=>?_⟩
 obtain ⟨g0,g1,g2⟩:=h3 r hr
 exact ⟨by omega,by omega,fun _=>g0⟩
structure OpOk (i f:List Int)(w c:Int):Prop where
  r:RightO i f w c
  bi:∀ b_ ∈ i,(Lit.int .u8 b_).wf=true
  bf:∀ b_ ∈ f,(Lit.int .u8 b_).wf=true
  li:i.length≤1000
  lf:f.length≤1000
section
variable {i f:List Int}{w c:Int}(h:OpOk i f w c)
include h
theorem OpOk.wc:(0≤w∧w≤f.length)∧0≤c∧c≤1000:=by
 obtain ⟨_,_,_,h4,h5,h6⟩:=h.r
 have:=fullN_le f
 omega
theorem operandR_ok (name:Int):Figs (operandR i f w c name).1∧(operandR i f w c name).1.length≤1000:=by
 obtain ⟨h1,h2,_,h4,h5,h6⟩:=h.r
 have f1:=(figsB_iff h.bi).1 h1
 have f2:=(figsB_iff h.bf).1 h2
 have hn:∀ n:Int,0≤n→n≤1000→(ndL n).length≤1000:=fun n q0 q1=>by have:=ndL_len q0 (by omega);omega
 have hw:=h.wc
 have lf:=h.lf
 have li:=h.li
 unfold operandR
 repeat' split
 all_goals first
  | exact ⟨Figs.nil,by simp⟩
  | exact ⟨f1,li⟩
  | exact ⟨ndL_figs _,hn _ (by omega) (by omega)⟩
  | exact ⟨bareL_figs f2,by have:=bareL_len f;simp only [];omega⟩
  | exact ⟨bareL_figs (f2.take _),by have:=bareL_len (f.take w.toNat);simp only [List.length_take] at this ⊢;omega⟩
theorem relN_eq {x:Rl}(hx:NumX x):relN i f w c x=some (!relX i f w c x):=by
 have hw:=h.wc
 have lf:=h.lf
 have e1:oper_Operand.f i f w c x.f0=some (operandR i f w c x.f0):=ev_const (operand_ev i f w c x.f0 (by omega) hw.1 hw.2)
 obtain ⟨hF,hL⟩:=operandR_ok h x.f0
 unfold relN relX relV
 rw [e1]
 generalize operandR i f w c x.f0=q at hF hL ⊢
 obtain ⟨l,wh⟩:=q
 simp only [Option.bind_some] at hF hL ⊢
 have hb:∀ a b:Bool,some (a == b)=some (!(a != b)):=by decide
 unfold rngO
 by_cases hm:wh=true∧x.f1>0
 ·have e2:oper_Mod.f (l.length+2) l x.f1=some (num l % x.f1):=by
   have h1:=mod_l0 hF (by omega) (m:=x.f1) ⟨by omega,hx.m1⟩ l.length 0 (by omega)
   have h2:=oper_Mod.mono_l (l.length+1) x.f1 (num (l.take 0) % x.f1) l (l.length:Int) ((0:Nat):Int) _ h1
   unfold oper_Mod.f
   simpa [num_nil] using h2
  rw [if_pos hm,e2]
  simp only [Option.bind_some,if_pos hm.2,hm.1,Bool.true_and]
  rw [hb]
  congr 3
  have hp:=Int.emod_nonneg (num l) (show x.f1≠0 by omega)
  refine any_congr' (fun r hr=>?_)
  obtain ⟨_,_,g⟩:=hx.rg r hr
  have:=g hm.2
  unfold inV
  rw [Bool.eq_iff_iff]
  simp
  omega
 rw [if_neg hm]
 have hin:∀ r ∈ x.f3,oper_In.f l r.f0 r.f1=some (inD l r.f0 r.f1):=fun r hr=>by
  obtain ⟨g1,g2,_⟩:=hx.rg r hr
  exact ev_const (in_ev hF (by omega) r.f0 r.f1 g1 g2)
 rw [if_neg (by rintro ⟨_,h2⟩;exact h2 (fun g hg=>by rw [hin g hg];rfl))]
 simp only [Option.bind_some]
 rw [hb]
 congr 3
 cases wh with
 | false=>simp
 | true=>
  simp only [Bool.true_and,true_and] at hm ⊢
  rw [if_neg hm]
  refine any_congr' (fun r hr=>?_)
  rw [hin r hr]
  unfold inV inD
  simp
theorem holds_f {l:List (List Rl)}(hx:∀ row ∈ l,∀ x ∈ row,NumX x):rule_Holds.f l i f w c=some (condX i f w c l):=by
 unfold rule_Holds.f
 rw [if_pos (fun row hrow x hxr=>by rw [relN_eq h (hx row hrow x hxr)];rfl)]
 congr 1
 unfold condX
 refine any_congr' (fun row hrow=>?_)
 refine not_any' (fun x hxr=>?_)
 rw [relN_eq h (hx row hrow x hxr)]
 simp
end
end
end Go.Proofs.YtgfajgkjbckkgaaGreatDoor.PZ
end
