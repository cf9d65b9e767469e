/- Texts of this seat, joined. Conditions: none beyond each statement's own. -/
import Derived.Test.YtgfajgkjbckkgaaGreatDoorPc18
set_option linter.all false
section
set_option maxRecDepth 100000
namespace Go.Proofs.YtgfajgkjbckkgaaGreatDoor.PZ
open Go.RowKit Go.Proofs.YtgfajgkjbckkgaaGreatDoorW.PrintWords Go.Proofs.YtgfajgkjbckkgaaGreatDoorW.PrintLast
section
theorem not_none {t:List Int}{j:Nat}(h:notP t=(none,j)):signP [33,61] t=false∧signP [61] t=false∧j=bl t:=by
 unfold notP at h
 split at h
 · cases h
 rename_i h1
 split at h
 · cases h
 rename_i h2
 exact ⟨by simpa using h1,by simpa using h2,(congrArg Prod.snd h).symm⟩
theorem not_case {t:List Int}{b:Bool}{j:Nat}(h:notP t=(some b,j)):(signP [33,61] t=true∧b=true∧j=bl t+2)∨(signP [33,61] t=false∧signP [61] t=true∧b=false∧j=bl t+1):=by
 unfold notP at h
 split at h
 ·rename_i h1
  simp only [Prod.mk.injEq,Option.some.injEq] at h
  exact .inl ⟨h1,h.1.symm,h.2.symm⟩
 rename_i h1
 split at h
 ·rename_i h2
  simp only [Prod.mk.injEq,Option.some.injEq] at h
  exact .inr ⟨by simpa using h1,h2,h.1.symm,h.2.symm⟩
 cases h
def RngOut (W:World)(g:Nat)(s:ByteArray)(K:Nat)(c v:Int)(nt:Bool)(e:Ending)(W':World):Prop:=
  match rngP ((bytesOf s).drop K) with
  | (none,i)=>RelBad W g s (K+i) e W'
  | (some l,i)=>RelGood W g s (K+i+bl ((bytesOf s).drop (K+i))) ⟨c,v,nt,l⟩ e W'
def RestOut (W:World)(g:Nat)(s:ByteArray)(Q:Nat)(c v:Int)(e:Ending)(W':World):Prop:=
  match notP ((bytesOf s).drop Q) with
  | (none,j)=>RelBad W g s (Q+j) e W'
  | (some nt,j)=>RngOut W g s (Q+j) c v nt e W'
theorem rest_none {W W':World}{g:Nat}{s:ByteArray}{Q j:Nat}{c v:Int}{e:Ending}(h:notP ((bytesOf s).drop Q)=(none,j))(k:RelBad W g s (Q+j) e W'):RestOut W g s Q c v e W':=by
 unfold RestOut
 rw [h]
 exact k
theorem rest_bad {W W':World}{g:Nat}{s:ByteArray}{Q j i:Nat}{c v:Int}{nt:Bool}{e:Ending}(h:notP ((bytesOf s).drop Q)=(some nt,j))(h2:rngP ((bytesOf s).drop (Q+j))=(none,i))(k:RelBad W g s (Q+j+i) e W'):RestOut W g s Q c v e W':=by
 unfold RestOut
 rw [h]
 simp only
 unfold RngOut
 rw [h2]
 exact k
theorem rest_good {W W':World}{g:Nat}{s:ByteArray}{Q j i:Nat}{c v:Int}{nt:Bool}{l:List Rg}{e:Ending}(h:notP ((bytesOf s).drop Q)=(some nt,j))(h2:rngP ((bytesOf s).drop (Q+j))=(some l,i))(k:RelGood W g s (Q+j+i+bl ((bytesOf s).drop (Q+j+i))) ⟨c,v,nt,l⟩ e W'):RestOut W g s Q c v e W':=by
 unfold RestOut
 rw [h]
 simp only
 unfold RngOut
 rw [h2]
 exact k
theorem hasTo_eq (x:ByteArray)(s:ByteArray)(P:Nat):hasTo x s P=if signP (bytesOf x) ((bytesOf s).drop P) then P+bl ((bytesOf s).drop P)+x.size else P+bl ((bytesOf s).drop P):=rfl
def comb (l:List Rg)(d:Nat):Option (List Rg)×Nat→Option (List Rg)×Nat
  | (none,j)=>(none,d+j)
  | (some r,j)=>(some (l ++ r),d+j)
theorem comb_comb (l m:List Rg)(d e:Nat)(p:Option (List Rg)×Nat):comb l d (comb m e p)=comb (l ++ m) (d+e) p:=by
 rcases p with ⟨_|r,j⟩
 · simp only [comb,Nat.add_assoc]
 simp only [comb,Nat.add_assoc,List.append_assoc]
theorem comb_nil (p:Option (List Rg)×Nat):comb [] 0 p=p:=by rcases p with ⟨_|r,j⟩ <;> simp [comb]
theorem rng_none {t:List Int}{n:Nat}(h:oneP t=(none,n)):rngP t=(none,n):=by rw [rngP_eq,h]
theorem rng_last {t:List Int}{n:Nat}{r:Rg}(h:oneP t=(some r,n))(hs:signP [44] (t.drop n)=false):rngP t=(some [r],n):=by
 rw [rngP_eq,h]
 simp only [hs,Bool.false_eq_true,if_false]
theorem rng_more {t:List Int}{n:Nat}{r:Rg}(h:oneP t=(some r,n))(hs:signP [44] (t.drop n)=true):rngP t=comb [r] (n+(bl (t.drop n)+1)) (rngP (t.drop (n+(bl (t.drop n)+1)))):=by
 rw [rngP_eq,h]
 simp only [hs,if_true]
 rcases rngP (t.drop (n+(bl (t.drop n)+1))) with ⟨_|r,j⟩ <;> rfl
structure Path (s:ByteArray)(k:Nat)(r:Rg)(K:Nat)(b:Bool):Prop where
  le:K≤s.size
  bad:b=false→∃ n,oneP ((bytesOf s).drop k)=(none,n)∧K=k+n
  good:b=true→∃ n,0<n∧oneP ((bytesOf s).drop k)=(some r,n)∧SameAt s K (k+n)
structure LpOn (s:ByteArray)(K0 k:Nat)(l:List Rg)(gg:Nat):Prop where
  le:k≤s.size
  len:l.length≤k
  from_:K0≤k
  fuel:s.size+1 - k≤gg
  eq:rngP ((bytesOf s).drop K0)=comb l (k - K0) (rngP ((bytesOf s).drop k))
def LpInv (s:ByteArray)(K0 k:Nat)(b mo:Bool)(l:List Rg)(gg:Nat):Prop:=
  (mo=true∧b=true∧LpOn s K0 k l gg)∨(mo=false∧b=false∧∃ i,rngP ((bytesOf s).drop K0)=(none,i)∧k=K0+i) ∨
  (mo=false∧b=true∧∃ i,rngP ((bytesOf s).drop K0)=(some l,i)∧k=K0+i+bl ((bytesOf s).drop (K0+i)))
theorem LpInv.bad {s:ByteArray}{K0 k K:Nat}{l l':List Rg}{r:Rg}{gg gg':Nat}(h:LpOn s K0 k l gg)(p:Path s k r K false):LpInv s K0 K false false l' gg':=by
 obtain ⟨n,h1,h2⟩:=p.bad rfl
 refine .inr (.inl ⟨rfl,rfl,k - K0+n,?_,?_⟩)
 · rw [h.eq,rng_none h1];rfl
 have:=h.from_;omega
theorem LpInv.next {s:ByteArray}{K0 k K:Nat}{l:List Rg}{r:Rg}{gg:Nat}(h:LpOn s K0 k l gg)(p:Path s k r K true) :
    ∃ Z,SameAt s K Z∧∀ gg',gg≤gg'+1→LpInv s K0 (hasTo ⟨#[44]⟩ s Z) true (signP [44] ((bytesOf s).drop Z)) (l ++ [r]) gg':=by
 obtain ⟨n,hn,h1,h2⟩:=p.good rfl
 refine ⟨k+n,h2,fun gg' hgg=>?_⟩
 have hf:=h.from_
 have hle:=h.le
 have hlen:=h.len
 have hfu:=h.fuel
 have hd:((bytesOf s).drop k).drop n=(bytesOf s).drop (k+n):=List.drop_drop ..
 have hsz:=hasTo_le ⟨#[44]⟩ s K h2.le
 rw [h2.has] at hsz
 rw [hasTo_eq] at hsz ⊢
 rw [show bytesOf (⟨#[44]⟩:ByteArray)=[44] from rfl] at hsz ⊢
 cases hs:signP [44] ((bytesOf s).drop (k+n)) with
 | true=>
  rw [hs] at hsz
  simp only [if_true] at hsz ⊢
  rw [show (⟨#[44]⟩:ByteArray).size=1 from rfl] at hsz ⊢
  have he:=rng_more h1 (by rw [hd];exact hs)
  rw [hd,List.drop_drop] at he
  refine .inl ⟨rfl,rfl,hsz,by rw [List.length_append];simp;omega,by omega,by omega,?_⟩
  rw [h.eq,he,comb_comb]
  rw [show k - K0+(n+(bl ((bytesOf s).drop (k+n))+1))=k+n+bl ((bytesOf s).drop (k+n))+1 - K0 by omega,show k+(n+(bl ((bytesOf s).drop (k+n))+1))=k+n+bl ((bytesOf s).drop (k+n))+1 by omega]
 | false=>
  simp only [Bool.false_eq_true,if_false]
  refine .inr (.inr ⟨rfl,rfl,k - K0+n,?_,?_⟩)
  ·rw [h.eq,rng_last h1 (by rw [hd];exact hs)]
   rfl
  rw [show K0+(k - K0+n)=k+n by omega]
section
variable {W wr W2:World}{g:Nat}{s:ByteArray}{a:Nat}{b:Bool}{g2 g3:Nat}{c m:Int}{nt:Bool}{v:Value}{l:List Rg}
theorem RelSt.after (h:RelSt W g s a b g2 g3 c m nt v l wr)(hgr:wr.grownBy W2 v.ownBlock):W2.cell? ⟨g3,3,none⟩=some v∧W2.frozen? ⟨g3,3,none⟩=false:=by
 have hx:=blk_grown h.x3 hgr (fun e=>(h.row_lt g3 e.symm).2.2 rfl)
 exact ⟨(blk_cell hx 3).trans rfl,blk_frozen hx 3⟩
theorem RelSt.fresh (h:RelSt W g s a b g2 g3 c m nt v l wr):∀ k,wr.heap.size≤k→k≠g∧k≠g2∧k≠g3:=by
 intro k hk
 have h1:=blk_lt h.rd.rdr
 have h2:=blk_lt h.z2
 have h3:=blk_lt h.x3
 omega
end
theorem num_at {W0:World}{g:Nat}{s:ByteArray}(H:∀ (K':Nat)(l:Int)(i:Nat)(r:Option Int),K'≤s.size→numP l ((bytesOf s).drop K')=(r,i)→∀ wc:World,RdTo W0 g s K' true wc→Calls Tryz.prog 91 #[.pointer (some ⟨g,0,none⟩),.int .i64 l] wc (NumEnd l wc g s K' true))
    {K':Nat} {l:Int} {i:Nat} {r:Option Int} {wc:World} (h1:K'≤s.size) (h2:numP l ((bytesOf s).drop K')=(r,i)) (hr:RdTo W0 g s K' true wc):Calls Tryz.prog 91 #[.pointer (some ⟨g,0,none⟩),.int .i64 l] wc (NumEnd l wc g s K' true):=H K' l i r h1 h2 wc hr
theorem num_end {g:Nat}{s:ByteArray}{K':Nat}{l:Int}{i:Nat}{wc:World}(h:Calls Tryz.prog 91 #[.pointer (some ⟨g,0,none⟩),.int .i64 l] wc (NumEnd l wc g s K' true))(hn:numP l ((bytesOf s).drop K')=(none,i)) :
    Calls Tryz.prog 91 #[.pointer (some ⟨g,0,none⟩),.int .i64 l] wc fun e W'=>e = .returned (.int .i64 0)∧RdTo wc g s (K'+i) false W':=by
 unfold NumEnd at h
 rw [hn] at h
 exact h
theorem num_end2 {g:Nat}{s:ByteArray}{K':Nat}{l v:Int}{i:Nat}{wc:World}(h:Calls Tryz.prog 91 #[.pointer (some ⟨g,0,none⟩),.int .i64 l] wc (NumEnd l wc g s K' true))(hn:numP l ((bytesOf s).drop K')=(some v,i)) :
    Calls Tryz.prog 91 #[.pointer (some ⟨g,0,none⟩),.int .i64 l] wc fun e W'=>e = .returned (.int .i64 v)∧RdTo wc g s (K'+i) true W':=by
 unfold NumEnd at h
 rw [hn] at h
 exact h
set_option maxHeartbeats 8000000 in
set_option maxRecDepth 100000 in
theorem rel_rest (w0:World)(hG:GL w0)(g:Nat)(s:ByteArray)(a n m:Nat)(c v:Int)(W:World)(h:Rdr W g s a true)(hB:Below w0.heap.size w0 W)(hg0:w0.heap.size≤g)(ha:a≤s.size)(hs0:s.size≤1000000)(hop:opP ((bytesOf s).drop a)=(some c,n))(hm:modP ((bytesOf s).drop (a+n))=(some v,m)) :
    Calls Tryz.prog 66 #[.pointer (some ⟨g,0,none⟩)] W (RestOut W g s (a+n+m) c v):=by
 have hs:s.size≤140737488351232:=by omega
 have hO:=rd_op g s a true (W.alloc (.cells #[.int .u8 0,.int .i64 0,.bool false,.slice none 0 0] 60)) (h.alloc _) ha hs
 have hn:=op_le ha hop
 unfold OpEndR at hO
 rw [hop] at hO
 simp only at hO
 have hg:g<W.heap.size:=blk_lt h
 have HG:=zA hg
 obtain ⟨r37,hr37⟩:∃ r,signP [37] ((bytesOf s).drop (a+n))=r:=⟨_,rfl⟩
 obtain ⟨K,hK⟩:∃ K,hasTo ⟨#[37]⟩ s (a+n)=K:=⟨_,rfl⟩
 have hle:=hasTo_le ⟨#[37]⟩ s (a+n) hn
 rw [hK] at hle
 have HH:=zA (fun (wc:World) (hr:Rdr wc g s (a+n) true)=>has_same ⟨#[37]⟩ (SameAt.refl hn) hr hs hr37 hK)
 have HN:Aside0 (r37=true→∃ j,K+j=a+n+m∧K+j≤s.size∧∀ wc,RdTo W g s K true wc→Calls Tryz.prog 91 #[.pointer (some ⟨g,0,none⟩),.int .i64 1] wc fun e W'=>e = .returned (.int .i64 v)∧RdTo wc g s (K+j) true W'):=⟨fun hr=>by
  rcases mod_case hm with ⟨m1,j,m2,rfl⟩|⟨m1,_,_⟩
  ·rw [hasTo_eq,show bytesOf (⟨#[37]⟩:ByteArray)=[37] from rfl,m1] at hK
   simp only [if_true] at hK
   have e1:K=a+n+(bl ((bytesOf s).drop (a+n))+1):=by rw [← hK];rfl
   rw [List.drop_drop,← e1] at m2
   exact ⟨j,by omega,num_le hle m2,fun wc hrd=>num_ok 1 hG hB hg0 hrd hle hs m2⟩
  rw [hr37,hr] at m1;cases m1⟩
 have HF:Aside0 (r37=false→v=0∧SameAt s K (a+n+m)):=⟨fun hr=>by
  rcases mod_case hm with ⟨m1,_⟩|⟨m1,m2,m3⟩
  · rw [hr37,hr] at m1;cases m1
  rw [hasTo_eq,show bytesOf (⟨#[37]⟩:ByteArray)=[37] from rfl,m1] at hK
  simp only [Bool.false_eq_true,if_false] at hK
  exact ⟨m2,by rw [← hK,m3,Nat.add_zero];exact SameAt.skip hn⟩⟩
 have HRN:=zA (fun (K':Nat) (l:Int) (i:Nat) (r:Option Int) (hK':K'≤s.size) (hn:numP l ((bytesOf s).drop K')=(r,i)) (wc:World) (hr:RdTo W g s K' true wc)=>rd_number l w0 hG g s K' true wc hr.1 (hr.below hB hg0) hg0 hK' hs)
 generalize a+n+m=Q at *
 clear hop hm hK hle hG hB hg0 h hg hr37
 go_enter Tryz.func66,Tryz.ntmps66
 go_upto_region 1 with (fail)
 go_cut [3] (fun s3 wc=>∃ g3,s3 = .pointer (some ⟨g3,0,none⟩)∧Aside0 (RelSt W g s (a+n) true W.heap.size g3 c 0 false (.slice none 0 0) [] wc))
 case first=>
  go_wp2_with (go_at_call 89;refine hO.mono ?_;rintro e W1 ⟨rfl,hr1⟩;have HR:=zA hr1;clear hr1)
  go_meet
  case rel=>exact ⟨W1.heap.size,rfl,⟨RelSt.start HR.out HG.out⟩⟩
 case rest=>
  obtain ⟨g3,rfl,HS⟩:=hcut
  clear hO
  obtain ⟨⟨c0,c1,c2,f1,f2⟩,d0,d1,d2,d3,k1,k2,k3,y0,y1,y2,y3,e0,e1,e2,e3⟩:=HS.out.cells
  go_upto_if 17 with (go_at_call 90;(with_reducible refine (HH.out _ HS.out.rd.rdr).mono ?_);rintro e W2 ⟨rfl,hr2⟩;have HS2:=zA (HS.out.call hr2);clear hr2)
  clear c0 c1 c2 f1 f2 d0 d1 d2 d3 k1 k2 k3 y0 y1 y2 y3 e0 e1 e2 e3
  go_cut [] (fun wc=>∃ P,Aside0 (SameAt s P Q)∧Aside0 (RelSt W g s P true W.heap.size g3 c v false (.slice none 0 0) [] wc))
  case first=>
   cases r37 with
   | true=>
    obtain ⟨j,hj1,hj2,hN⟩:=HN.out rfl
    have HJ:=zA hj1
    have HJ2:=zA hj2
    have HN2:=zA hN
    clear hj1 hj2 hN
    go_wp2_with (go_at_call 91;(with_reducible refine (HN2.out _ HS2.out.rd).mono ?_);rintro e W3 ⟨rfl,hr3⟩;have HS3:=zA (HS2.out.call hr3);clear hr3;obtain ⟨⟨c0,c1,c2,f1,f2⟩,d0,d1,d2,d3,k1,k2,k3,y0,y1,y2,y3,e0,e1,e2,e3⟩:=HS3.out.cells)
    go_meet
    case rel=>exact ⟨K+j,⟨by rw [← HJ.out];exact SameAt.refl HJ2.out⟩,⟨HS3.out.set1 v⟩⟩
   | false=>
    obtain ⟨hv,hS⟩:=HF.out rfl
    subst hv
    have HS4:=zA hS
    clear hS
    go_wp2
    go_meet
    case rel=>exact ⟨K,HS4,HS2⟩
  case rest=>
   clear HS HS2 HH HN HF
   obtain ⟨P,HP,HS⟩:=hcut
   rcases hnot:notP ((bytesOf s).drop Q) with ⟨_|nt,j⟩
   ·have HNOT:=zA hnot
    obtain ⟨n1,n2,hj⟩:=not_none hnot
    subst hj
    have hb:(bytesOf s).drop (Q+bl ((bytesOf s).drop Q))=((bytesOf s).drop Q).drop (bl ((bytesOf s).drop Q)):=(bl_drop s Q).symm
    have hK:hasTo ⟨#[33,61]⟩ s Q=Q+bl ((bytesOf s).drop Q):=by rw [hasTo_eq,show bytesOf (⟨#[33,61]⟩:ByteArray)=[33,61] from rfl,n1];rfl
    have hle:Q+bl ((bytesOf s).drop Q)≤s.size:=by
     have:=hasTo_le ⟨#[33,61]⟩ s P HP.out.le
     rw [HP.out.has,hK] at this
     exact this
    have hK2:hasTo ⟨#[61]⟩ s (Q+bl ((bytesOf s).drop Q))=Q+bl ((bytesOf s).drop Q):=by
     rw [hasTo_eq,show bytesOf (⟨#[61]⟩:ByteArray)=[61] from rfl,hb,sign_skip,n2,bl_bl]
     rfl
    have HA:=zA (fun (wc:World) (hr:Rdr wc g s P true)=>has_same ⟨#[33,61]⟩ HP.out hr hs n1 hK)
    have HB:=zA (fun (wc:World) (hr:Rdr wc g s (Q+bl ((bytesOf s).drop Q)) true)=>has_same ⟨#[61]⟩ (SameAt.refl hle) hr hs (r:=false) (by rw [hb,sign_skip];exact n2) hK2)
    clear hnot n1 n2 hb hK hle hK2 HRN HP
    obtain ⟨E,hE⟩:∃ E,Q+bl ((bytesOf s).drop Q)=E:=⟨_,rfl⟩
    rw [hE] at HA HB
    have HE:=zA hE
    clear hE
    obtain ⟨⟨c0,c1,c2,f1,f2⟩,d0,d1,d2,d3,k1,k2,k3,y0,y1,y2,y3,e0,e1,e2,e3⟩:=HS.out.cells
    go_upto_region 9 with (first
     | (go_at_call 90;(with_reducible refine (HA.out _ HS.out.rd.rdr).mono ?_);rintro e W2 ⟨rfl,hr2⟩;have HS2:=zA (HS.out.call hr2);clear hr2)
     | (go_at_call 90;(with_reducible refine (HB.out _ HS2.out.rd.rdr).mono ?_);rintro e W3 ⟨rfl,hr3⟩;have HS3:=zA (HS2.out.call hr3);clear hr3;obtain ⟨⟨c0,c1,c2,f1,f2⟩,d0,d1,d2,d3,k1,k2,k3,y0,y1,y2,y3,e0,e1,e2,e3⟩:=HS3.out.cells))
    go_cut [] (fun wc=>Aside0 (RelSt W g s E false W.heap.size g3 c v false (.slice none 0 0) [] wc))
    case first=>
     go_wp2
     go_meet
     case rel=>exact ⟨HS3.out.call ((RdTo.start HS3.out.rd.rdr).bad false)⟩
    case rest=>
     clear c0 c1 c2 f1 f2 d0 d1 d2 d3 k1 k2 k3 y0 y1 y2 y3 e0 e1 e2 e3 HS HS2 HS3 HA HB
     have HS:=hcut
     obtain ⟨⟨c0,c1,c2,f1,f2⟩,d0,d1,d2,d3,k1,k2,k3,y0,y1,y2,y3,e0,e1,e2,e3⟩:=HS.out.cells
     go_wp2
     obtain ⟨z1,z2,z3⟩:=HS.out.done
     exact bodyPost_ret (results_cell_row rfl _ _ _ 60 _ (0,0) _ rfl z2 Tryz.underlying60 rfl (by kernel_rfl)) rfl (rest_none HNOT.out ⟨⟨_,_,_,_,_,_,rfl⟩,by rw [HE.out];exact z1⟩)
   have HNOT:=zA hnot
   obtain ⟨r33,hr33⟩:∃ r,signP [33,61] ((bytesOf s).drop Q)=r:=⟨_,rfl⟩
   have hQ:Q+bl ((bytesOf s).drop Q)≤s.size:=by rw [← HP.out.bl_];exact run_size isBl s P HP.out.le
   obtain ⟨E,hE⟩:∃ E,hasTo ⟨#[33,61]⟩ s Q=E:=⟨_,rfl⟩
   have HA:=zA (fun (wc:World) (hr:Rdr wc g s P true)=>has_same ⟨#[33,61]⟩ HP.out hr hs hr33 hE)
   have hjs:Q+j≤s.size:=by
    rcases not_case hnot with ⟨n1,_,rfl⟩|⟨n1,n2,_,rfl⟩
    ·have:=hasTo_le ⟨#[33,61]⟩ s P HP.out.le
     rw [HP.out.has,hasTo_eq,show bytesOf (⟨#[33,61]⟩:ByteArray)=[33,61] from rfl,n1] at this
     exact this
    have:=hasTo_le ⟨#[61]⟩ s P HP.out.le
    rw [HP.out.has,hasTo_eq,show bytesOf (⟨#[61]⟩:ByteArray)=[61] from rfl,n2] at this
    exact this
   have HT:Aside0 (r33=true→nt=true∧E=Q+j):=⟨fun hr=>by
    rcases not_case hnot with ⟨n1,n2,rfl⟩|⟨n1,_⟩
    · exact ⟨n2,by rw [← hE,hasTo_eq,show bytesOf (⟨#[33,61]⟩:ByteArray)=[33,61] from rfl,n1];rfl⟩
    rw [hr33,hr] at n1;cases n1⟩
   have HF:Aside0 (r33=false→nt=false∧∀ wc,Rdr wc g s E true→Calls Tryz.prog 90 #[.pointer (some ⟨g,0,none⟩),.string ⟨#[61]⟩] wc fun e W'=>e = .returned (.bool true)∧RdTo wc g s (Q+j) true W'):=⟨fun hr=>by
    rcases not_case hnot with ⟨n1,_⟩|⟨n1,n2,n3,rfl⟩
    · rw [hr33,hr] at n1;cases n1
    refine ⟨n3,fun wc hrd=>?_⟩
    have hE2:E=Q+bl ((bytesOf s).drop Q):=by rw [← hE,hasTo_eq,show bytesOf (⟨#[33,61]⟩:ByteArray)=[33,61] from rfl,n1];rfl
    have hb:(bytesOf s).drop E=((bytesOf s).drop Q).drop (bl ((bytesOf s).drop Q)):=by rw [hE2];exact (bl_drop s Q).symm
    refine has_same ⟨#[61]⟩ (SameAt.refl (by omega)) hrd hs (r:=true) (by rw [hb,sign_skip];exact n2) ?_
    rw [hasTo_eq,show bytesOf (⟨#[61]⟩:ByteArray)=[61] from rfl,hb,sign_skip,n2,bl_bl,hE2]
    rfl⟩
   clear hnot hE hr33 hQ
   obtain ⟨K0,hK0⟩:∃ K0,Q+j=K0:=⟨_,rfl⟩
   rw [hK0] at HT HF hjs
   have HK0:=zA hK0
   clear hK0
   go_upto_block 0 with (fail)
   go_cut [] (fun wc=>Aside0 (RelSt W g s K0 true W.heap.size g3 c v nt (.slice none 0 0) [] wc))
   case first=>
    obtain ⟨⟨c0,c1,c2,f1,f2⟩,d0,d1,d2,d3,k1,k2,k3,y0,y1,y2,y3,e0,e1,e2,e3⟩:=HS.out.cells
    cases r33 with
    | true=>
     obtain ⟨hnt,hE⟩:=HT.out rfl
     subst hnt
     subst hE
     go_wp2_with (go_at_call 90;(with_reducible refine (HA.out _ HS.out.rd.rdr).mono ?_);rintro e W9 ⟨rfl,hr9⟩;have HS2:=zA (HS.out.call hr9);clear hr9;obtain ⟨⟨c0,c1,c2,f1,f2⟩,d0,d1,d2,d3,k1,k2,k3,y0,y1,y2,y3,e0,e1,e2,e3⟩:=HS2.out.cells)
     go_meet
     case rel=>exact ⟨HS2.out.set2 true⟩
    | false=>
     obtain ⟨hnt,hB⟩:=HF.out rfl
     subst hnt
     have HB:=zA hB
     clear hB
     go_wp2_with (first|(go_at_call 90;(with_reducible refine (HA.out _ HS.out.rd.rdr).mono ?_);rintro e W9 ⟨rfl,hr9⟩;have HS2:=zA (HS.out.call hr9);clear hr9;obtain ⟨⟨c0,c1,c2,f1,f2⟩,d0,d1,d2,d3,k1,k2,k3,y0,y1,y2,y3,e0,e1,e2,e3⟩:=HS2.out.cells)|(go_at_call 90;(with_reducible refine (HB.out _ HS2.out.rd.rdr).mono ?_);rintro e W9 ⟨rfl,hr9⟩;have HS3:=zA (HS2.out.call hr9);clear hr9;obtain ⟨⟨c0,c1,c2,f1,f2⟩,d0,d1,d2,d3,k1,k2,k3,y0,y1,y2,y3,e0,e1,e2,e3⟩:=HS3.out.cells))
     go_meet
     case rel=>exact HS3
   case rest=>
    clear HS HA HT HF HP
    have HS:=hcut
    have HN0:=HRN
    clear HRN hcut
    obtain ⟨⟨c0,c1,c2,f1,f2⟩,d0,d1,d2,d3,k1,k2,k3,y0,y1,y2,y3,e0,e1,e2,e3⟩:=HS.out.cells
    go_wp2
    have LEN0:=zA hs0
    go_loopg [4] (s.size+2) (fun gg s4 wr=>∃ (k:Nat) (b mo:Bool) (v':Value) (l:List Rg),s4 = .bool mo∧Aside0 (RelSt W g s k b W.heap.size g3 c v nt v' l wr)∧Aside0 (LpInv s K0 k b mo l gg))
    case atStart=>exact ⟨K0,true,true,_,[],rfl,HS,⟨.inl ⟨rfl,rfl,hjs,by simp,Nat.le_refl _,by omega,by rw [Nat.sub_self,comb_nil]⟩⟩⟩
    case round=>
     clear HS c0 c1 c2 f1 f2 d0 d1 d2 d3 k1 k2 k3 y0 y1 y2 y3 e0 e1 e2 e3
     obtain ⟨k,b,mo,v',l,rfl,HS,HL⟩:=hrel
     rcases HL.out with ⟨hmo,hb,ho⟩|⟨hmo,hb,i,h1,h2⟩|⟨hmo,hb,i,h1,h2⟩
     ·subst hmo hb
      have HO:=zA ho
      have LEN:=zA (show (l.length+1) * 16≤140737488355328 from by have:=HO.out.len;have:=HO.out.le;have:=LEN0.out;omega)
      clear HL ho
      obtain ⟨⟨c0,c1,c2,f1,f2⟩,d0,d1,d2,d3,k1,k2,k3,y0,y1,y2,y3,e0,e1,e2,e3⟩:=HS.out.cells
      go_upto_block 2 with (fail)
      clear c0 c1 c2 f1 f2 d0 d1 d2 d3 k1 k2 k3 y0 y1 y2 y3 e0 e1 e2 e3
      go_cut [] (fun wc=>∃ (r:Rg) (K:Nat) (b':Bool) (v2:Value),Aside0 (Path s k r K b')∧Aside0 (RelSt W g s K b' W.heap.size g3 c v nt v2 (l ++ [r]) wc))
      case first=>
       obtain ⟨⟨c0,c1,c2,f1,f2⟩,d0,d1,d2,d3,k1,k2,k3,y0,y1,y2,y3,e0,e1,e2,e3⟩:=HS.out.cells
       have hk:=HO.out.le
       rcases h1:numP 0 ((bytesOf s).drop k) with ⟨_|x,n⟩
       ·have HPth:=zA (show Path s k ⟨0,0⟩ (k+n) false from ⟨num_le hk h1,fun _=>⟨n,by unfold oneP;rw [h1],rfl⟩,(fun z=>by cases z)⟩)
        have HA:=zA (fun (wc:World) (hr:RdTo W g s k true wc)=>num_end (num_at HN0.out hk h1 hr) h1)
        clear h1 hk
        go_wp2_with (first|(go_at_call 91;(with_reducible refine (HA.out _ HS.out.rd).mono ?_);rintro e W9 ⟨rfl,hr9⟩;have HS2:=zA (HS.out.call hr9);clear hr9;obtain ⟨⟨c0,c1,c2,f1,f2⟩,d0,d1,d2,d3,k1,k2,k3,y0,y1,y2,y3,e0,e1,e2,e3⟩:=HS2.out.cells)|((with_reducible refine gate_builtin (b:=.append) (xs:=#[.tmp 71,.tmp 75]) rfl ?_);at_builtin;refine Kd.R_append k57 (w0:=_) W.heap.size rfl (.tmp 71) (.tmp 75) 58 57 (.agg #[(.int .i64 0),(.int .i64 0)]) 16 rfl Tryz.underlying58 info57 rfl (by decide) (by omega) _ _ (⟨0,0⟩:Rg) [.int .i64 0,.int .i64 0] (fun k=>k≠g∧k≠W.heap.size∧k≠g3) (fun _=>False) rfl rfl (k57_mkM _ _ _ (⟨0,0⟩:Rg)) (fun _ hk=>hk.elim) HS2.out.fresh HS2.out.row (Below.refl _ _) (Nat.le_trans HS2.out.h2 (Nat.le_of_lt (blk_lt HS2.out.z2))) LEN.out ?_;intro v9 w9 ho9 hb9 hg9 hat9;obtain ⟨A9,c9,e9⟩:=Kd.R_slice ho9;subst e9;obtain ⟨q3,p3⟩:=HS2.out.after hg9;have HS9:=zA (HS2.out.set3 ho9 hg9);clear ho9 hb9 hg9 hat9 d3 k3))
        go_meet
        case rel=>exact ⟨⟨0,0⟩,k+n,false,_,HPth,⟨by have h9:=HS9.out;simp only [List.length_append,List.length_cons,List.length_nil,Nat.zero_add] at h9;exact h9⟩⟩
       have hx:=num_some h1
       have hk1:=num_le hk h1
       have HA:=zA (fun (wc:World) (hr:RdTo W g s k true wc)=>num_end2 (num_at HN0.out hk h1 hr) h1)
       have hx0:0≤x:=hx.1
       have hx1:x≤999999999:=hx.2.2
       have hd:((bytesOf s).drop k).drop n=(bytesOf s).drop (k+n):=List.drop_drop ..
       cases h2:signP [46,46] ((bytesOf s).drop (k+n)) with
       | true=>
        have hK:hasTo ⟨#[46,46]⟩ s (k+n)=k+n+bl ((bytesOf s).drop (k+n))+2:=by
         rw [hasTo_eq,show bytesOf (⟨#[46,46]⟩:ByteArray)=[46,46] from rfl,h2];rfl
        have hk2:=hasTo_le ⟨#[46,46]⟩ s (k+n) hk1
        rw [hK] at hk2
        have HB:=zA (fun (wc:World) (hr:Rdr wc g s (k+n) true)=>has_same ⟨#[46,46]⟩ (SameAt.refl hk1) hr hs h2 hK)
        have hd2:((bytesOf s).drop k).drop (n+(bl ((bytesOf s).drop (k+n))+2))=(bytesOf s).drop (k+n+bl ((bytesOf s).drop (k+n))+2):=by rw [List.drop_drop];congr 1;omega
        rcases h3:numP (x+1) ((bytesOf s).drop (k+n+bl ((bytesOf s).drop (k+n))+2)) with ⟨_|y,m'⟩
        ·have HPth:=zA (show Path s k ⟨x,0⟩ (k+n+bl ((bytesOf s).drop (k+n))+2+m') false from ⟨num_le hk2 h3,fun _=>⟨n+(bl ((bytesOf s).drop (k+n))+2)+m',by unfold oneP;rw [h1];simp only [hd,h2,if_true,hd2,h3],by omega⟩,(fun z=>by cases z)⟩)
         have HC:=zA (fun (wc:World) (hr:RdTo W g s _ true wc)=>num_end (num_at HN0.out hk2 h3 hr) h3)
         generalize k+n+bl ((bytesOf s).drop (k+n))+2=K2 at *
         clear h1 h2 h3 hk hk1 hk2 hx hd hd2 hK
         go_wp2_with (first|(go_at_call 91;(with_reducible refine (HA.out _ HS.out.rd).mono ?_);rintro e W9 ⟨rfl,hr9⟩;have HS2:=zA (HS.out.call hr9);clear hr9;obtain ⟨⟨c0,c1,c2,f1,f2⟩,d0,d1,d2,d3,k1,k2,k3,y0,y1,y2,y3,e0,e1,e2,e3⟩:=HS2.out.cells)|(go_at_call 90;(with_reducible refine (HB.out _ HS2.out.rd.rdr).mono ?_);rintro e W9 ⟨rfl,hr9⟩;have HS3:=zA (HS2.out.call hr9);clear hr9;obtain ⟨⟨c0,c1,c2,f1,f2⟩,d0,d1,d2,d3,k1,k2,k3,y0,y1,y2,y3,e0,e1,e2,e3⟩:=HS3.out.cells)|(go_at_call 91;(with_reducible refine (HC.out _ HS3.out.rd).mono ?_);rintro e W9 ⟨rfl,hr9⟩;have HS4:=zA (HS3.out.call hr9);clear hr9;obtain ⟨⟨c0,c1,c2,f1,f2⟩,d0,d1,d2,d3,k1,k2,k3,y0,y1,y2,y3,e0,e1,e2,e3⟩:=HS4.out.cells)|((with_reducible refine gate_builtin (b:=.append) (xs:=#[.tmp 71,.tmp 75]) rfl ?_);at_builtin;refine Kd.R_append k57 (w0:=_) W.heap.size rfl (.tmp 71) (.tmp 75) 58 57 (.agg #[(.int .i64 0),(.int .i64 0)]) 16 rfl Tryz.underlying58 info57 rfl (by decide) (by omega) _ _ (⟨x,0⟩:Rg) [.int .i64 x,.int .i64 0] (fun k=>k≠g∧k≠W.heap.size∧k≠g3) (fun _=>False) rfl rfl (k57_mkM _ _ _ (⟨x,0⟩:Rg)) (fun _ hk=>hk.elim) HS4.out.fresh HS4.out.row (Below.refl _ _) (Nat.le_trans HS4.out.h2 (Nat.le_of_lt (blk_lt HS4.out.z2))) LEN.out ?_;intro v9 w9 ho9 hb9 hg9 hat9;obtain ⟨A9,c9,e9⟩:=Kd.R_slice ho9;subst e9;obtain ⟨q3,p3⟩:=HS4.out.after hg9;have HS9:=zA (HS4.out.set3 ho9 hg9);clear ho9 hb9 hg9 hat9 d3 k3))
         go_meet
         case rel=>exact ⟨⟨x,0⟩,K2+m',false,_,HPth,⟨by have h9:=HS9.out;simp only [List.length_append,List.length_cons,List.length_nil,Nat.zero_add] at h9;exact h9⟩⟩
        have HPth:=zA (show Path s k ⟨x,y⟩ (k+n+bl ((bytesOf s).drop (k+n))+2+m') true from ⟨num_le hk2 h3,(fun z=>by cases z),fun _=>⟨n+(bl ((bytesOf s).drop (k+n))+2)+m',by omega,by unfold oneP;rw [h1];simp only [hd,h2,if_true,hd2,h3],by
         rw [show k+(n+(bl ((bytesOf s).drop (k+n))+2)+m')=k+n+bl ((bytesOf s).drop (k+n))+2+m' by omega]
         exact SameAt.refl (num_le hk2 h3)⟩⟩)
        have HC:=zA (fun (wc:World) (hr:RdTo W g s _ true wc)=>num_end2 (num_at HN0.out hk2 h3 hr) h3)
        generalize k+n+bl ((bytesOf s).drop (k+n))+2=K2 at *
        clear h1 h2 h3 hk hk1 hk2 hx hd hd2 hK
        go_wp2_with (first|(go_at_call 91;(with_reducible refine (HA.out _ HS.out.rd).mono ?_);rintro e W9 ⟨rfl,hr9⟩;have HS2:=zA (HS.out.call hr9);clear hr9;obtain ⟨⟨c0,c1,c2,f1,f2⟩,d0,d1,d2,d3,k1,k2,k3,y0,y1,y2,y3,e0,e1,e2,e3⟩:=HS2.out.cells)|(go_at_call 90;(with_reducible refine (HB.out _ HS2.out.rd.rdr).mono ?_);rintro e W9 ⟨rfl,hr9⟩;have HS3:=zA (HS2.out.call hr9);clear hr9;obtain ⟨⟨c0,c1,c2,f1,f2⟩,d0,d1,d2,d3,k1,k2,k3,y0,y1,y2,y3,e0,e1,e2,e3⟩:=HS3.out.cells)|(go_at_call 91;(with_reducible refine (HC.out _ HS3.out.rd).mono ?_);rintro e W9 ⟨rfl,hr9⟩;have HS4:=zA (HS3.out.call hr9);clear hr9;obtain ⟨⟨c0,c1,c2,f1,f2⟩,d0,d1,d2,d3,k1,k2,k3,y0,y1,y2,y3,e0,e1,e2,e3⟩:=HS4.out.cells)|((with_reducible refine gate_builtin (b:=.append) (xs:=#[.tmp 71,.tmp 75]) rfl ?_);at_builtin;refine Kd.R_append k57 (w0:=_) W.heap.size rfl (.tmp 71) (.tmp 75) 58 57 (.agg #[(.int .i64 0),(.int .i64 0)]) 16 rfl Tryz.underlying58 info57 rfl (by decide) (by omega) _ _ (⟨x,y⟩:Rg) [.int .i64 x,.int .i64 y] (fun k=>k≠g∧k≠W.heap.size∧k≠g3) (fun _=>False) rfl rfl (k57_mkM _ _ _ (⟨x,y⟩:Rg)) (fun _ hk=>hk.elim) HS4.out.fresh HS4.out.row (Below.refl _ _) (Nat.le_trans HS4.out.h2 (Nat.le_of_lt (blk_lt HS4.out.z2))) LEN.out ?_;intro v9 w9 ho9 hb9 hg9 hat9;obtain ⟨A9,c9,e9⟩:=Kd.R_slice ho9;subst e9;obtain ⟨q3,p3⟩:=HS4.out.after hg9;have HS9:=zA (HS4.out.set3 ho9 hg9);clear ho9 hb9 hg9 hat9 d3 k3))
        go_meet
        case rel=>exact ⟨⟨x,y⟩,K2+m',true,_,HPth,⟨by have h9:=HS9.out;simp only [List.length_append,List.length_cons,List.length_nil,Nat.zero_add] at h9;exact h9⟩⟩
       | false=>
        have hK:hasTo ⟨#[46,46]⟩ s (k+n)=k+n+bl ((bytesOf s).drop (k+n)):=by
         rw [hasTo_eq,show bytesOf (⟨#[46,46]⟩:ByteArray)=[46,46] from rfl,h2];rfl
        have HB:=zA (fun (wc:World) (hr:Rdr wc g s (k+n) true)=>has_same ⟨#[46,46]⟩ (SameAt.refl hk1) hr hs h2 hK)
        have hn:=(num_pos' h1).1
        have HPth:=zA (show Path s k ⟨x,x⟩ (k+n+bl ((bytesOf s).drop (k+n))) true from ⟨run_size isBl s _ hk1,(fun z=>by cases z),fun _=>⟨n,hn,by unfold oneP;rw [h1];simp only [hd,h2,Bool.false_eq_true,if_false],SameAt.skip hk1⟩⟩)
        generalize k+n+bl ((bytesOf s).drop (k+n))=K2 at *
        clear h1 h2 hk hk1 hx hd hK hn
        go_wp2_with (first|(go_at_call 91;(with_reducible refine (HA.out _ HS.out.rd).mono ?_);rintro e W9 ⟨rfl,hr9⟩;have HS2:=zA (HS.out.call hr9);clear hr9;obtain ⟨⟨c0,c1,c2,f1,f2⟩,d0,d1,d2,d3,k1,k2,k3,y0,y1,y2,y3,e0,e1,e2,e3⟩:=HS2.out.cells)|(go_at_call 90;(with_reducible refine (HB.out _ HS2.out.rd.rdr).mono ?_);rintro e W9 ⟨rfl,hr9⟩;have HS3:=zA (HS2.out.call hr9);clear hr9;obtain ⟨⟨c0,c1,c2,f1,f2⟩,d0,d1,d2,d3,k1,k2,k3,y0,y1,y2,y3,e0,e1,e2,e3⟩:=HS3.out.cells)|((with_reducible refine gate_builtin (b:=.append) (xs:=#[.tmp 71,.tmp 75]) rfl ?_);at_builtin;refine Kd.R_append k57 (w0:=_) W.heap.size rfl (.tmp 71) (.tmp 75) 58 57 (.agg #[(.int .i64 0),(.int .i64 0)]) 16 rfl Tryz.underlying58 info57 rfl (by decide) (by omega) _ _ (⟨x,x⟩:Rg) [.int .i64 x,.int .i64 x] (fun k=>k≠g∧k≠W.heap.size∧k≠g3) (fun _=>False) rfl rfl (k57_mkM _ _ _ (⟨x,x⟩:Rg)) (fun _ hk=>hk.elim) HS3.out.fresh HS3.out.row (Below.refl _ _) (Nat.le_trans HS3.out.h2 (Nat.le_of_lt (blk_lt HS3.out.z2))) LEN.out ?_;intro v9 w9 ho9 hb9 hg9 hat9;obtain ⟨A9,c9,e9⟩:=Kd.R_slice ho9;subst e9;obtain ⟨q3,p3⟩:=HS3.out.after hg9;have HS9:=zA (HS3.out.set3 ho9 hg9);clear ho9 hb9 hg9 hat9 d3 k3))
        go_meet
        case rel=>exact ⟨⟨x,x⟩,K2,true,_,HPth,⟨by have h9:=HS9.out;simp only [List.length_append,List.length_cons,List.length_nil,Nat.zero_add] at h9;exact h9⟩⟩
      case rest=>
       clear HS
       obtain ⟨r,K,b',v2,HP,HS⟩:=hcut
       obtain ⟨⟨c0,c1,c2,f1,f2⟩,d0,d1,d2,d3,k1,k2,k3,y0,y1,y2,y3,e0,e1,e2,e3⟩:=HS.out.cells
       cases b' with
       | false=>
        have HI:=zA (fun gg':Nat=>LpInv.bad (l':=l ++ [r]) (gg':=gg') HO.out HP.out)
        have hfu:=HO.out.fuel
        have hle:=HO.out.le
        go_wp2
        go_roundg 0
        case measure=>omega
        case rel=>exact ⟨K,false,false,v2,l ++ [r],rfl,HS,⟨HI.out _⟩⟩
       | true=>
        obtain ⟨Z,hZ,hI⟩:=LpInv.next HO.out HP.out
        have HI:=zA hI
        have HB:=zA (fun (wc:World) (hr:Rdr wc g s K true)=>has_same ⟨#[44]⟩ hZ hr hs rfl rfl)
        have hfu:=HO.out.fuel
        have hle:=HO.out.le
        clear hZ hI
        rw [show bytesOf (⟨#[44]⟩:ByteArray)=[44] from rfl] at HB
        generalize signP [44] ((bytesOf s).drop Z)=r44 at *
        generalize hasTo ⟨#[44]⟩ s Z=E9 at *
        go_wp2_with (go_at_call 90;(with_reducible refine (HB.out _ HS.out.rd.rdr).mono ?_);rintro e W9 ⟨rfl,hr9⟩;have HS2:=zA (HS.out.call hr9);clear hr9;obtain ⟨⟨c0,c1,c2,f1,f2⟩,d0,d1,d2,d3,k1,k2,k3,y0,y1,y2,y3,e0,e1,e2,e3⟩:=HS2.out.cells)
        go_roundg (gk - 1)
        case measure=>omega
        case rel=>exact ⟨E9,true,r44,v2,l ++ [r],rfl,HS2,⟨HI.out _ (by omega)⟩⟩
     ·subst hmo hb
      have HR:=zA h1
      have HK:=zA h2
      clear h1 h2 HL
      obtain ⟨Av,cv,ev⟩:=Kd.R_slice HS.out.row
      subst ev
      obtain ⟨⟨c0,c1,c2,f1,f2⟩,d0,d1,d2,d3,k1,k2,k3,y0,y1,y2,y3,e0,e1,e2,e3⟩:=HS.out.cells
      go_wp2
      obtain ⟨z1,z2,z3⟩:=HS.out.done
      exact bodyPost_ret (results_cell_row rfl _ _ _ 60 _ (0,0) _ rfl z2 Tryz.underlying60 rfl (by kernel_rfl)) rfl (rest_bad HNOT.out (by rw [HK0.out];exact HR.out) ⟨⟨_,_,_,_,_,_,rfl⟩,by rw [HK0.out,← HK.out];exact z1⟩)
     subst hmo hb
     have HR:=zA h1
     have HK:=zA h2
     clear h1 h2 HL
     obtain ⟨Av,cv,ev⟩:=Kd.R_slice HS.out.row
     subst ev
     obtain ⟨⟨c0,c1,c2,f1,f2⟩,d0,d1,d2,d3,k1,k2,k3,y0,y1,y2,y3,e0,e1,e2,e3⟩:=HS.out.cells
     go_wp2
     obtain ⟨z1,z2,z3⟩:=HS.out.done
     exact bodyPost_ret (results_cell_row rfl _ _ _ 60 _ (0,0) _ rfl z2 Tryz.underlying60 rfl (by kernel_rfl)) rfl (rest_good HNOT.out (by rw [HK0.out];exact HR.out) ⟨_,rfl,z3,by rw [HK0.out,← HK.out];exact z1⟩)
end
section
section
variable {s:ByteArray}(hs:s.size≤400)
include hs
theorem over_sign {a:Nat}(ha:a≤s.size)(x:ByteArray)(hx:x.size≤10):a+bl ((bytesOf s).drop a)≤s.size∧exergueref11_sign.f s ((a+bl ((bytesOf s).drop a):Nat):Int) x=some (signP (bytesOf x) ((bytesOf s).drop a)):=by
 have hA:=run_size isBl s a ha
 change a+bl ((bytesOf s).drop a)≤s.size at hA
 refine ⟨hA,?_⟩
 rw [sign_f hs hA hx]
 unfold signP
 rw [bl_drop]
omit hs in
theorem sign_room {a:Nat}(ha:a≤s.size){x:List Int}(h:signP x ((bytesOf s).drop a)=true):a+bl ((bytesOf s).drop a)+x.length≤s.size:=by
 have h1:=sign_len h
 rw [List.length_drop,bytesOf_length] at h1
 omega
omit hs in
theorem num_room {a n:Nat}(ha:a≤s.size){least v:Int}(h:numP least ((bytesOf s).drop a)=(some v,n)):a+n≤s.size∧0<n:=by
 have h1:=num_pos' h
 rw [List.length_drop,bytesOf_length] at h1
 omega
theorem one_none {a n:Nat}(ha:a≤s.size)(acc:List Rg)(h:oneP ((bytesOf s).drop a)=(none,n)):Ev (fun k=>exergueref11_ranges.l0 k s (a:Int) acc) (([]:List Rg),((a+n:Nat):Int),false):=by
 unfold oneP at h
 refine Ev_shift ?_
 simp only [exergueref11_ranges.l0]
 rcases h1:numP 0 ((bytesOf s).drop a) with ⟨_|v,m⟩
 ·rw [h1] at h
  simp only [Prod.mk.injEq,true_and] at h
  subst h
  have q:(-1:Int)<0:=by omega
  refine Ev.bind (number_none hs ha h1) ?_
  simp only [if_pos q]
  exact Ev.now _
 rw [h1] at h
 obtain ⟨v0,_,v1⟩:=num_some h1
 have hr:=(num_room ha h1).1
 have q:¬ v<0:=by omega
 simp only [List.drop_drop] at h
 obtain ⟨hA,hsg⟩:=over_sign hs hr ⟨#[46,46]⟩ (by decide)
 have hsg':signP (bytesOf ⟨#[46,46]⟩) ((bytesOf s).drop (a+m))=signP [46,46] ((bytesOf s).drop (a+m)):=rfl
 rw [hsg'] at hsg
 by_cases hd:signP [46,46] ((bytesOf s).drop (a+m))=true
 rotate_left
 ·simp only [if_neg hd] at h
  cases h
 have hroom:=sign_room hr hd
 simp only [List.length_cons,List.length_nil] at hroom
 simp only [if_pos hd] at h
 have w2:wrap64 (((a+m+bl ((bytesOf s).drop (a+m)):Nat):Int)+2)=((a+m+bl ((bytesOf s).drop (a+m))+2:Nat):Int):=by rw [w64 _ (by omega) (by omega)];omega
 have wv:wrap64 (v+1)=v+1:=w64 _ (by omega) (by omega)
 rw [hd] at hsg
 refine Ev.bind (number_some hs ha h1) ?_
 simp only [if_neg q]
 refine Ev.bind (over_ev hs hr) ?_
 simp only [hsg,Option.bind_some,if_true,w2,wv]
 have ed:a+(m+(bl ((bytesOf s).drop (a+m))+2))=a+m+bl ((bytesOf s).drop (a+m))+2:=by omega
 rw [ed] at h
 rcases h2:numP (v+1) ((bytesOf s).drop (a+m+bl ((bytesOf s).drop (a+m))+2)) with ⟨_|w,j⟩
 ·rw [h2] at h
  simp only [Prod.mk.injEq,true_and] at h
  subst h
  have q:(-1:Int)<0:=by omega
  refine Ev.bind (number_none hs (by omega) h2) ?_
  simp only [if_pos q]
  have e:a+m+bl ((bytesOf s).drop (a+m))+2+j=a+(m+(bl ((bytesOf s).drop (a+m))+2)+j):=by omega
  rw [e]
  exact Ev.now _
 rw [h2] at h;cases h
theorem one_then {a n:Nat}(ha:a≤s.size)(acc:List Rg){r:Rg}(h:oneP ((bytesOf s).drop a)=(some r,n)){T:List Rg×Int×Bool}(hT:Ev (fun k=>exergueref11_ranges.j1 k s acc r.f0 ((a+n:Nat):Int) r.f1) T) :
    Ev (fun k=>exergueref11_ranges.l0 k s (a:Int) acc) T:=by
 unfold oneP at h
 refine Ev_shift ?_
 simp only [exergueref11_ranges.l0]
 rcases h1:numP 0 ((bytesOf s).drop a) with ⟨_|v,m⟩
 · rw [h1] at h;cases h
 rw [h1] at h
 obtain ⟨v0,_,v1⟩:=num_some h1
 have hr:=(num_room ha h1).1
 have q:¬ v<0:=by omega
 simp only [List.drop_drop] at h
 obtain ⟨hA,hsg⟩:=over_sign hs hr ⟨#[46,46]⟩ (by decide)
 have hsg':signP (bytesOf ⟨#[46,46]⟩) ((bytesOf s).drop (a+m))=signP [46,46] ((bytesOf s).drop (a+m)):=rfl
 rw [hsg'] at hsg
 by_cases hd:signP [46,46] ((bytesOf s).drop (a+m))=true
 rotate_left
 ·have hd':signP [46,46] ((bytesOf s).drop (a+m))=false:=by simpa using hd
  simp only [hd',Bool.false_eq_true,if_false,Prod.mk.injEq,Option.some.injEq] at h
  obtain ⟨rfl,rfl⟩:=h
  rw [hd'] at hsg
  refine Ev.bind (number_some hs ha h1) ?_
  simp only [if_neg q]
  refine Ev.bind (over_ev hs hr) ?_
  simp only [hsg,Option.bind_some,Bool.false_eq_true,if_false]
  exact hT
 have hroom:=sign_room hr hd
 simp only [List.length_cons,List.length_nil] at hroom
 simp only [if_pos hd] at h
 have w2:wrap64 (((a+m+bl ((bytesOf s).drop (a+m)):Nat):Int)+2)=((a+m+bl ((bytesOf s).drop (a+m))+2:Nat):Int):=by rw [w64 _ (by omega) (by omega)];omega
 have wv:wrap64 (v+1)=v+1:=w64 _ (by omega) (by omega)
 rw [hd] at hsg
 refine Ev.bind (number_some hs ha h1) ?_
 simp only [if_neg q]
 refine Ev.bind (over_ev hs hr) ?_
 simp only [hsg,Option.bind_some,if_true,w2,wv]
 have ed:a+(m+(bl ((bytesOf s).drop (a+m))+2))=a+m+bl ((bytesOf s).drop (a+m))+2:=by omega
 rw [ed] at h
 rcases h2:numP (v+1) ((bytesOf s).drop (a+m+bl ((bytesOf s).drop (a+m))+2)) with ⟨_|w,j⟩
 · rw [h2] at h;cases h
 rw [h2] at h
 obtain ⟨_,w0,_⟩:=num_some h2
 simp only [Prod.mk.injEq,Option.some.injEq] at h
 obtain ⟨rfl,rfl⟩:=h
 have q:¬ w<0:=by omega
 have e:a+m+bl ((bytesOf s).drop (a+m))+2+j=a+(m+(bl ((bytesOf s).drop (a+m))+2)+j):=by omega
 refine Ev.bind (number_some hs (by omega) h2) ?_
 simp only [if_neg q,e]
 exact hT
def rngRes (acc:List Rg)(a:Nat):Option (List Rg)×Nat→List Rg×Int×Bool
  | (none,n)=>([],((a+n:Nat):Int),false)
  | (some l,n)=>(acc ++ l,((a+n:Nat):Int),true)
omit hs in
theorem one_room {a n:Nat}(ha:a≤s.size){r:Rg}(h:oneP ((bytesOf s).drop a)=(some r,n)):a+n≤s.size∧0<n:=by
 have h1:=one_pos h
 have h2:=one_le h
 rw [List.length_drop,bytesOf_length] at h2
 omega
theorem ranges_l0 (m:Nat):∀ (a:Nat) (acc:List Rg),a≤s.size→s.size - a≤m→acc.length≤a→Ev (fun k=>exergueref11_ranges.l0 k s (a:Int) acc) (rngRes acc a (rngP ((bytesOf s).drop a))):=by
 induction m with
 | zero=>
  intro a acc ha hm hacc
  rw [rngP_eq]
  rcases h1:oneP ((bytesOf s).drop a) with ⟨_|r,n⟩
  · exact one_none hs ha acc h1
  have:=one_room ha h1
  omega
 | succ m ih=>
  intro a acc ha hm hacc
  rw [rngP_eq]
  rcases h1:oneP ((bytesOf s).drop a) with ⟨_|r,n⟩
  · exact one_none hs ha acc h1
  have hr:=one_room ha h1
  refine one_then hs ha acc h1 (Ev_shift ?_)
  have q1:acc.length<8796093022208:=by omega
  simp only [exergueref11_ranges.j1,if_pos q1,Option.bind_some]
  refine Ev.bind (over_ev hs hr.1) ?_
  obtain ⟨hA,hsg⟩:=over_sign hs hr.1 ⟨#[44]⟩ (by decide)
  have hsg':signP (bytesOf ⟨#[44]⟩) ((bytesOf s).drop (a+n))=signP [44] ((bytesOf s).drop (a+n)):=rfl
  rw [hsg'] at hsg
  simp only [List.drop_drop,hsg,Option.bind_some]
  by_cases hd:signP [44] ((bytesOf s).drop (a+n))=true
  rotate_left
  ·simp only [if_neg hd,rngRes]
   exact Ev.now _
  have hroom:=sign_room hr.1 hd
  simp only [List.length_cons,List.length_nil] at hroom
  have w1:wrap64 (((a+n+bl ((bytesOf s).drop (a+n)):Nat):Int)+1)=((a+n+bl ((bytesOf s).drop (a+n))+1:Nat):Int):=by rw [w64 _ (by omega) (by omega)];omega
  have hnext:=ih (a+n+bl ((bytesOf s).drop (a+n))+1) (acc ++ [⟨r.f0,r.f1⟩]) (by omega) (by omega) (by rw [List.length_append];simp;omega)
  simp only [if_pos hd,w1]
  have ed:a+(n+(bl ((bytesOf s).drop (a+n))+1))=a+n+bl ((bytesOf s).drop (a+n))+1:=by omega
  rw [ed]
  rcases h2:rngP ((bytesOf s).drop (a+n+bl ((bytesOf s).drop (a+n))+1)) with ⟨_|l,j⟩
  ·rw [h2] at hnext
   have e:a+n+bl ((bytesOf s).drop (a+n))+1+j=a+(n+(bl ((bytesOf s).drop (a+n))+1)+j):=by omega
   simp only [rngRes] at hnext ⊢
   rw [e] at hnext
   exact hnext
  rw [h2] at hnext
  have e:a+n+bl ((bytesOf s).drop (a+n))+1+j=a+(n+(bl ((bytesOf s).drop (a+n))+1)+j):=by omega
  simp only [rngRes,List.append_assoc,List.cons_append,List.nil_append] at hnext ⊢
  rw [e] at hnext
  exact hnext
theorem ranges_ev {a:Nat}(ha:a≤s.size):Ev (fun k=>exergueref11_ranges.f k s (a:Int)) (rngRes [] a (rngP ((bytesOf s).drop a))):=by
 unfold exergueref11_ranges.f
 exact ranges_l0 hs (s.size - a) a [] ha (Nat.le_refl _) (by simp)
def RelRes (a:Nat)(r:Int×Int×Bool×List Rg×Int×Bool):Option Rl×Nat→Prop
  | (none,n)=>r.2.2.2.2=(((a+n:Nat):Int),false)
  | (some x,n)=>r=(x.f0,x.f1,x.f2,x.f3,((a+n:Nat):Int),true)
def NotRes (g:Nat)(c v:Int)(r:Int×Int×Bool×List Rg×Int×Bool)(t:List Int):Prop:=
  match notP t with
  | (none,j)=>r.2.2.2.2=(((g+j:Nat):Int),false)
  | (some b,j)=>match rngP (t.drop j) with
    | (none,i)=>r.2.2.2.2=(((g+j+i:Nat):Int),false)
    | (some l,i)=>r=(c,v,b,l,((g+j+i:Nat):Int),true)
theorem j2_ev {D:Nat}(hD:D≤s.size)(c v:Int)(b:Bool):([61]:List Int).isPrefixOf ((bytesOf s).drop D)=true →
    Ev (fun k=>exergueref11_rel.j2 k s (D:Int) c v b) (c,v,b,rngRes [] (D+1) (rngP ((bytesOf s).drop (D+1)))):=by
 intro h
 have hl:=prefix_len h
 rw [List.length_drop,bytesOf_length] at hl
 simp only [List.length_cons,List.length_nil] at hl
 have w1:wrap64 ((D:Int)+1)=((D+1:Nat):Int):=by rw [w64 _ (by omega) (by omega)];omega
 have hsg:=sign_f hs hD (x:=⟨#[61]⟩) (by decide)
 have hsg':bytesOf ⟨#[61]⟩=[61]:=rfl
 rw [hsg',h] at hsg
 refine Ev_shift ?_
 simp only [exergueref11_rel.j2,hsg,Option.bind_some,if_true,w1]
 exact Ev.bind (ranges_ev hs (by omega)) (Ev.now _)
theorem j1_ev {G:Nat}(hG:G≤s.size)(c v:Int):∃ r,Ev (fun k=>exergueref11_rel.j1 k s ((G+bl ((bytesOf s).drop G):Nat):Int) c v false) r∧NotRes G c v r ((bytesOf s).drop G):=by
 obtain ⟨hA,hsg⟩:=over_sign hs hG ⟨#[33,61]⟩ (by decide)
 have hsg':signP (bytesOf ⟨#[33,61]⟩) ((bytesOf s).drop G)=signP [33,61] ((bytesOf s).drop G):=rfl
 rw [hsg'] at hsg
 unfold NotRes notP
 by_cases h1:signP [33,61] ((bytesOf s).drop G)=true
 ·have hroom:=sign_room hG h1
  simp only [List.length_cons,List.length_nil] at hroom
  have hp:([61]:List Int).isPrefixOf ((bytesOf s).drop (G+bl ((bytesOf s).drop G)+1))=true:=by
   have h2:=h1
   unfold signP at h2
   rw [bl_drop] at h2
   rw [← List.drop_drop]
   cases hq:(bytesOf s).drop (G+bl ((bytesOf s).drop G)) with
   | nil=>rw [hq] at h2;simp [List.isPrefixOf] at h2
   | cons y q=>
    rw [hq] at h2
    simp only [List.isPrefixOf,Bool.and_eq_true] at h2
    simpa using h2.2
  have w1:wrap64 (((G+bl ((bytesOf s).drop G):Nat):Int)+1)=((G+bl ((bytesOf s).drop G)+1:Nat):Int):=by rw [w64 _ (by omega) (by omega)];omega
  rw [h1] at hsg
  refine ⟨(c,v,true,rngRes [] (G+bl ((bytesOf s).drop G)+1+1) (rngP ((bytesOf s).drop (G+bl ((bytesOf s).drop G)+1+1)))),Ev_shift ?_,?_⟩
  ·simp only [exergueref11_rel.j1,hsg,Option.bind_some,if_true,w1]
   exact j2_ev hs (by omega) c v true hp
  simp only [if_pos h1,List.drop_drop]
  have ed:G+(bl ((bytesOf s).drop G)+2)=G+bl ((bytesOf s).drop G)+1+1:=by omega
  rw [ed]
  rcases rngP ((bytesOf s).drop (G+bl ((bytesOf s).drop G)+1+1)) with ⟨_|l,i⟩
  · simp only [rngRes]
  simp only [rngRes,List.nil_append]
 have h1':signP [33,61] ((bytesOf s).drop G)=false:=by simpa using h1
 rw [h1'] at hsg
 simp only [h1',Bool.false_eq_true,if_false]
 by_cases h2:signP [61] ((bytesOf s).drop G)=true
 ·have hroom:=sign_room hG h2
  simp only [List.length_cons,List.length_nil] at hroom
  have hp:([61]:List Int).isPrefixOf ((bytesOf s).drop (G+bl ((bytesOf s).drop G)))=true:=by
   have h3:=h2
   unfold signP at h3
   rwa [bl_drop] at h3
  refine ⟨(c,v,false,rngRes [] (G+bl ((bytesOf s).drop G)+1) (rngP ((bytesOf s).drop (G+bl ((bytesOf s).drop G)+1)))),Ev_shift ?_,?_⟩
  ·simp only [exergueref11_rel.j1,hsg,Option.bind_some,Bool.false_eq_true,if_false]
   exact j2_ev hs (by omega) c v false hp
  simp only [if_pos h2,List.drop_drop]
  have ed:G+(bl ((bytesOf s).drop G)+1)=G+bl ((bytesOf s).drop G)+1:=by omega
  rw [ed]
  rcases rngP ((bytesOf s).drop (G+bl ((bytesOf s).drop G)+1)) with ⟨_|l,i⟩
  · simp only [rngRes]
  simp only [rngRes,List.nil_append]
 have h2':signP [61] ((bytesOf s).drop G)=false:=by simpa using h2
 obtain ⟨_,hsg2⟩:=over_sign hs hG ⟨#[61]⟩ (by decide)
 have hsg2':signP (bytesOf ⟨#[61]⟩) ((bytesOf s).drop G)=signP [61] ((bytesOf s).drop G):=rfl
 rw [hsg2',h2'] at hsg2
 refine ⟨(c,v,false,[],((G+bl ((bytesOf s).drop G):Nat):Int),false),Ev_shift ?_,?_⟩
 ·simp only [exergueref11_rel.j1,hsg,Option.bind_some,Bool.false_eq_true,if_false]
  refine Ev_shift ?_
  simp only [exergueref11_rel.j2,hsg2,Option.bind_some,Bool.false_eq_true,if_false]
  exact Ev.now _
 simp only [if_neg h2]
omit hs in
theorem rel_bad {A:Nat}(v m:Int):∃ r,Ev (fun k=>exergueref11_rel.j0 k s (A:Int) true v m false) r∧r.2.2.2.2=((A:Int),false):=
  ⟨(v,m,false,[],(A:Int),false),Ev_shift (by simp only [exergueref11_rel.j0,if_true];exact Ev.now _),rfl⟩
theorem rel_op {A:Nat}(hA:A<s.size):∃ r,Ev (fun k=>exergueref11_rel.j0 k s (A:Int) false 0 0 false) r ∧
    match modP ((bytesOf s).drop (A+1)) with
    | (none,m)=>r.2.2.2.2=(((A+1+m:Nat):Int),false)
    | (some v,m)=>NotRes (A+1+m) (bt s (A:Int)) v r ((bytesOf s).drop (A+1+m)):=by
 have q1:(0:Int)≤(A:Int):=by omega
 have q2:(A:Int)<(s.size:Int):=by omega
 have w1:wrap64 ((A:Int)+1)=((A+1:Nat):Int):=by rw [w64 _ (by omega) (by omega)];omega
 have hov:=over_ev hs (a:=A+1) (by omega)
 obtain ⟨hC,hsg⟩:=over_sign hs (a:=A+1) (by omega) ⟨#[37]⟩ (by decide)
 have hsg':signP (bytesOf ⟨#[37]⟩) ((bytesOf s).drop (A+1))=signP [37] ((bytesOf s).drop (A+1)):=rfl
 rw [hsg'] at hsg
 unfold modP
 by_cases hp:signP [37] ((bytesOf s).drop (A+1))=true
 rotate_left
 ·have hp':signP [37] ((bytesOf s).drop (A+1))=false:=by simpa using hp
  rw [hp'] at hsg
  obtain ⟨r,hr1,hr2⟩:=j1_ev hs (G:=A+1) (by omega) (bt s (A:Int)) 0
  refine ⟨r,Ev_shift ?_,?_⟩
  ·simp only [exergueref11_rel.j0,Bool.false_eq_true,if_false,if_pos q1,if_pos q2,w1]
   refine Ev.bind hov ?_
   simp only [hsg,Option.bind_some,Bool.false_eq_true,if_false]
   exact hr1
  simp only [hp',Bool.false_eq_true,if_false,Nat.add_zero]
  exact hr2
 have hroom:=sign_room (a:=A+1) (by omega) hp
 simp only [List.length_cons,List.length_nil] at hroom
 have w2:wrap64 (((A+1+bl ((bytesOf s).drop (A+1)):Nat):Int)+1)=((A+1+bl ((bytesOf s).drop (A+1))+1:Nat):Int):=by rw [w64 _ (by omega) (by omega)];omega
 rw [hp] at hsg
 simp only [if_pos hp,List.drop_drop]
 have ed:A+1+(bl ((bytesOf s).drop (A+1))+1)=A+1+bl ((bytesOf s).drop (A+1))+1:=by omega
 rw [ed]
 have hpos:A+1+bl ((bytesOf s).drop (A+1))+1≤s.size:=by omega
 rcases h1:numP 1 ((bytesOf s).drop (A+1+bl ((bytesOf s).drop (A+1))+1)) with ⟨_|v,m⟩
 ·refine ⟨(bt s (A:Int),0,false,[],((A+1+bl ((bytesOf s).drop (A+1))+1+m:Nat):Int),false),Ev_shift ?_,?_⟩
  ·have q:(-1:Int)<0:=by omega
   simp only [exergueref11_rel.j0,Bool.false_eq_true,if_false,if_pos q1,if_pos q2,w1]
   refine Ev.bind hov ?_
   simp only [hsg,Option.bind_some,if_true,w2]
   refine Ev.bind (number_none hs hpos h1) ?_
   simp only [if_pos q]
   exact Ev.now _
  simp only []
  have e:A+1+bl ((bytesOf s).drop (A+1))+1+m=A+1+(bl ((bytesOf s).drop (A+1))+1+m):=by omega
  rw [e]
 obtain ⟨v0,_,_⟩:=num_some h1
 have hr:=(num_room hpos h1).1
 obtain ⟨r,hr1,hr2⟩:=j1_ev hs hr (bt s (A:Int)) v
 refine ⟨r,Ev_shift ?_,?_⟩
 ·have q:¬ v<0:=by omega
  simp only [exergueref11_rel.j0,Bool.false_eq_true,if_false,if_pos q1,if_pos q2,w1]
  refine Ev.bind hov ?_
  simp only [hsg,Option.bind_some,if_true,w2]
  refine Ev.bind (number_some hs hpos h1) ?_
  simp only [if_neg q]
  exact Ev.bind (over_ev hs hr) hr1
 have e:A+1+(bl ((bytesOf s).drop (A+1))+1+m)=A+1+bl ((bytesOf s).drop (A+1))+1+m:=by omega
 simp only []
 rw [e]
 exact hr2
theorem rel_ev11 {a:Nat}(ha:a≤s.size):∃ r,Ev (fun k=>exergueref11_rel.f k s (a:Int)) r∧RelRes a r (relP ((bytesOf s).drop a)):=by
 have hA:=run_size isBl s a ha
 change a+bl ((bytesOf s).drop a)≤s.size at hA
 obtain ⟨A,hAA⟩:∃ A,a+bl ((bytesOf s).drop a)=A:=⟨_,rfl⟩
 have hov:=over_ev hs ha
 have hdA:((bytesOf s).drop a).drop (bl ((bytesOf s).drop a))=(bytesOf s).drop A:=by rw [bl_drop,hAA]
 rw [hAA] at hov hA
 have hwd:=word_ev hs hA
 have wA:wrap64 ((A:Int)+1)=((A+1:Nat):Int):=by rw [w64 _ (by omega) (by omega)];omega
 have bad:opP ((bytesOf s).drop a)=(none,bl ((bytesOf s).drop a))→∀ v m r,Ev (fun k=>exergueref11_rel.j0 k s (A:Int) true v m false) r→r.2.2.2.2=((A:Int),false)→RelRes a r (relP ((bytesOf s).drop a)):=by
  intro ho v m r _ hr
  unfold relP
  rw [ho]
  simp only [RelRes,hAA]
  exact hr
 unfold exergueref11_rel.f
 by_cases hrun:runL isLo ((bytesOf s).drop A)=1
 rotate_left
 ·obtain ⟨r,hr1,hr2⟩:=rel_bad (s:=s) (A:=A) 0 0
  have q1:¬ ((A+runL isLo ((bytesOf s).drop A):Nat):Int)=((A+1:Nat):Int):=by omega
  refine ⟨r,?_,bad (by unfold opP;rw [hdA,if_neg (by rintro ⟨h,_⟩;exact hrun h)]) _ _ r hr1 hr2⟩
  refine Ev.bind hov ?_
  refine Ev.bind hwd ?_
  simp only [wA,if_neg q1]
  exact hr1
 have hlt:A<s.size:=by
  apply Classical.byContradiction
  intro h
  have:=run_end (p:=isLo) (s:=s) h
  omega
 have q1:((A+runL isLo ((bytesOf s).drop A):Nat):Int)=((A+1:Nat):Int):=by rw [hrun]
 have q2:(0:Int)≤(A:Int):=by omega
 have q3:(A:Int)<(s.size:Int):=by omega
 have hrd:rd ((bytesOf s).drop A) 0=bt s (A:Int):=by rw [drop_bt s A hlt];rfl
 by_cases hop:isOp (bt s (A:Int))=true
 rotate_left
 ·obtain ⟨r,hr1,hr2⟩:=rel_bad (s:=s) (A:=A) 0 0
  have hop':isOp (bt s (A:Int))=false:=by simpa using hop
  refine ⟨r,?_,bad (by unfold opP;rw [hdA,hrd,if_neg (by rintro ⟨_,h⟩;exact hop h)]) _ _ r hr1 hr2⟩
  refine Ev.bind hov ?_
  refine Ev.bind hwd ?_
  simp only [wA,if_pos q1,if_pos q2,if_pos q3,opB,hop',Option.bind_some,Bool.not_false]
  exact hr1
 obtain ⟨r,hr1,hr2⟩:=rel_op hs hlt
 refine ⟨r,?_,?_⟩
 ·refine Ev.bind hov ?_
  refine Ev.bind hwd ?_
  simp only [wA,if_pos q1,if_pos q2,if_pos q3,opB,hop,Option.bind_some,Bool.not_true]
  exact hr1
 have ho:opP ((bytesOf s).drop a)=(some (bt s (A:Int)),bl ((bytesOf s).drop a)+1):=by
  unfold opP
  rw [hdA,hrd,if_pos ⟨hrun,hop⟩]
 unfold relP
 rw [ho]
 have e1:a+(bl ((bytesOf s).drop a)+1)=A+1:=by omega
 simp only [List.drop_drop]
 rw [e1]
 rcases h2:modP ((bytesOf s).drop (A+1)) with ⟨_|v,m⟩
 ·rw [h2] at hr2
  simp only [RelRes] at hr2 ⊢
  rw [show a+(bl ((bytesOf s).drop a)+1+m)=A+1+m by omega]
  exact hr2
 rw [h2] at hr2
 simp only [NotRes] at hr2 ⊢
 have e2:a+(bl ((bytesOf s).drop a)+1+m)=A+1+m:=by omega
 rw [e2]
 rcases h3:notP ((bytesOf s).drop (A+1+m)) with ⟨_|b,j⟩
 ·rw [h3] at hr2
  simp only [RelRes] at hr2 ⊢
  rw [show a+(bl ((bytesOf s).drop a)+1+m+j)=A+1+m+j by omega]
  exact hr2
 rw [h3] at hr2
 simp only [List.drop_drop] at hr2 ⊢
 have e3:a+(bl ((bytesOf s).drop a)+1+m+j)=A+1+m+j:=by omega
 rw [e3]
 rcases h4:rngP ((bytesOf s).drop (A+1+m+j)) with ⟨_|l,i⟩
 ·rw [h4] at hr2
  simp only [RelRes] at hr2 ⊢
  rw [show a+(bl ((bytesOf s).drop a)+1+m+j+i)=A+1+m+j+i by omega]
  exact hr2
 rw [h4] at hr2
 simp only [RelRes] at hr2 ⊢
 rw [show a+(bl ((bytesOf s).drop a)+1+m+j+i)=A+1+m+j+i by omega]
 exact hr2
omit hs in
theorem rowsOf_snoc (x:Rl):∀ (pre:List (Rl×Bool)) (l:List Rl) (c:List (List Rl)) (row:List Rl),rowsOf l pre=c ++ [row]→rowsOf l (pre ++ [(x,false)])=c ++ [row ++ [x]]
  | [],l,c,row,h=>by
    simp only [rowsOf] at h
    have hl:=congrArg List.length h
    simp at hl
    subst hl
    simp only [List.nil_append,List.cons.injEq,and_true] at h
    subst h
    simp [rowsOf]
  | (y,false) :: pre,l,c,row,h=>by
    rw [List.cons_append]
    simp only [rowsOf] at h ⊢
    exact rowsOf_snoc x pre _ _ _ h
  | (y,true) :: pre,l,c,row,h=>by
    rw [List.cons_append]
    simp only [rowsOf] at h ⊢
    cases c with
    | nil=>
      simp only [List.nil_append,List.cons.injEq] at h
      exact absurd h.2 (rowsOf_ne _ _)
    | cons d c=>
      simp only [List.cons_append,List.cons.injEq] at h ⊢
      exact ⟨h.1,rowsOf_snoc x pre _ _ _ h.2⟩
def parseO:Option (List (Rl×Bool))×Nat→List (List Rl)×Int×Int
  | (none,n)=>([],(n:Int),2)
  | (some r,_)=>if fullP r then ([],0,11) else (rowsOf [] r,0,0)
omit hs in
theorem word_bytes {A:Nat}:bytesOf (s.extract ((A:Nat):Int).toNat ((A+runL isLo ((bytesOf s).drop A):Nat):Int).toNat)=wordP ((bytesOf s).drop A):=by
 rw [bytes_cut]
 unfold wordP
 congr 1
 omega
theorem refGo_ev (n:Nat):∀ (a:Nat) (pre:List (Rl×Bool)) (c:List (List Rl)) (row:List Rl),a≤s.size→s.size+1≤a+n→pre.length≤a→relsP (bytesOf s)=combR pre a (relsP ((bytesOf s).drop a))→rowsOf [] pre=c ++ [row] →
    Ev (fun k=>refGo (fun x=>exergueref11_rel.f k s x) (fun x=>exergueref11_over.f k s x) (fun x=>exergueref11_word.f k s x) s n (a:Int) (pre.length:Int) (fullP pre) c row) (parseO (relsP (bytesOf s))):=by
 induction n with
 | zero=>intro a _ _ _ h1 h2;omega
 | succ n ih=>
  intro a pre c row ha hn hpl heq hrow
  obtain ⟨r,hr1,hr2⟩:=rel_ev11 hs ha
  simp only [refGo]
  refine Ev.bind hr1 ?_
  rcases hx:relP ((bytesOf s).drop a) with ⟨_|x,m⟩
  ·rw [hx] at hr2
   simp only [RelRes] at hr2
   rw [heq,rels_none hx]
   have e1:r.2.2.2.2.1=((a+m:Nat):Int):=by rw [hr2]
   have e2:r.2.2.2.2.2=false:=by rw [hr2]
   simp only [e1,e2,Bool.false_eq_true,if_false,combR,parseO]
   exact Ev.now _
  rw [hx] at hr2
  simp only [RelRes] at hr2
  subst hr2
  have hm:=(rel_pos hx).1
  have hml:=rel_le' hx
  rw [List.length_drop,bytesOf_length] at hml
  have ham:a+m≤s.size:=by omega
  have hA2:=run_size isBl s (a+m) ham
  change a+m+bl ((bytesOf s).drop (a+m))≤s.size at hA2
  obtain ⟨A,hAA⟩:∃ A,a+m+bl ((bytesOf s).drop (a+m))=A:=⟨_,rfl⟩
  have hov:=over_ev hs ham
  rw [hAA] at hov hA2
  have hdA:((bytesOf s).drop a).drop (m+bl (((bytesOf s).drop a).drop m))=(bytesOf s).drop A:=by
   rw [List.drop_drop,List.drop_drop,← Nat.add_assoc,hAA]
  have hdd:bl (((bytesOf s).drop a).drop m)=bl ((bytesOf s).drop (a+m)):=by rw [List.drop_drop]
  have hfull:(fullP pre || decide ((x.f3.length:Int)>20) || decide ((pre.length:Int)+1>20))=fullP (pre ++ [(x,false)]):=by
   rw [fullP_snoc]
   congr 1
   ·congr 1
    rw [decide_eq_decide];omega
   rw [decide_eq_decide];omega
  have hfull2:fullP (pre ++ [(x,true)])=fullP (pre ++ [(x,false)]):=by rw [fullP_snoc,fullP_snoc]
  have hrs:=rowsOf_snoc x pre [] c row hrow
  simp only [if_true,hfull]
  refine Ev.bind hov ?_
  by_cases hend:A=s.size
  ·have q1:((A:Nat):Int)=(s.size:Int):=by omega
   have hnil:(bytesOf s).drop A=[]:=List.drop_of_length_le (by rw [bytesOf_length];omega)
   rw [heq,rels_end hx (by rw [hdA];exact hnil)]
   simp only [if_pos q1,combR,parseO]
   by_cases hf:fullP (pre ++ [(x,false)])=true
   ·simp only [if_pos hf]
    exact Ev.now _
   simp only [if_neg hf,hrs]
   exact Ev.now _
  have q1:¬ ((A:Nat):Int)=(s.size:Int):=by omega
  have hne:(bytesOf s).drop A≠[]:=by
   intro h
   have:=congrArg List.length h
   rw [List.length_drop,bytesOf_length] at this
   simp at this
   omega
  have hwl:=run_size isLo s A hA2
  have q2:(0:Int)≤(A:Int)∧(A:Int)≤((A+runL isLo ((bytesOf s).drop A):Nat):Int)∧((A+runL isLo ((bytesOf s).drop A):Nat):Int)≤(s.size:Int):=by omega
  have hwb:=word_bytes (s:=s) (A:=A)
  have hwlen:(wordP ((bytesOf s).drop A)).length=runL isLo ((bytesOf s).drop A):=by
   unfold wordP
   rw [List.length_take]
   have:=runL_le isLo ((bytesOf s).drop A)
   omega
  simp only [if_neg q1]
  refine Ev.bind (word_ev hs hA2) ?_
  simp only [if_pos q2]
  by_cases hand:wordP ((bytesOf s).drop A)=wordAnd
  ·have z:s.extract ((A:Nat):Int).toNat ((A+runL isLo ((bytesOf s).drop A):Nat):Int).toNat=⟨#[97,110,100]⟩:=bytesInj (by rw [hwb,hand];rfl)
   rw [hand] at hwlen
   have hl3:runL isLo ((bytesOf s).drop A)=3:=by rw [← hwlen];rfl
   have h1:=rels_and hx (by rw [hdA];exact hne) (by rw [hdA];exact hand)
   have h2:relsP (bytesOf s)=combR (pre ++ [(x,false)]) (A+3) (relsP ((bytesOf s).drop (A+3))):=by
    rw [heq,h1,combR_combR]
    simp only [List.drop_drop]
    have e:a+(m+bl ((bytesOf s).drop (a+m))+3)=A+3:=by omega
    rw [e]
   have hnext:=ih (A+3) (pre ++ [(x,false)]) c (row ++ [x]) (by omega) (by omega) (by rw [List.length_append];simp;omega) h2 hrs
   rw [List.length_append,show ((pre.length+([(x,false)]:List (Rl×Bool)).length:Nat):Int)=(pre.length:Int)+1 from rfl] at hnext
   simp only [if_pos z]
   simp only [hl3]
   exact hnext
  have z:¬ s.extract ((A:Nat):Int).toNat ((A+runL isLo ((bytesOf s).drop A):Nat):Int).toNat=⟨#[97,110,100]⟩:=by
   intro h
   rw [h] at hwb
   exact hand hwb.symm
  simp only [if_neg z]
  by_cases hor:wordP ((bytesOf s).drop A)=wordOr
  ·have z:s.extract ((A:Nat):Int).toNat ((A+runL isLo ((bytesOf s).drop A):Nat):Int).toNat=⟨#[111,114]⟩:=bytesInj (by rw [hwb,hor];rfl)
   rw [hor] at hwlen
   have hl3:runL isLo ((bytesOf s).drop A)=2:=by rw [← hwlen];rfl
   have h1:=rels_or hx (by rw [hdA];exact hne) (by rw [hdA];exact hor)
   have h2:relsP (bytesOf s)=combR (pre ++ [(x,true)]) (A+2) (relsP ((bytesOf s).drop (A+2))):=by
    rw [heq,h1,combR_combR]
    simp only [List.drop_drop]
    have e:a+(m+bl ((bytesOf s).drop (a+m))+2)=A+2:=by omega
    rw [e]
   have hrs2:rowsOf [] (pre ++ [(x,true)])=(c ++ [row ++ [x]]) ++ [[]]:=by rw [rowsOf_orr,hrs]
   have hnext:=ih (A+2) (pre ++ [(x,true)]) (c ++ [row ++ [x]]) [] (by omega) (by omega) (by rw [List.length_append];simp;omega) h2 hrs2
   rw [List.length_append,hfull2,show ((pre.length+([(x,true)]:List (Rl×Bool)).length:Nat):Int)=(pre.length:Int)+1 from rfl] at hnext
   simp only [if_pos z]
   simp only [hl3]
   exact hnext
  have z:¬ s.extract ((A:Nat):Int).toNat ((A+runL isLo ((bytesOf s).drop A):Nat):Int).toNat=⟨#[111,114]⟩:=by
   intro h
   rw [h] at hwb
   exact hor hwb.symm
  simp only [if_neg z]
  rw [heq,rels_bad hx (by rw [hdA];exact hne) (by rw [hdA];exact hor) (by rw [hdA];exact hand)]
  simp only [combR,parseO,hdd]
  have e:a+(m+bl ((bytesOf s).drop (a+m)))=A:=by omega
  rw [e]
  exact Ev.now _
end
theorem refParse_ev (s:ByteArray):Ev (fun k=>exergueref11_Parse.f k s) (parseP (bytesOf s)):=by
 unfold exergueref11_Parse.f parseP
 rw [bytesOf_length]
 by_cases h:400<s.size
 ·have q:(s.size:Int)>400:=by omega
  simp only [if_pos q,if_pos h]
  exact Ev.now _
 have q:¬ (s.size:Int)>400:=by omega
 simp only [if_neg q,if_neg h]
 have:=refGo_ev (s:=s) (by omega) (s.size+2) 0 [] [] [] (by omega) (by omega) (by simp) (by rw [List.drop_zero,combR_nil]) rfl
 unfold parseO at this
 exact this
end
end Go.Proofs.YtgfajgkjbckkgaaGreatDoor.PZ
end
