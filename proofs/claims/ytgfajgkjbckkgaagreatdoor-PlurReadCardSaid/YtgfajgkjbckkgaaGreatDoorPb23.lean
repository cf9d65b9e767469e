/- Texts of this seat, joined. Conditions: none beyond each statement's own. -/
import Derived.Test.YtgfajgkjbckkgaaGreatDoorPb21
set_option linter.all false
section
set_option maxRecDepth 100000
namespace Go.Proofs.YtgfajgkjbckkgaaGreatDoor.PZ
open Go.RowKit Go.Proofs.YtgfajgkjbckkgaaGreatDoorW.PrintWords Go.Proofs.YtgfajgkjbckkgaaGreatDoorW.PrintLast
section
theorem not_none {t:List Int}{j:Nat}(h:notP t=(none,j)):signP [33,61] t=false∧signP [61] t=false∧j=bl t:=by
 unfold notP at h
 split at h
 · cases h
 rename_i h1
 split at h
 · cases h
 rename_i h2
 exact ⟨by simpa using h1,by simpa using h2,(congrArg Prod.snd h).symm⟩
theorem not_case {t:List Int}{b:Bool}{j:Nat}(h:notP t=(some b,j)):(signP [33,61] t=true∧b=true∧j=bl t+2)∨(signP [33,61] t=false∧signP [61] t=true∧b=false∧j=bl t+1):=by
 unfold notP at h
 split at h
 ·rename_i h1
  simp only [Prod.mk.injEq,Option.some.injEq] at h
  exact .inl ⟨h1,h.1.symm,h.2.symm⟩
 rename_i h1
 split at h
 ·rename_i h2
  simp only [Prod.mk.injEq,Option.some.injEq] at h
  exact .inr ⟨by simpa using h1,h2,h.1.symm,h.2.symm⟩
 cases h
def RngOut (W:World)(g:Nat)(s:ByteArray)(K:Nat)(c v:Int)(nt:Bool)(e:Ending)(W':World):Prop:=
  match rngP ((bytesOf s).drop K) with
  | (none,i)=>RelBad W g s (K+i) e W'
  | (some l,i)=>RelGood W g s (K+i+bl ((bytesOf s).drop (K+i))) ⟨c,v,nt,l⟩ e W'
def RestOut (W:World)(g:Nat)(s:ByteArray)(Q:Nat)(c v:Int)(e:Ending)(W':World):Prop:=
  match notP ((bytesOf s).drop Q) with
  | (none,j)=>RelBad W g s (Q+j) e W'
  | (some nt,j)=>RngOut W g s (Q+j) c v nt e W'
theorem rest_none {W W':World}{g:Nat}{s:ByteArray}{Q j:Nat}{c v:Int}{e:Ending}(h:notP ((bytesOf s).drop Q)=(none,j))(k:RelBad W g s (Q+j) e W'):RestOut W g s Q c v e W':=by
 unfold RestOut
 rw [h]
 exact k
theorem rest_bad {W W':World}{g:Nat}{s:ByteArray}{Q j i:Nat}{c v:Int}{nt:Bool}{e:Ending}(h:notP ((bytesOf s).drop Q)=(some nt,j))(h2:rngP ((bytesOf s).drop (Q+j))=(none,i))(k:RelBad W g s (Q+j+i) e W'):RestOut W g s Q c v e W':=by
 unfold RestOut
 rw [h]
 simp only
 unfold RngOut
 rw [h2]
 exact k
theorem rest_good {W W':World}{g:Nat}{s:ByteArray}{Q j i:Nat}{c v:Int}{nt:Bool}{l:List Rg}{e:Ending}(h:notP ((bytesOf s).drop Q)=(some nt,j))(h2:rngP ((bytesOf s).drop (Q+j))=(some l,i))(k:RelGood W g s (Q+j+i+bl ((bytesOf s).drop (Q+j+i))) ⟨c,v,nt,l⟩ e W'):RestOut W g s Q c v e W':=by
 unfold RestOut
 rw [h]
 simp only
 unfold RngOut
 rw [h2]
 exact k
theorem hasTo_eq (x:ByteArray)(s:ByteArray)(P:Nat):hasTo x s P=if signP (bytesOf x) ((bytesOf s).drop P) then P+bl ((bytesOf s).drop P)+x.size else P+bl ((bytesOf s).drop P):=rfl
def comb (l:List Rg)(d:Nat):Option (List Rg)×Nat→Option (List Rg)×Nat
  | (none,j)=>(none,d+j)
  | (some r,j)=>(some (l ++ r),d+j)
theorem comb_comb (l m:List Rg)(d e:Nat)(p:Option (List Rg)×Nat):comb l d (comb m e p)=comb (l ++ m) (d+e) p:=by
 rcases p with ⟨_|r,j⟩
 · simp only [comb,Nat.add_assoc]
 simp only [comb,Nat.add_assoc,List.append_assoc]
theorem comb_nil (p:Option (List Rg)×Nat):comb [] 0 p=p:=by rcases p with ⟨_|r,j⟩ <;> simp [comb]
theorem rng_none {t:List Int}{n:Nat}(h:oneP t=(none,n)):rngP t=(none,n):=by rw [rngP_eq,h]
theorem rng_last {t:List Int}{n:Nat}{r:Rg}(h:oneP t=(some r,n))(hs:signP [44] (t.drop n)=false):rngP t=(some [r],n):=by
 rw [rngP_eq,h]
 simp only [hs,Bool.false_eq_true,if_false]
theorem rng_more {t:List Int}{n:Nat}{r:Rg}(h:oneP t=(some r,n))(hs:signP [44] (t.drop n)=true):rngP t=comb [r] (n+(bl (t.drop n)+1)) (rngP (t.drop (n+(bl (t.drop n)+1)))):=by
 rw [rngP_eq,h]
 simp only [hs,if_true]
 rcases rngP (t.drop (n+(bl (t.drop n)+1))) with ⟨_|r,j⟩ <;> rfl
structure Path (s:ByteArray)(k:Nat)(r:Rg)(K:Nat)(b:Bool):Prop where
  le:K≤s.size
  bad:b=false→∃ n,oneP ((bytesOf s).drop k)=(none,n)∧K=k+n
  good:b=true→∃ n,0<n∧oneP ((bytesOf s).drop k)=(some r,n)∧SameAt s K (k+n)
structure LpOn (s:ByteArray)(K0 k:Nat)(l:List Rg)(gg:Nat):Prop where
  le:k≤s.size
  len:l.length≤k
  from_:K0≤k
  fuel:s.size+1 - k≤gg
  eq:rngP ((bytesOf s).drop K0)=comb l (k - K0) (rngP ((bytesOf s).drop k))
def LpInv (s:ByteArray)(K0 k:Nat)(b mo:Bool)(l:List Rg)(gg:Nat):Prop:=
  (mo=true∧b=true∧LpOn s K0 k l gg)∨(mo=false∧b=false∧∃ i,rngP ((bytesOf s).drop K0)=(none,i)∧k=K0+i) ∨
  (mo=false∧b=true∧∃ i,rngP ((bytesOf s).drop K0)=(some l,i)∧k=K0+i+bl ((bytesOf s).drop (K0+i)))
theorem LpInv.bad {s:ByteArray}{K0 k K:Nat}{l l':List Rg}{r:Rg}{gg gg':Nat}(h:LpOn s K0 k l gg)(p:Path s k r K false):LpInv s K0 K false false l' gg':=by
 obtain ⟨n,h1,h2⟩:=p.bad rfl
 refine .inr (.inl ⟨rfl,rfl,k - K0+n,?_,?_⟩)
 · rw [h.eq,rng_none h1];rfl
 have:=h.from_;omega
theorem LpInv.next {s:ByteArray}{K0 k K:Nat}{l:List Rg}{r:Rg}{gg:Nat}(h:LpOn s K0 k l gg)(p:Path s k r K true) :
    ∃ Z,SameAt s K Z∧∀ gg',gg≤gg'+1→LpInv s K0 (hasTo ⟨#[44]⟩ s Z) true (signP [44] ((bytesOf s).drop Z)) (l ++ [r]) gg':=by
 obtain ⟨n,hn,h1,h2⟩:=p.good rfl
 refine ⟨k+n,h2,fun gg' hgg=>?_⟩
 have hf:=h.from_
 have hle:=h.le
 have hlen:=h.len
 have hfu:=h.fuel
 have hd:((bytesOf s).drop k).drop n=(bytesOf s).drop (k+n):=List.drop_drop ..
 have hsz:=hasTo_le ⟨#[44]⟩ s K h2.le
 rw [h2.has] at hsz
 rw [hasTo_eq] at hsz ⊢
 rw [show bytesOf (⟨#[44]⟩:ByteArray)=[44] from rfl] at hsz ⊢
 cases hs:signP [44] ((bytesOf s).drop (k+n)) with
 | true=>
  rw [hs] at hsz
  simp only [if_true] at hsz ⊢
  rw [show (⟨#[44]⟩:ByteArray).size=1 from rfl] at hsz ⊢
  have he:=rng_more h1 (by rw [hd];exact hs)
  rw [hd,List.drop_drop] at he
  refine .inl ⟨rfl,rfl,hsz,by rw [List.length_append];simp;omega,by omega,by omega,?_⟩
  rw [h.eq,he,comb_comb]
  rw [show k - K0+(n+(bl ((bytesOf s).drop (k+n))+1))=k+n+bl ((bytesOf s).drop (k+n))+1 - K0 by omega,show k+(n+(bl ((bytesOf s).drop (k+n))+1))=k+n+bl ((bytesOf s).drop (k+n))+1 by omega]
 | false=>
  simp only [Bool.false_eq_true,if_false]
  refine .inr (.inr ⟨rfl,rfl,k - K0+n,?_,?_⟩)
  ·rw [h.eq,rng_last h1 (by rw [hd];exact hs)]
   rfl
  rw [show K0+(k - K0+n)=k+n by omega]
section
variable {W wr W2:World}{g:Nat}{s:ByteArray}{a:Nat}{b:Bool}{g2 g3:Nat}{c m:Int}{nt:Bool}{v:Value}{l:List Rg}
theorem RelSt.after (h:RelSt W g s a b g2 g3 c m nt v l wr)(hgr:wr.grownBy W2 v.ownBlock):W2.cell? ⟨g3,3,none⟩=some v∧W2.frozen? ⟨g3,3,none⟩=false:=by
 have hx:=blk_grown h.x3 hgr (fun e=>(h.row_lt g3 e.symm).2.2 rfl)
 exact ⟨(blk_cell hx 3).trans rfl,blk_frozen hx 3⟩
theorem RelSt.fresh (h:RelSt W g s a b g2 g3 c m nt v l wr):∀ k,wr.heap.size≤k→k≠g∧k≠g2∧k≠g3:=by
 intro k hk
 have h1:=blk_lt h.rd.rdr
 have h2:=blk_lt h.z2
 have h3:=blk_lt h.x3
 omega
end
theorem num_at {W0:World}{g:Nat}{s:ByteArray}(H:∀ (K':Nat)(l:Int)(i:Nat)(r:Option Int),K'≤s.size→numP l ((bytesOf s).drop K')=(r,i)→∀ wc:World,RdTo W0 g s K' true wc→Calls Tryz.prog 91 #[.pointer (some ⟨g,0,none⟩),.int .i64 l] wc (NumEnd l wc g s K' true))
    {K':Nat} {l:Int} {i:Nat} {r:Option Int} {wc:World} (h1:K'≤s.size) (h2:numP l ((bytesOf s).drop K')=(r,i)) (hr:RdTo W0 g s K' true wc):Calls Tryz.prog 91 #[.pointer (some ⟨g,0,none⟩),.int .i64 l] wc (NumEnd l wc g s K' true):=H K' l i r h1 h2 wc hr
theorem num_end {g:Nat}{s:ByteArray}{K':Nat}{l:Int}{i:Nat}{wc:World}(h:Calls Tryz.prog 91 #[.pointer (some ⟨g,0,none⟩),.int .i64 l] wc (NumEnd l wc g s K' true))(hn:numP l ((bytesOf s).drop K')=(none,i)) :
    Calls Tryz.prog 91 #[.pointer (some ⟨g,0,none⟩),.int .i64 l] wc fun e W'=>e = .returned (.int .i64 0)∧RdTo wc g s (K'+i) false W':=by
 unfold NumEnd at h
 rw [hn] at h
 exact h
theorem num_end2 {g:Nat}{s:ByteArray}{K':Nat}{l v:Int}{i:Nat}{wc:World}(h:Calls Tryz.prog 91 #[.pointer (some ⟨g,0,none⟩),.int .i64 l] wc (NumEnd l wc g s K' true))(hn:numP l ((bytesOf s).drop K')=(some v,i)) :
    Calls Tryz.prog 91 #[.pointer (some ⟨g,0,none⟩),.int .i64 l] wc fun e W'=>e = .returned (.int .i64 v)∧RdTo wc g s (K'+i) true W':=by
 unfold NumEnd at h
 rw [hn] at h
 exact h
set_option maxHeartbeats 8000000 in
set_option maxRecDepth 100000 in
theorem rel_rest (w0:World)(hG:GL w0)(g:Nat)(s:ByteArray)(a n m:Nat)(c v:Int)(W:World)(h:Rdr W g s a true)(hB:Below w0.heap.size w0 W)(hg0:w0.heap.size≤g)(ha:a≤s.size)(hs0:s.size≤1000000)(hop:opP ((bytesOf s).drop a)=(some c,n))(hm:modP ((bytesOf s).drop (a+n))=(some v,m)) :
    Calls Tryz.prog 66 #[.pointer (some ⟨g,0,none⟩)] W (RestOut W g s (a+n+m) c v):=by
 have hs:s.size≤140737488351232:=by omega
 have hO:=rd_op g s a true (W.alloc (.cells #[.int .u8 0,.int .i64 0,.bool false,.slice none 0 0] 60)) (h.alloc _) ha hs
 have hn:=op_le ha hop
 unfold OpEndR at hO
 rw [hop] at hO
 simp only at hO
 have hg:g<W.heap.size:=blk_lt h
 have HG:=zA hg
 obtain ⟨r37,hr37⟩:∃ r,signP [37] ((bytesOf s).drop (a+n))=r:=⟨_,rfl⟩
 obtain ⟨K,hK⟩:∃ K,hasTo ⟨#[37]⟩ s (a+n)=K:=⟨_,rfl⟩
 have hle:=hasTo_le ⟨#[37]⟩ s (a+n) hn
 rw [hK] at hle
 have HH:=zA (fun (wc:World) (hr:Rdr wc g s (a+n) true)=>has_same ⟨#[37]⟩ (SameAt.refl hn) hr hs hr37 hK)
 have HN:Aside0 (r37=true→∃ j,K+j=a+n+m∧K+j≤s.size∧∀ wc,RdTo W g s K true wc→Calls Tryz.prog 91 #[.pointer (some ⟨g,0,none⟩),.int .i64 1] wc fun e W'=>e = .returned (.int .i64 v)∧RdTo wc g s (K+j) true W'):=⟨fun hr=>by
  rcases mod_case hm with ⟨m1,j,m2,rfl⟩|⟨m1,_,_⟩
  ·rw [hasTo_eq,show bytesOf (⟨#[37]⟩:ByteArray)=[37] from rfl,m1] at hK
   simp only [if_true] at hK
   have e1:K=a+n+(bl ((bytesOf s).drop (a+n))+1):=by rw [← hK];rfl
   rw [List.drop_drop,← e1] at m2
   exact ⟨j,by omega,num_le hle m2,fun wc hrd=>num_ok 1 hG hB hg0 hrd hle hs m2⟩
  rw [hr37,hr] at m1;cases m1⟩
 have HF:Aside0 (r37=false→v=0∧SameAt s K (a+n+m)):=⟨fun hr=>by
  rcases mod_case hm with ⟨m1,_⟩|⟨m1,m2,m3⟩
  · rw [hr37,hr] at m1;cases m1
  rw [hasTo_eq,show bytesOf (⟨#[37]⟩:ByteArray)=[37] from rfl,m1] at hK
  simp only [Bool.false_eq_true,if_false] at hK
  exact ⟨m2,by rw [← hK,m3,Nat.add_zero];exact SameAt.skip hn⟩⟩
 have HRN:=zA (fun (K':Nat) (l:Int) (i:Nat) (r:Option Int) (hK':K'≤s.size) (hn:numP l ((bytesOf s).drop K')=(r,i)) (wc:World) (hr:RdTo W g s K' true wc)=>rd_number l w0 hG g s K' true wc hr.1 (hr.below hB hg0) hg0 hK' hs)
 generalize a+n+m=Q at *
 clear hop hm hK hle hG hB hg0 h hg hr37
 go_enter Tryz.func66,Tryz.ntmps66
 go_upto_region 1 with (fail)
 go_cut [3] (fun s3 wc=>∃ g3,s3 = .pointer (some ⟨g3,0,none⟩)∧Aside0 (RelSt W g s (a+n) true W.heap.size g3 c 0 false (.slice none 0 0) [] wc))
 case first=>
  go_wp2_with (go_at_call 89;refine hO.mono ?_;rintro e W1 ⟨rfl,hr1⟩;have HR:=zA hr1;clear hr1)
  go_meet
  case rel=>exact ⟨W1.heap.size,rfl,⟨RelSt.start HR.out HG.out⟩⟩
 case rest=>
  obtain ⟨g3,rfl,HS⟩:=hcut
  clear hO
  obtain ⟨⟨c0,c1,c2,f1,f2⟩,d0,d1,d2,d3,k1,k2,k3,y0,y1,y2,y3,e0,e1,e2,e3⟩:=HS.out.cells
  go_upto_if 17 with (go_at_call 90;(with_reducible refine (HH.out _ HS.out.rd.rdr).mono ?_);rintro e W2 ⟨rfl,hr2⟩;have HS2:=zA (HS.out.call hr2);clear hr2)
  clear c0 c1 c2 f1 f2 d0 d1 d2 d3 k1 k2 k3 y0 y1 y2 y3 e0 e1 e2 e3
  go_cut [] (fun wc=>∃ P,Aside0 (SameAt s P Q)∧Aside0 (RelSt W g s P true W.heap.size g3 c v false (.slice none 0 0) [] wc))
  case first=>
   cases r37 with
   | true=>
    obtain ⟨j,hj1,hj2,hN⟩:=HN.out rfl
    have HJ:=zA hj1
    have HJ2:=zA hj2
    have HN2:=zA hN
    clear hj1 hj2 hN
    go_wp2_with (go_at_call 91;(with_reducible refine (HN2.out _ HS2.out.rd).mono ?_);rintro e W3 ⟨rfl,hr3⟩;have HS3:=zA (HS2.out.call hr3);clear hr3;obtain ⟨⟨c0,c1,c2,f1,f2⟩,d0,d1,d2,d3,k1,k2,k3,y0,y1,y2,y3,e0,e1,e2,e3⟩:=HS3.out.cells)
    go_meet
    case rel=>exact ⟨K+j,⟨by rw [← HJ.out];exact SameAt.refl HJ2.out⟩,⟨HS3.out.set1 v⟩⟩
   | false=>
    obtain ⟨hv,hS⟩:=HF.out rfl
    subst hv
    have HS4:=zA hS
    clear hS
    go_wp2
    go_meet
    case rel=>exact ⟨K,HS4,HS2⟩
  case rest=>
   clear HS HS2 HH HN HF
   obtain ⟨P,HP,HS⟩:=hcut
   rcases hnot:notP ((bytesOf s).drop Q) with ⟨_|nt,j⟩
   ·have HNOT:=zA hnot
    obtain ⟨n1,n2,hj⟩:=not_none hnot
    subst hj
    have hb:(bytesOf s).drop (Q+bl ((bytesOf s).drop Q))=((bytesOf s).drop Q).drop (bl ((bytesOf s).drop Q)):=(bl_drop s Q).symm
    have hK:hasTo ⟨#[33,61]⟩ s Q=Q+bl ((bytesOf s).drop Q):=by rw [hasTo_eq,show bytesOf (⟨#[33,61]⟩:ByteArray)=[33,61] from rfl,n1];rfl
    have hle:Q+bl ((bytesOf s).drop Q)≤s.size:=by
     have:=hasTo_le ⟨#[33,61]⟩ s P HP.out.le
     rw [HP.out.has,hK] at this
     exact this
    have hK2:hasTo ⟨#[61]⟩ s (Q+bl ((bytesOf s).drop Q))=Q+bl ((bytesOf s).drop Q):=by
     rw [hasTo_eq,show bytesOf (⟨#[61]⟩:ByteArray)=[61] from rfl,hb,sign_skip,n2,bl_bl]
     rfl
    have HA:=zA (fun (wc:World) (hr:Rdr wc g s P true)=>has_same ⟨#[33,61]⟩ HP.out hr hs n1 hK)
    have HB:=zA (fun (wc:World) (hr:Rdr wc g s (Q+bl ((bytesOf s).drop Q)) true)=>has_same ⟨#[61]⟩ (SameAt.refl hle) hr hs (r:=false) (by rw [hb,sign_skip];exact n2) hK2)
    clear hnot n1 n2 hb hK hle hK2 HRN HP
    obtain ⟨E,hE⟩:∃ E,Q+bl ((bytesOf s).drop Q)=E:=⟨_,rfl⟩
    rw [hE] at HA HB
    have HE:=zA hE
    clear hE
    obtain ⟨⟨c0,c1,c2,f1,f2⟩,d0,d1,d2,d3,k1,k2,k3,y0,y1,y2,y3,e0,e1,e2,e3⟩:=HS.out.cells
    go_upto_region 9 with (first
     | (go_at_call 90;(with_reducible refine (HA.out _ HS.out.rd.rdr).mono ?_);rintro e W2 ⟨rfl,hr2⟩;have HS2:=zA (HS.out.call hr2);clear hr2)
     | (go_at_call 90;(with_reducible refine (HB.out _ HS2.out.rd.rdr).mono ?_);rintro e W3 ⟨rfl,hr3⟩;have HS3:=zA (HS2.out.call hr3);clear hr3;obtain ⟨⟨c0,c1,c2,f1,f2⟩,d0,d1,d2,d3,k1,k2,k3,y0,y1,y2,y3,e0,e1,e2,e3⟩:=HS3.out.cells))
    go_cut [] (fun wc=>Aside0 (RelSt W g s E false W.heap.size g3 c v false (.slice none 0 0) [] wc))
    case first=>
     go_wp2
     go_meet
     case rel=>exact ⟨HS3.out.call ((RdTo.start HS3.out.rd.rdr).bad false)⟩
    case rest=>
     clear c0 c1 c2 f1 f2 d0 d1 d2 d3 k1 k2 k3 y0 y1 y2 y3 e0 e1 e2 e3 HS HS2 HS3 HA HB
     have HS:=hcut
     obtain ⟨⟨c0,c1,c2,f1,f2⟩,d0,d1,d2,d3,k1,k2,k3,y0,y1,y2,y3,e0,e1,e2,e3⟩:=HS.out.cells
     go_wp2
     obtain ⟨z1,z2,z3⟩:=HS.out.done
     exact bodyPost_ret (results_cell_row rfl _ _ _ 60 _ (0,0) _ rfl z2 Tryz.underlying60 rfl (by kernel_rfl)) rfl (rest_none HNOT.out ⟨⟨_,_,_,_,_,_,rfl⟩,by rw [HE.out];exact z1⟩)
   have HNOT:=zA hnot
   obtain ⟨r33,hr33⟩:∃ r,signP [33,61] ((bytesOf s).drop Q)=r:=⟨_,rfl⟩
   have hQ:Q+bl ((bytesOf s).drop Q)≤s.size:=by rw [← HP.out.bl_];exact run_size isBl s P HP.out.le
   obtain ⟨E,hE⟩:∃ E,hasTo ⟨#[33,61]⟩ s Q=E:=⟨_,rfl⟩
   have HA:=zA (fun (wc:World) (hr:Rdr wc g s P true)=>has_same ⟨#[33,61]⟩ HP.out hr hs hr33 hE)
   have hjs:Q+j≤s.size:=by
    rcases not_case hnot with ⟨n1,_,rfl⟩|⟨n1,n2,_,rfl⟩
    ·have:=hasTo_le ⟨#[33,61]⟩ s P HP.out.le
     rw [HP.out.has,hasTo_eq,show bytesOf (⟨#[33,61]⟩:ByteArray)=[33,61] from rfl,n1] at this
     exact this
    have:=hasTo_le ⟨#[61]⟩ s P HP.out.le
    rw [HP.out.has,hasTo_eq,show bytesOf (⟨#[61]⟩:ByteArray)=[61] from rfl,n2] at this
    exact this
   have HT:Aside0 (r33=true→nt=true∧E=Q+j):=⟨fun hr=>by
    rcases not_case hnot with ⟨n1,n2,rfl⟩|⟨n1,_⟩
    · exact ⟨n2,by rw [← hE,hasTo_eq,show bytesOf (⟨#[33,61]⟩:ByteArray)=[33,61] from rfl,n1];rfl⟩
    rw [hr33,hr] at n1;cases n1⟩
   have HF:Aside0 (r33=false→nt=false∧∀ wc,Rdr wc g s E true→Calls Tryz.prog 90 #[.pointer (some ⟨g,0,none⟩),.string ⟨#[61]⟩] wc fun e W'=>e = .returned (.bool true)∧RdTo wc g s (Q+j) true W'):=⟨fun hr=>by
    rcases not_case hnot with ⟨n1,_⟩|⟨n1,n2,n3,rfl⟩
    · rw [hr33,hr] at n1;cases n1
    refine ⟨n3,fun wc hrd=>?_⟩
    have hE2:E=Q+bl ((bytesOf s).drop Q):=by rw [← hE,hasTo_eq,show bytesOf (⟨#[33,61]⟩:ByteArray)=[33,61] from rfl,n1];rfl
    have hb:(bytesOf s).drop E=((bytesOf s).drop Q).drop (bl ((bytesOf s).drop Q)):=by rw [hE2];exact (bl_drop s Q).symm
    refine has_same ⟨#[61]⟩ (SameAt.refl (by omega)) hrd hs (r:=true) (by rw [hb,sign_skip];exact n2) ?_
    rw [hasTo_eq,show bytesOf (⟨#[61]⟩:ByteArray)=[61] from rfl,hb,sign_skip,n2,bl_bl,hE2]
    rfl⟩
   clear hnot hE hr33 hQ
   obtain ⟨K0,hK0⟩:∃ K0,Q+j=K0:=⟨_,rfl⟩
   rw [hK0] at HT HF hjs
   have HK0:=zA hK0
   clear hK0
   go_upto_block 0 with (fail)
   go_cut [] (fun wc=>Aside0 (RelSt W g s K0 true W.heap.size g3 c v nt (.slice none 0 0) [] wc))
   case first=>
    obtain ⟨⟨c0,c1,c2,f1,f2⟩,d0,d1,d2,d3,k1,k2,k3,y0,y1,y2,y3,e0,e1,e2,e3⟩:=HS.out.cells
    cases r33 with
    | true=>
     obtain ⟨hnt,hE⟩:=HT.out rfl
     subst hnt
     subst hE
     go_wp2_with (go_at_call 90;(with_reducible refine (HA.out _ HS.out.rd.rdr).mono ?_);rintro e W9 ⟨rfl,hr9⟩;have HS2:=zA (HS.out.call hr9);clear hr9;obtain ⟨⟨c0,c1,c2,f1,f2⟩,d0,d1,d2,d3,k1,k2,k3,y0,y1,y2,y3,e0,e1,e2,e3⟩:=HS2.out.cells)
     go_meet
     case rel=>exact ⟨HS2.out.set2 true⟩
    | false=>
     obtain ⟨hnt,hB⟩:=HF.out rfl
     subst hnt
     have HB:=zA hB
     clear hB
     go_wp2_with (first|(go_at_call 90;(with_reducible refine (HA.out _ HS.out.rd.rdr).mono ?_);rintro e W9 ⟨rfl,hr9⟩;have HS2:=zA (HS.out.call hr9);clear hr9;obtain ⟨⟨c0,c1,c2,f1,f2⟩,d0,d1,d2,d3,k1,k2,k3,y0,y1,y2,y3,e0,e1,e2,e3⟩:=HS2.out.cells)|(go_at_call 90;(with_reducible refine (HB.out _ HS2.out.rd.rdr).mono ?_);rintro e W9 ⟨rfl,hr9⟩;have HS3:=zA (HS2.out.call hr9);clear hr9;obtain ⟨⟨c0,c1,c2,f1,f2⟩,d0,d1,d2,d3,k1,k2,k3,y0,y1,y2,y3,e0,e1,e2,e3⟩:=HS3.out.cells))
     go_meet
     case rel=>exact HS3
   case rest=>
    clear HS HA HT HF HP
    have HS:=hcut
    have HN0:=HRN
    clear HRN hcut
    obtain ⟨⟨c0,c1,c2,f1,f2⟩,d0,d1,d2,d3,k1,k2,k3,y0,y1,y2,y3,e0,e1,e2,e3⟩:=HS.out.cells
    go_wp2
    have LEN0:=zA hs0
    go_loopg [4] (s.size+2) (fun gg s4 wr=>∃ (k:Nat) (b mo:Bool) (v':Value) (l:List Rg),s4 = .bool mo∧Aside0 (RelSt W g s k b W.heap.size g3 c v nt v' l wr)∧Aside0 (LpInv s K0 k b mo l gg))
    case atStart=>exact ⟨K0,true,true,_,[],rfl,HS,⟨.inl ⟨rfl,rfl,hjs,by simp,Nat.le_refl _,by omega,by rw [Nat.sub_self,comb_nil]⟩⟩⟩
    case round=>
     clear HS c0 c1 c2 f1 f2 d0 d1 d2 d3 k1 k2 k3 y0 y1 y2 y3 e0 e1 e2 e3
     obtain ⟨k,b,mo,v',l,rfl,HS,HL⟩:=hrel
     rcases HL.out with ⟨hmo,hb,ho⟩|⟨hmo,hb,i,h1,h2⟩|⟨hmo,hb,i,h1,h2⟩
     ·subst hmo hb
      have HO:=zA ho
      have LEN:=zA (show (l.length+1) * 16≤140737488355328 from by have:=HO.out.len;have:=HO.out.le;have:=LEN0.out;omega)
      clear HL ho
      obtain ⟨⟨c0,c1,c2,f1,f2⟩,d0,d1,d2,d3,k1,k2,k3,y0,y1,y2,y3,e0,e1,e2,e3⟩:=HS.out.cells
      go_upto_block 2 with (fail)
      clear c0 c1 c2 f1 f2 d0 d1 d2 d3 k1 k2 k3 y0 y1 y2 y3 e0 e1 e2 e3
      go_cut [] (fun wc=>∃ (r:Rg) (K:Nat) (b':Bool) (v2:Value),Aside0 (Path s k r K b')∧Aside0 (RelSt W g s K b' W.heap.size g3 c v nt v2 (l ++ [r]) wc))
      case first=>
       obtain ⟨⟨c0,c1,c2,f1,f2⟩,d0,d1,d2,d3,k1,k2,k3,y0,y1,y2,y3,e0,e1,e2,e3⟩:=HS.out.cells
       have hk:=HO.out.le
       rcases h1:numP 0 ((bytesOf s).drop k) with ⟨_|x,n⟩
       ·have HPth:=zA (show Path s k ⟨0,0⟩ (k+n) false from ⟨num_le hk h1,fun _=>⟨n,by unfold oneP;rw [h1],rfl⟩,(fun z=>by cases z)⟩)
        have HA:=zA (fun (wc:World) (hr:RdTo W g s k true wc)=>num_end (num_at HN0.out hk h1 hr) h1)
        clear h1 hk
        go_wp2_with (first|(go_at_call 91;(with_reducible refine (HA.out _ HS.out.rd).mono ?_);rintro e W9 ⟨rfl,hr9⟩;have HS2:=zA (HS.out.call hr9);clear hr9;obtain ⟨⟨c0,c1,c2,f1,f2⟩,d0,d1,d2,d3,k1,k2,k3,y0,y1,y2,y3,e0,e1,e2,e3⟩:=HS2.out.cells)|((with_reducible refine gate_builtin (b:=.append) (xs:=#[.tmp 71,.tmp 75]) rfl ?_);at_builtin;refine Kd.R_append k57 (w0:=_) W.heap.size rfl (.tmp 71) (.tmp 75) 58 57 (.agg #[(.int .i64 0),(.int .i64 0)]) 16 rfl Tryz.underlying58 info57 rfl (by decide) (by omega) _ _ (⟨0,0⟩:Rg) [.int .i64 0,.int .i64 0] (fun k=>k≠g∧k≠W.heap.size∧k≠g3) (fun _=>False) rfl rfl (k57_mkM _ _ _ (⟨0,0⟩:Rg)) (fun _ hk=>hk.elim) HS2.out.fresh HS2.out.row (Below.refl _ _) (Nat.le_trans HS2.out.h2 (Nat.le_of_lt (blk_lt HS2.out.z2))) LEN.out ?_;intro v9 w9 ho9 hb9 hg9 hat9;obtain ⟨A9,c9,e9⟩:=Kd.R_slice ho9;subst e9;obtain ⟨q3,p3⟩:=HS2.out.after hg9;have HS9:=zA (HS2.out.set3 ho9 hg9);clear ho9 hb9 hg9 hat9 d3 k3))
        go_meet
        case rel=>exact ⟨⟨0,0⟩,k+n,false,_,HPth,⟨by have h9:=HS9.out;simp only [List.length_append,List.length_cons,List.length_nil,Nat.zero_add] at h9;exact h9⟩⟩
       have hx:=num_some h1
       have hk1:=num_le hk h1
       have HA:=zA (fun (wc:World) (hr:RdTo W g s k true wc)=>num_end2 (num_at HN0.out hk h1 hr) h1)
       have hx0:0≤x:=hx.1
       have hx1:x≤999999999:=hx.2.2
       have hd:((bytesOf s).drop k).drop n=(bytesOf s).drop (k+n):=List.drop_drop ..
       cases h2:signP [46,46] ((bytesOf s).drop (k+n)) with
       | true=>
        have hK:hasTo ⟨#[46,46]⟩ s (k+n)=k+n+bl ((bytesOf s).drop (k+n))+2:=by
         rw [hasTo_eq,show bytesOf (⟨#[46,46]⟩:ByteArray)=[46,46] from rfl,h2];rfl
        have hk2:=hasTo_le ⟨#[46,46]⟩ s (k+n) hk1
        rw [hK] at hk2
        have HB:=zA (fun (wc:World) (hr:Rdr wc g s (k+n) true)=>has_same ⟨#[46,46]⟩ (SameAt.refl hk1) hr hs h2 hK)
        have hd2:((bytesOf s).drop k).drop (n+(bl ((bytesOf s).drop (k+n))+2))=(bytesOf s).drop (k+n+bl ((bytesOf s).drop (k+n))+2):=by rw [List.drop_drop];congr 1;omega
        rcases h3:numP (x+1) ((bytesOf s).drop (k+n+bl ((bytesOf s).drop (k+n))+2)) with ⟨_|y,m'⟩
        ·have HPth:=zA (show Path s k ⟨x,0⟩ (k+n+bl ((bytesOf s).drop (k+n))+2+m') false from ⟨num_le hk2 h3,fun _=>⟨n+(bl ((bytesOf s).drop (k+n))+2)+m',by unfold oneP;rw [h1];simp only [hd,h2,if_true,hd2,h3],by omega⟩,(fun z=>by cases z)⟩)
         have HC:=zA (fun (wc:World) (hr:RdTo W g s _ true wc)=>num_end (num_at HN0.out hk2 h3 hr) h3)
         generalize k+n+bl ((bytesOf s).drop (k+n))+2=K2 at *
         clear h1 h2 h3 hk hk1 hk2 hx hd hd2 hK
         go_wp2_with (first|(go_at_call 91;(with_reducible refine (HA.out _ HS.out.rd).mono ?_);rintro e W9 ⟨rfl,hr9⟩;have HS2:=zA (HS.out.call hr9);clear hr9;obtain ⟨⟨c0,c1,c2,f1,f2⟩,d0,d1,d2,d3,k1,k2,k3,y0,y1,y2,y3,e0,e1,e2,e3⟩:=HS2.out.cells)|(go_at_call 90;(with_reducible refine (HB.out _ HS2.out.rd.rdr).mono ?_);rintro e W9 ⟨rfl,hr9⟩;have HS3:=zA (HS2.out.call hr9);clear hr9;obtain ⟨⟨c0,c1,c2,f1,f2⟩,d0,d1,d2,d3,k1,k2,k3,y0,y1,y2,y3,e0,e1,e2,e3⟩:=HS3.out.cells)|(go_at_call 91;(with_reducible refine (HC.out _ HS3.out.rd).mono ?_);rintro e W9 ⟨rfl,hr9⟩;have HS4:=zA (HS3.out.call hr9);clear hr9;obtain ⟨⟨c0,c1,c2,f1,f2⟩,d0,d1,d2,d3,k1,k2,k3,y0,y1,y2,y3,e0,e1,e2,e3⟩:=HS4.out.cells)|((with_reducible refine gate_builtin (b:=.append) (xs:=#[.tmp 71,.tmp 75]) rfl ?_);at_builtin;refine Kd.R_append k57 (w0:=_) W.heap.size rfl (.tmp 71) (.tmp 75) 58 57 (.agg #[(.int .i64 0),(.int .i64 0)]) 16 rfl Tryz.underlying58 info57 rfl (by decide) (by omega) _ _ (⟨x,0⟩:Rg) [.int .i64 x,.int .i64 0] (fun k=>k≠g∧k≠W.heap.size∧k≠g3) (fun _=>False) rfl rfl (k57_mkM _ _ _ (⟨x,0⟩:Rg)) (fun _ hk=>hk.elim) HS4.out.fresh HS4.out.row (Below.refl _ _) (Nat.le_trans HS4.out.h2 (Nat.le_of_lt (blk_lt HS4.out.z2))) LEN.out ?_;intro v9 w9 ho9 hb9 hg9 hat9;obtain ⟨A9,c9,e9⟩:=Kd.R_slice ho9;subst e9;obtain ⟨q3,p3⟩:=HS4.out.after hg9;have HS9:=zA (HS4.out.set3 ho9 hg9);clear ho9 hb9 hg9 hat9 d3 k3))
         go_meet
         case rel=>exact ⟨⟨x,0⟩,K2+m',false,_,HPth,⟨by have h9:=HS9.out;simp only [List.length_append,List.length_cons,List.length_nil,Nat.zero_add] at h9;exact h9⟩⟩
        have HPth:=zA (show Path s k ⟨x,y⟩ (k+n+bl ((bytesOf s).drop (k+n))+2+m') true from ⟨num_le hk2 h3,(fun z=>by cases z),fun _=>⟨n+(bl ((bytesOf s).drop (k+n))+2)+m',by omega,by unfold oneP;rw [h1];simp only [hd,h2,if_true,hd2,h3],by
         rw [show k+(n+(bl ((bytesOf s).drop (k+n))+2)+m')=k+n+bl ((bytesOf s).drop (k+n))+2+m' by omega]
         exact SameAt.refl (num_le hk2 h3)⟩⟩)
        have HC:=zA (fun (wc:World) (hr:RdTo W g s _ true wc)=>num_end2 (num_at HN0.out hk2 h3 hr) h3)
        generalize k+n+bl ((bytesOf s).drop (k+n))+2=K2 at *
        clear h1 h2 h3 hk hk1 hk2 hx hd hd2 hK
        go_wp2_with (first|(go_at_call 91;(with_reducible refine (HA.out _ HS.out.rd).mono ?_);rintro e W9 ⟨rfl,hr9⟩;have HS2:=zA (HS.out.call hr9);clear hr9;obtain ⟨⟨c0,c1,c2,f1,f2⟩,d0,d1,d2,d3,k1,k2,k3,y0,y1,y2,y3,e0,e1,e2,e3⟩:=HS2.out.cells)|(go_at_call 90;(with_reducible refine (HB.out _ HS2.out.rd.rdr).mono ?_);rintro e W9 ⟨rfl,hr9⟩;have HS3:=zA (HS2.out.call hr9);clear hr9;obtain ⟨⟨c0,c1,c2,f1,f2⟩,d0,d1,d2,d3,k1,k2,k3,y0,y1,y2,y3,e0,e1,e2,e3⟩:=HS3.out.cells)|(go_at_call 91;(with_reducible refine (HC.out _ HS3.out.rd).mono ?_);rintro e W9 ⟨rfl,hr9⟩;have HS4:=zA (HS3.out.call hr9);clear hr9;obtain ⟨⟨c0,c1,c2,f1,f2⟩,d0,d1,d2,d3,k1,k2,k3,y0,y1,y2,y3,e0,e1,e2,e3⟩:=HS4.out.cells)|((with_reducible refine gate_builtin (b:=.append) (xs:=#[.tmp 71,.tmp 75]) rfl ?_);at_builtin;refine Kd.R_append k57 (w0:=_) W.heap.size rfl (.tmp 71) (.tmp 75) 58 57 (.agg #[(.int .i64 0),(.int .i64 0)]) 16 rfl Tryz.underlying58 info57 rfl (by decide) (by omega) _ _ (⟨x,y⟩:Rg) [.int .i64 x,.int .i64 y] (fun k=>k≠g∧k≠W.heap.size∧k≠g3) (fun _=>False) rfl rfl (k57_mkM _ _ _ (⟨x,y⟩:Rg)) (fun _ hk=>hk.elim) HS4.out.fresh HS4.out.row (Below.refl _ _) (Nat.le_trans HS4.out.h2 (Nat.le_of_lt (blk_lt HS4.out.z2))) LEN.out ?_;intro v9 w9 ho9 hb9 hg9 hat9;obtain ⟨A9,c9,e9⟩:=Kd.R_slice ho9;subst e9;obtain ⟨q3,p3⟩:=HS4.out.after hg9;have HS9:=zA (HS4.out.set3 ho9 hg9);clear ho9 hb9 hg9 hat9 d3 k3))
        go_meet
        case rel=>exact ⟨⟨x,y⟩,K2+m',true,_,HPth,⟨by have h9:=HS9.out;simp only [List.length_append,List.length_cons,List.length_nil,Nat.zero_add] at h9;exact h9⟩⟩
       | false=>
        have hK:hasTo ⟨#[46,46]⟩ s (k+n)=k+n+bl ((bytesOf s).drop (k+n)):=by
         rw [hasTo_eq,show bytesOf (⟨#[46,46]⟩:ByteArray)=[46,46] from rfl,h2];rfl
        have HB:=zA (fun (wc:World) (hr:Rdr wc g s (k+n) true)=>has_same ⟨#[46,46]⟩ (SameAt.refl hk1) hr hs h2 hK)
        have hn:=(num_pos' h1).1
        have HPth:=zA (show Path s k ⟨x,x⟩ (k+n+bl ((bytesOf s).drop (k+n))) true from ⟨run_size isBl s _ hk1,(fun z=>by cases z),fun _=>⟨n,hn,by unfold oneP;rw [h1];simp only [hd,h2,Bool.false_eq_true,if_false],SameAt.skip hk1⟩⟩)
        generalize k+n+bl ((bytesOf s).drop (k+n))=K2 at *
        clear h1 h2 hk hk1 hx hd hK hn
        go_wp2_with (first|(go_at_call 91;(with_reducible refine (HA.out _ HS.out.rd).mono ?_);rintro e W9 ⟨rfl,hr9⟩;have HS2:=zA (HS.out.call hr9);clear hr9;obtain ⟨⟨c0,c1,c2,f1,f2⟩,d0,d1,d2,d3,k1,k2,k3,y0,y1,y2,y3,e0,e1,e2,e3⟩:=HS2.out.cells)|(go_at_call 90;(with_reducible refine (HB.out _ HS2.out.rd.rdr).mono ?_);rintro e W9 ⟨rfl,hr9⟩;have HS3:=zA (HS2.out.call hr9);clear hr9;obtain ⟨⟨c0,c1,c2,f1,f2⟩,d0,d1,d2,d3,k1,k2,k3,y0,y1,y2,y3,e0,e1,e2,e3⟩:=HS3.out.cells)|((with_reducible refine gate_builtin (b:=.append) (xs:=#[.tmp 71,.tmp 75]) rfl ?_);at_builtin;refine Kd.R_append k57 (w0:=_) W.heap.size rfl (.tmp 71) (.tmp 75) 58 57 (.agg #[(.int .i64 0),(.int .i64 0)]) 16 rfl Tryz.underlying58 info57 rfl (by decide) (by omega) _ _ (⟨x,x⟩:Rg) [.int .i64 x,.int .i64 x] (fun k=>k≠g∧k≠W.heap.size∧k≠g3) (fun _=>False) rfl rfl (k57_mkM _ _ _ (⟨x,x⟩:Rg)) (fun _ hk=>hk.elim) HS3.out.fresh HS3.out.row (Below.refl _ _) (Nat.le_trans HS3.out.h2 (Nat.le_of_lt (blk_lt HS3.out.z2))) LEN.out ?_;intro v9 w9 ho9 hb9 hg9 hat9;obtain ⟨A9,c9,e9⟩:=Kd.R_slice ho9;subst e9;obtain ⟨q3,p3⟩:=HS3.out.after hg9;have HS9:=zA (HS3.out.set3 ho9 hg9);clear ho9 hb9 hg9 hat9 d3 k3))
        go_meet
        case rel=>exact ⟨⟨x,x⟩,K2,true,_,HPth,⟨by have h9:=HS9.out;simp only [List.length_append,List.length_cons,List.length_nil,Nat.zero_add] at h9;exact h9⟩⟩
      case rest=>
       clear HS
       obtain ⟨r,K,b',v2,HP,HS⟩:=hcut
       obtain ⟨⟨c0,c1,c2,f1,f2⟩,d0,d1,d2,d3,k1,k2,k3,y0,y1,y2,y3,e0,e1,e2,e3⟩:=HS.out.cells
       cases b' with
       | false=>
        have HI:=zA (fun gg':Nat=>LpInv.bad (l':=l ++ [r]) (gg':=gg') HO.out HP.out)
        have hfu:=HO.out.fuel
        have hle:=HO.out.le
        go_wp2
        go_roundg 0
        case measure=>omega
        case rel=>exact ⟨K,false,false,v2,l ++ [r],rfl,HS,⟨HI.out _⟩⟩
       | true=>
        obtain ⟨Z,hZ,hI⟩:=LpInv.next HO.out HP.out
        have HI:=zA hI
        have HB:=zA (fun (wc:World) (hr:Rdr wc g s K true)=>has_same ⟨#[44]⟩ hZ hr hs rfl rfl)
        have hfu:=HO.out.fuel
        have hle:=HO.out.le
        clear hZ hI
        rw [show bytesOf (⟨#[44]⟩:ByteArray)=[44] from rfl] at HB
        generalize signP [44] ((bytesOf s).drop Z)=r44 at *
        generalize hasTo ⟨#[44]⟩ s Z=E9 at *
        go_wp2_with (go_at_call 90;(with_reducible refine (HB.out _ HS.out.rd.rdr).mono ?_);rintro e W9 ⟨rfl,hr9⟩;have HS2:=zA (HS.out.call hr9);clear hr9;obtain ⟨⟨c0,c1,c2,f1,f2⟩,d0,d1,d2,d3,k1,k2,k3,y0,y1,y2,y3,e0,e1,e2,e3⟩:=HS2.out.cells)
        go_roundg (gk - 1)
        case measure=>omega
        case rel=>exact ⟨E9,true,r44,v2,l ++ [r],rfl,HS2,⟨HI.out _ (by omega)⟩⟩
     ·subst hmo hb
      have HR:=zA h1
      have HK:=zA h2
      clear h1 h2 HL
      obtain ⟨Av,cv,ev⟩:=Kd.R_slice HS.out.row
      subst ev
      obtain ⟨⟨c0,c1,c2,f1,f2⟩,d0,d1,d2,d3,k1,k2,k3,y0,y1,y2,y3,e0,e1,e2,e3⟩:=HS.out.cells
      go_wp2
      obtain ⟨z1,z2,z3⟩:=HS.out.done
      exact bodyPost_ret (results_cell_row rfl _ _ _ 60 _ (0,0) _ rfl z2 Tryz.underlying60 rfl (by kernel_rfl)) rfl (rest_bad HNOT.out (by rw [HK0.out];exact HR.out) ⟨⟨_,_,_,_,_,_,rfl⟩,by rw [HK0.out,← HK.out];exact z1⟩)
     subst hmo hb
     have HR:=zA h1
     have HK:=zA h2
     clear h1 h2 HL
     obtain ⟨Av,cv,ev⟩:=Kd.R_slice HS.out.row
     subst ev
     obtain ⟨⟨c0,c1,c2,f1,f2⟩,d0,d1,d2,d3,k1,k2,k3,y0,y1,y2,y3,e0,e1,e2,e3⟩:=HS.out.cells
     go_wp2
     obtain ⟨z1,z2,z3⟩:=HS.out.done
     exact bodyPost_ret (results_cell_row rfl _ _ _ 60 _ (0,0) _ rfl z2 Tryz.underlying60 rfl (by kernel_rfl)) rfl (rest_good HNOT.out (by rw [HK0.out];exact HR.out) ⟨_,rfl,z3,by rw [HK0.out,← HK.out];exact z1⟩)
end
end Go.Proofs.YtgfajgkjbckkgaaGreatDoor.PZ
end
section
noncomputable section
namespace Go.Proofs.YtgfajgkjbckkgaaGreatDoor.PZ
open Go.RowKit Go.Proofs.YtgfajgkjbckkgaaGreatDoorW.PrintWords Go.Proofs.YtgfajgkjbckkgaaGreatDoorW.PrintLast Go.Proofs.YtgfajgkjbckkgaaGreatDoorW.PrintMore
attribute [local go_sem] max2_int min2_int max_two min_two max_three min_three max_four min_four   -- for this text's walks alone
mutual
def exergueref12_Read.l0:Nat→List (S68)→List (S65)→Int→Option ((List (S65))×Int×Int)
 | 0,_,_,_=>none
 | k+1,x0,x5,x6=>if x6<(x0.length:Int) then (if 0≤x6 then (if ((rd_T68 x0 x6).f0)<1 then (exergueref12_Read.j1 k x0 x5 x6 true) else (if ((rd_T68 x0 x6).f0)>5 then (exergueref12_Read.j1 k x0 x5 x6 true) else (if x6>0 then (if 0≤(wrap64 (x6 - 1)) then (if (wrap64 (x6 - 1))<(x0.length:Int) then (exergueref12_Read.j1 k x0 x5 x6 (decide (((rd_T68 x0 x6).f0)≤((rd_T68 x0 (wrap64 (x6 - 1))).f0)))) else (none)) else (none)) else (exergueref12_Read.j1 k x0 x5 x6 false)))) else (none)) else (some (x5,0,0))
def exergueref12_Read.j1:Nat→List (S68)→List (S65)→Int→Bool→Option ((List (S65))×Int×Int)
 | 0,_,_,_,_=>none
 | k+1,x0,x5,x6,x48=>if x48=true then (some (([]:List (S65)),x6,1)) else (if 0≤x6 then (if x6<(x0.length:Int) then ((exergueref11_Parse.f k ((rd_T68 x0 x6).f1)).bind fun aQ=>((exergueref11_Right.f k aQ.1).bind fun aN=>(if aQ.2.2=0 then (if aN=true then (if x5.length<4398046511104 then (exergueref12_Read.l0 k x0 (x5 ++ [(⟨(rd_T68 x0 x6).f0,aQ.1⟩:S65)]) (wrap64 (x6+1))) else (none)) else (some (([]:List (S65)),x6,2))) else (some (([]:List (S65)),x6,2))))) else (none)) else (none))
end
def exergueref12_Read.f (k:Nat)(l0:List (S68)):Option ((List (S65))×Int×Int):=exergueref12_Read.l0 k l0 ([]:List (S65)) 0
theorem exergueref12_Read.mono_l:∀ k,(∀ y0 y1 y2,LeO (exergueref12_Read.l0 k y0 y1 y2) (exergueref12_Read.l0 (k+1) y0 y1 y2))∧(∀ y0 y1 y2 y3,LeO (exergueref12_Read.j1 k y0 y1 y2 y3) (exergueref12_Read.j1 (k+1) y0 y1 y2 y3))
 | 0=>⟨fun _ _ _ r h=>by simp [exergueref12_Read.l0] at h,fun _ _ _ _ r h=>by simp [exergueref12_Read.j1] at h⟩
 | k+1=>by
  obtain ⟨ih0,ih1⟩:=exergueref12_Read.mono_l k
  refine ⟨?_,?_⟩
  ·intro y0 y1 y2
   unfold exergueref12_Read.l0
   repeat' first|(with_reducible first|apply ih0|apply ih1|apply exergueref11_Parse.mono|apply exergueref11_Right.mono|apply LeO.refl|apply LeO.none|refine LeO.ite ?_ ?_|refine LeO.bind ?_ (fun _=>?_))|apply ih0|apply ih1|apply exergueref11_Parse.mono|apply exergueref11_Right.mono|apply LeO.none
  ·intro y0 y1 y2 y3
   unfold exergueref12_Read.j1
   repeat' first|(with_reducible first|apply ih0|apply ih1|apply exergueref11_Parse.mono|apply exergueref11_Right.mono|apply LeO.refl|apply LeO.none|refine LeO.ite ?_ ?_|refine LeO.bind ?_ (fun _=>?_))|apply ih0|apply ih1|apply exergueref11_Parse.mono|apply exergueref11_Right.mono|apply LeO.none
theorem exergueref12_Read.mono:∀ a0 k,LeO (exergueref12_Read.f k a0) (exergueref12_Read.f (k+1) a0):=by
 intro a0 k
 obtain ⟨ih0,ih1⟩:=exergueref12_Read.mono_l k
 unfold exergueref12_Read.f
 repeat' first|(with_reducible first|apply ih0|apply ih1|apply exergueref11_Parse.mono|apply exergueref11_Right.mono|apply LeO.refl|apply LeO.none|refine LeO.ite ?_ ?_|refine LeO.bind ?_ (fun _=>?_))|apply ih0|apply ih1|apply exergueref11_Parse.mono|apply exergueref11_Right.mono|apply LeO.none
set_option maxHeartbeats 8000000 in
set_option maxRecDepth 100000 in
theorem exergueref12_Read.calls (k:Nat)(A0:Option Addr)(c0:Nat)(l0:List (S68))(r1:List (S65))(r2:Int)(r3:Int)(w:World)(hr0:Kd.C k68 w A0 l0.length l0)(hc0:l0.length≤c0)(h:exergueref12_Read.f k l0=some (r1,r2,r3)) :
  Calls Tryz.prog 42 #[.slice A0 l0.length c0] w fun e w'=>∃ v0_:Value,e = .returned (.tuple #[v0_,.int .i64 r2,.int .i64 r3])∧Kd.R k65 65 w' w.heap.size (fun _=>True) v0_ r1∧Below w.heap.size w w':=by
 have hu65:=Tryz.underlying65
 have HR0:=zS hr0
 have HC0:=zS hc0
 clear hr0 hc0
 have HB:=zS (Below.refl w.heap.size w)
 have H:(exergueref12_Read.l0 k l0 ([]:List (S65)) 0)=some (r1,r2,r3):=h
 clear h
 have H':=zS H
 clear H
 go_enter Tryz.func42,Tryz.ntmps42
 go_wp2
 repeat (go_quiet (fail);try go_wp2)
 go_loopg [5,6] k (fun kq v5 v6 w'=>∃ (ax:List (S65)) (ab:Int),v6 = .int .i64 ab∧Sd (exergueref12_Read.l0 kq l0 ax ab=some (r1,r2,r3))∧Sd (kq≤k)∧Sd (Kd.R k65 65 w' w.heap.size (fun _=>True) v5 ax)∧Sd (Below w.heap.size w w'))
 case atStart=>exact ⟨(([]:List (S65))),(0),(by first|rfl|(simp;done)|(simp [*];done)),H',⟨Nat.le_refl _⟩,⟨by first|exact Kd.R_nil _ _ _ _ _|exact Kd.N_nil _ _ _ _ _|exact Kd.V_nil _ _ _ _ _|exact Kd.Q_nil _ _ _ _ _|exact Kd.S_nil _ _ _ _ _⟩,⟨bQ HB⟩⟩
 case round=>
  clear H'
  obtain ⟨ax,ab,rfl,HA,HK1,HO_5,HB⟩:=hrel
  cases gk with
  | zero=>exact absurd HA.out (by simp [exergueref12_Read.l0])
  | succ k1=>
   have H:=HA.out
   clear HA
   simp only [exergueref12_Read.l0] at H
   by_cases c2:ab<(l0.length:Int)
   rotate_left
   ·rw [if_neg c2] at H
    have a9:=zD c2
    clear c2
    simp only [Option.some.injEq,Prod.mk.injEq] at H
    obtain ⟨rfl,rfl,rfl⟩:=H
    go_wp2
    repeat (go_quiet (fail);try go_wp2)
    go_ret3
    exact ⟨_,by first|rfl|(simp <;> rfl)|(simp [*] <;> rfl),by (with_reducible repeat (first|apply Kd.R_alloc|apply Kd.R_drewN|apply Kd.R_drew));exact HO_5.out,bQ HB⟩
   rw [if_pos c2] at H
   have a9:=zC c2
   clear c2
   have HC3:=zS H
   clear H
   go_upto_region 5 with (fail)
   repeat (go_quiet (fail);go_upto_region 5 with (fail))
   go_cut [48] (fun v48 wc=>∃ (kq:Nat) (aM:Bool),v48 = .bool aM∧Sd (exergueref12_Read.j1 kq l0 ax ab aM=some (r1,r2,r3))∧Sd (kq≤k1)∧Sd (Kd.R k65 65 wc w.heap.size (fun _=>True) u5 ax)∧Sd (Below w.heap.size w wc))
   case first=>
    have H:=HC3.out
    clear HC3
    by_cases c4:0≤ab
    rotate_left
    ·rw [if_neg c4] at H
     exact absurd H (by simp)
    rw [if_pos c4] at H
    have a8:=zC c4
    clear c4
    (first|rw [a8]|(simp only [i64_w,i32_w];rw [a8])|rw [bC]|skip)
    by_cases c5:((rd_T68 l0 ab).f0)<1
    ·rw [if_pos c5] at H
     have ba:=zC c5
     clear c5
     have H':=zS H
     clear H
     have al:0≤(ab:Int):=zB (by first|(with_reducible assumption)|assumption)
     have am:ab<(l0.length:Int):=zB (by first|(with_reducible assumption)|assumption)
     obtain ⟨ao,aK,ac,ad⟩:=at_T68 HR0.out ab al am
     cases aK
     replace ac:=(HB.out.cell (World.block_lt_of_cell? w _ ac)).trans ac
     replace ad:=(HB.out.cell (World.block_lt_of_cell? w _ ad)).trans ad
     replace al:=eq_true al
     replace am:=eq_true am
     go_wp2
     repeat (go_quiet (fail);try go_wp2)
     go_meet
     case rel=>exact ⟨_,(true),(by first|rfl|(simp;done)|(simp [*];done)),H',⟨by have:=HK1.out;first|omega|exact Nat.le_refl _⟩,⟨ro HO_5⟩,⟨bQ HB⟩⟩
    rw [if_neg c5] at H
    have ba:=zD c5
    clear c5
    by_cases c6:((rd_T68 l0 ab).f0)>5
    ·rw [if_pos c6] at H
     have bb:decide (5<((rd_T68 l0 ab).f0))=true:=zC c6
     clear c6
     have H':=zS H
     clear H
     have al:0≤(ab:Int):=zB (by first|(with_reducible assumption)|assumption)
     have am:ab<(l0.length:Int):=zB (by first|(with_reducible assumption)|assumption)
     obtain ⟨ao,aK,ac,ad⟩:=at_T68 HR0.out ab al am
     cases aK
     replace ac:=(HB.out.cell (World.block_lt_of_cell? w _ ac)).trans ac
     replace ad:=(HB.out.cell (World.block_lt_of_cell? w _ ad)).trans ad
     replace al:=eq_true al
     replace am:=eq_true am
     have ap:0≤(ab:Int):=zB (by first|(with_reducible assumption)|assumption)
     have aq:ab<(l0.length:Int):=zB (by first|(with_reducible assumption)|assumption)
     obtain ⟨aE,aR,ae,af⟩:=at_T68 HR0.out ab ap aq
     obtain rfl:ao=aE:=(by injection aR)
     replace ae:=(HB.out.cell (World.block_lt_of_cell? w _ ae)).trans ae
     replace af:=(HB.out.cell (World.block_lt_of_cell? w _ af)).trans af
     replace ap:=eq_true ap
     replace aq:=eq_true aq
     go_wp2
     repeat (go_quiet (fail);try go_wp2)
     go_meet
     case rel=>exact ⟨_,(true),(by first|rfl|(simp;done)|(simp [*];done)),H',⟨by have:=HK1.out;first|omega|exact Nat.le_refl _⟩,⟨ro HO_5⟩,⟨bQ HB⟩⟩
    rw [if_neg c6] at H
    have bb:decide (5<((rd_T68 l0 ab).f0))=false:=zD c6
    clear c6
    by_cases c7:ab>0
    rotate_left
    ·rw [if_neg c7] at H
     have bc:decide (0<ab)=false:=zD c7
     clear c7
     have H':=zS H
     clear H
     have al:0≤(ab:Int):=zB (by first|(with_reducible assumption)|assumption)
     have am:ab<(l0.length:Int):=zB (by first|(with_reducible assumption)|assumption)
     obtain ⟨ao,aK,ac,ad⟩:=at_T68 HR0.out ab al am
     cases aK
     replace ac:=(HB.out.cell (World.block_lt_of_cell? w _ ac)).trans ac
     replace ad:=(HB.out.cell (World.block_lt_of_cell? w _ ad)).trans ad
     replace al:=eq_true al
     replace am:=eq_true am
     have ap:0≤(ab:Int):=zB (by first|(with_reducible assumption)|assumption)
     have aq:ab<(l0.length:Int):=zB (by first|(with_reducible assumption)|assumption)
     obtain ⟨aE,aR,ae,af⟩:=at_T68 HR0.out ab ap aq
     obtain rfl:ao=aE:=(by injection aR)
     replace ae:=(HB.out.cell (World.block_lt_of_cell? w _ ae)).trans ae
     replace af:=(HB.out.cell (World.block_lt_of_cell? w _ af)).trans af
     replace ap:=eq_true ap
     replace aq:=eq_true aq
     go_wp2
     repeat (go_quiet (fail);try go_wp2)
     go_meet
     case rel=>exact ⟨_,(false),(by first|rfl|(simp;done)|(simp [*];done)),H',⟨by have:=HK1.out;first|omega|exact Nat.le_refl _⟩,⟨ro HO_5⟩,⟨bQ HB⟩⟩
    rw [if_pos c7] at H
    have bc:decide (0<ab)=true:=zC c7
    clear c7
    obtain ⟨ji8,a3⟩:∃ j_:Int,(wrap64 (ab - 1))=j_:=⟨_,rfl⟩
    replace H:(if 0≤(ji8) then (if (ji8)<(l0.length:Int) then (exergueref12_Read.j1 k1 l0 ax ab (decide (((rd_T68 l0 ab).f0)≤((rd_T68 l0 (ji8)).f0)))) else (none)) else (none))=some (r1,r2,r3):=by first|(rw [a3] at H;exact H)|(simp only [a3] at H ⊢;exact H)
    have bx:(IntKind.i64.wrap (ab - 1))=ji8:=(i64_w _).trans a3
    by_cases c9:0≤(ji8)
    rotate_left
    ·rw [if_neg c9] at H
     exact absurd H (by simp)
    rw [if_pos c9] at H
    have bu:=zC c9
    clear c9
    by_cases c10:(ji8)<(l0.length:Int)
    rotate_left
    ·rw [if_neg c10] at H
     exact absurd H (by simp)
    rw [if_pos c10] at H
    have bd:=zC c10
    clear c10
    have H':=zS H
    clear H
    have al:0≤(ab:Int):=zB (by first|(with_reducible assumption)|assumption)
    have am:ab<(l0.length:Int):=zB (by first|(with_reducible assumption)|assumption)
    obtain ⟨ao,aK,ac,ad⟩:=at_T68 HR0.out ab al am
    cases aK
    replace ac:=(HB.out.cell (World.block_lt_of_cell? w _ ac)).trans ac
    replace ad:=(HB.out.cell (World.block_lt_of_cell? w _ ad)).trans ad
    replace al:=eq_true al
    replace am:=eq_true am
    have ap:0≤(ab:Int):=zB (by first|(with_reducible assumption)|assumption)
    have aq:ab<(l0.length:Int):=zB (by first|(with_reducible assumption)|assumption)
    obtain ⟨aE,aR,ae,af⟩:=at_T68 HR0.out ab ap aq
    obtain rfl:ao=aE:=(by injection aR)
    replace ae:=(HB.out.cell (World.block_lt_of_cell? w _ ae)).trans ae
    replace af:=(HB.out.cell (World.block_lt_of_cell? w _ af)).trans af
    replace ap:=eq_true ap
    replace aq:=eq_true aq
    have a4:0≤(ab:Int):=zB (by first|(with_reducible assumption)|assumption)
    have a5:ab<(l0.length:Int):=zB (by first|(with_reducible assumption)|assumption)
    obtain ⟨be,bv,ar,au⟩:=at_T68 HR0.out ab a4 a5
    obtain rfl:ao=be:=(by injection bv)
    replace ar:=(HB.out.cell (World.block_lt_of_cell? w _ ar)).trans ar
    replace au:=(HB.out.cell (World.block_lt_of_cell? w _ au)).trans au
    replace a4:=eq_true a4
    replace a5:=eq_true a5
    have a6:0≤((ji8):Int):=zB (by first|(with_reducible assumption)|assumption)
    have a7:(ji8)<(l0.length:Int):=zB (by first|(with_reducible assumption)|assumption)
    obtain ⟨bf,bw,av,aw⟩:=at_T68 HR0.out (ji8) a6 a7
    obtain rfl:ao=bf:=(by injection bw)
    replace av:=(HB.out.cell (World.block_lt_of_cell? w _ av)).trans av
    replace aw:=(HB.out.cell (World.block_lt_of_cell? w _ aw)).trans aw
    replace a6:=eq_true a6
    replace a7:=eq_true a7
    go_wp2
    repeat (go_quiet (fail);try go_wp2)
    go_meet
    case rel=>exact ⟨_,(decide (((rd_T68 l0 ab).f0)≤((rd_T68 l0 (ji8)).f0))),(by first|rfl|(simp;done)|(simp only [← a3] <;> (first|rfl|simp))|(simp [*];done)),H',⟨by have:=HK1.out;first|omega|exact Nat.le_refl _⟩,⟨ro HO_5⟩,⟨bQ HB⟩⟩
   case rest=>
    clear HC3
    try clear c1
    try clear c2
    try clear a9
    try clear p2
    try clear c4
    try clear a8
    try clear c5
    try clear ba
    try clear p5
    try clear q5
    try clear hx5
    try clear c6
    try clear bb
    try clear p6
    try clear c7
    try clear bc
    try clear c9
    try clear bu
    try clear c10
    try clear bd
    try clear ac
    try clear ad
    try clear ae
    try clear af
    try clear ar
    try clear au
    try clear av
    try clear aw
    try clear al
    try clear ap
    try clear a4
    try clear a6
    try clear am
    try clear aq
    try clear a5
    try clear a7
    obtain ⟨kq,aM,rfl,HA,HJ2,HO_5,HB⟩:=hcut
    cases kq with
    | zero=>exact absurd HA.out (by simp [exergueref12_Read.j1])
    | succ kj2=>
     have H:=HA.out
     clear HA
     simp only [exergueref12_Read.j1] at H
     by_cases c11:aM=true
     ·subst c11
      rw [if_pos rfl] at H
      simp only [Option.some.injEq,Prod.mk.injEq] at H
      obtain ⟨rfl,rfl,rfl⟩:=H
      go_wp2
      repeat (go_quiet (fail);try go_wp2)
      go_ret3
      exact ⟨_,by first|rfl|(simp <;> rfl)|(simp [*] <;> rfl),by first|exact Kd.R_nil _ _ _ _ _|exact Kd.N_nil _ _ _ _ _|exact Kd.V_nil _ _ _ _ _|exact Kd.Q_nil _ _ _ _ _|exact Kd.S_nil _ _ _ _ _,bQ HB⟩
     replace c11:=Bool.eq_false_iff.mpr c11
     subst c11
     rw [if_neg (show ¬ (false=true) by decide)] at H
     by_cases c12:0≤ab
     rotate_left
     ·rw [if_neg c12] at H
      exact absurd H (by simp)
     rw [if_pos c12] at H
     have bA:=zC c12
     clear c12
     by_cases c13:ab<(l0.length:Int)
     rotate_left
     ·rw [if_neg c13] at H
      exact absurd H (by simp)
     rw [if_pos c13] at H
     have bB:=zC c13
     clear c13
     replace H:=Option.bind_eq_some_iff.mp H
     obtain ⟨⟨ak,aD,an⟩,bh,H⟩:=H
     try dsimp only at H
     have A14:=zS bh
     clear bh
     replace H:=Option.bind_eq_some_iff.mp H
     obtain ⟨aN,bi,H⟩:=H
     try dsimp only at H
     have A15:=zS bi
     clear bi
     by_cases c16:an=0
     rotate_left
     ·rw [if_neg c16] at H
      have bj:(an == 0)=false:=zF c16
      have bk:(an != 0)=true:=zI c16
      simp only [Option.some.injEq,Prod.mk.injEq] at H
      obtain ⟨rfl,rfl,rfl⟩:=H
      have ay:0≤(ab:Int):=zB (by first|(with_reducible assumption)|assumption)
      have az:ab<(l0.length:Int):=zB (by first|(with_reducible assumption)|assumption)
      obtain ⟨aG,aT,ag,ah⟩:=at_T68 HR0.out ab ay az
      cases aT
      replace ag:=(HB.out.cell (World.block_lt_of_cell? w _ ag)).trans ag
      replace ah:=(HB.out.cell (World.block_lt_of_cell? w _ ah)).trans ah
      replace ay:=eq_true ay
      replace az:=eq_true az
      go_wp2_with (first|(go_at_call 51;(with_reducible refine (exergueref11_Parse.calls kj2 ((rd_T68 l0 ab).f1) ak aD an _ A14.out).mono ?_);rintro e w26 ⟨aH,rfl,ho0,hb⟩;replace HO_5:=zS (Kd.R_elder' (ro HO_5) (Kd.R_base ho0) hb);have aa:=zS (Kd.R_lower ho0 (bz HB));replace HB:=bs HB hb;(try clear hb);(try clear ho0);obtain ⟨bm,bn,aU⟩:=Kd.R_slice aa.out;subst aU)|(go_at_call 31;(with_reducible refine (exergueref11_Right.calls kj2 _ _ ak aN _ (rc aa) (rl aa) A15.out).mono ?_);rintro e w28 ⟨rfl,hb⟩;replace HO_5:=rb HO_5 hb;replace aa:=rb aa hb;replace HB:=bs HB hb;(try clear hb);(try clear hb2);(try clear hk);(try clear hi)))
      repeat (go_quiet (first|(go_at_call 51;(with_reducible refine (exergueref11_Parse.calls kj2 ((rd_T68 l0 ab).f1) ak aD an _ A14.out).mono ?_);rintro e w26 ⟨aH,rfl,ho0,hb⟩;replace HO_5:=zS (Kd.R_elder' (ro HO_5) (Kd.R_base ho0) hb);have aa:=zS (Kd.R_lower ho0 (bz HB));replace HB:=bs HB hb;(try clear hb);(try clear hb2);(try clear hk);(try clear hi);(try clear ho0);obtain ⟨bm,bn,aU⟩:=Kd.R_slice aa.out;subst aU)|(go_at_call 31;(with_reducible refine (exergueref11_Right.calls kj2 _ _ ak aN _ (rc aa) (rl aa) A15.out).mono ?_);rintro e w28 ⟨rfl,hb⟩;replace HO_5:=rb HO_5 hb;replace aa:=rb aa hb;replace HB:=bs HB hb;(try clear hb);(try clear hb2);(try clear hk);(try clear hi)));try go_wp2_with (first|(go_at_call 51;(with_reducible refine (exergueref11_Parse.calls kj2 ((rd_T68 l0 ab).f1) ak aD an _ A14.out).mono ?_);rintro e w26 ⟨aH,rfl,ho0,hb⟩;replace HO_5:=zS (Kd.R_elder' (ro HO_5) (Kd.R_base ho0) hb);have aa:=zS (Kd.R_lower ho0 (bz HB));replace HB:=bs HB hb;(try clear hb);(try clear hb2);(try clear hk);(try clear hi);(try clear ho0);obtain ⟨bm,bn,aU⟩:=Kd.R_slice aa.out;subst aU)|(go_at_call 31;(with_reducible refine (exergueref11_Right.calls kj2 _ _ ak aN _ (rc aa) (rl aa) A15.out).mono ?_);rintro e w28 ⟨rfl,hb⟩;replace HO_5:=rb HO_5 hb;replace aa:=rb aa hb;replace HB:=bs HB hb;(try clear hb);(try clear hb2);(try clear hk);(try clear hi))))
      go_ret3
      exact ⟨_,by first|rfl|(simp <;> rfl)|(simp [*] <;> rfl),by first|exact Kd.R_nil _ _ _ _ _|exact Kd.N_nil _ _ _ _ _|exact Kd.V_nil _ _ _ _ _|exact Kd.Q_nil _ _ _ _ _|exact Kd.S_nil _ _ _ _ _,bQ HB⟩
     rw [if_pos c16] at H
     have bj:(an == 0)=true:=zH c16
     have bk:(an != 0)=false:=zG c16
     clear c16
     by_cases c17:aN=true
     ·subst c17
      rw [if_pos rfl] at H
      by_cases c18:ax.length<4398046511104
      rotate_left
      ·rw [if_neg c18] at H
       exact absurd H (by simp)
      rw [if_pos c18] at H
      have LMc18:=zS c18
      clear c18
      obtain ⟨bo,aI⟩:∃ y_:List (S65),y_=(ax ++ [(⟨(rd_T68 l0 ab).f0,ak⟩:S65)]):=⟨_,rfl⟩
      replace H:(exergueref12_Read.l0 kj2 l0 bo (wrap64 (ab+1)))=some (r1,r2,r3):=by first|(rw [aI];with_reducible exact H)|(have H2_:=(Option.bind_some _ _).symm.trans H;rw [aI];with_reducible exact H2_)|(have H2_:=(Option.bind_some _ _).symm.trans H;with_reducible exact H2_)|with_reducible exact H|(rw [aI];exact H)|exact H
      have aV:=zS aI
      clear aI
      have H':=zS H
      clear H
      have ay:0≤(ab:Int):=zB (by first|(with_reducible assumption)|assumption)
      have az:ab<(l0.length:Int):=zB (by first|(with_reducible assumption)|assumption)
      obtain ⟨aG,aT,ag,ah⟩:=at_T68 HR0.out ab ay az
      cases aT
      replace ag:=(HB.out.cell (World.block_lt_of_cell? w _ ag)).trans ag
      replace ah:=(HB.out.cell (World.block_lt_of_cell? w _ ah)).trans ah
      replace ay:=eq_true ay
      replace az:=eq_true az
      go_wp2_with (first|(go_at_call 51;(with_reducible refine (exergueref11_Parse.calls kj2 ((rd_T68 l0 ab).f1) ak aD an _ A14.out).mono ?_);rintro e w19 ⟨aH,rfl,ho0,hb⟩;replace HO_5:=zS (Kd.R_elder' (ro HO_5) (Kd.R_base ho0) hb);have aa:=zS (Kd.R_lower ho0 (bz HB));replace HB:=bs HB hb;(try clear hb);(try clear ho0);obtain ⟨aW,aX,aY⟩:=Kd.R_slice aa.out;subst aY)|(go_at_call 31;(with_reducible refine (exergueref11_Right.calls kj2 _ _ ak true _ (rc aa) (rl aa) A15.out).mono ?_);rintro e w21 ⟨rfl,hb⟩;replace HO_5:=rb HO_5 hb;replace aa:=rb aa hb;replace HB:=bs HB hb;(try clear hb);(try clear hb2);(try clear hk);(try clear hi);have aA:0≤(ab:Int):=zB (by first|(with_reducible assumption)|assumption);have aC:ab<(l0.length:Int):=zB (by first|(with_reducible assumption)|assumption);obtain ⟨aJ,aZ,ai,aj⟩:=at_T68 HR0.out ab aA aC;obtain rfl:aG=aJ:=(by injection aZ);replace ai:=(HB.out.cell (World.block_lt_of_cell? w _ ai)).trans ai;replace aj:=(HB.out.cell (World.block_lt_of_cell? w _ aj)).trans aj;replace aA:=eq_true aA;replace aC:=eq_true aC)|((with_reducible refine gate_builtin (b:=.append) (xs:=#[.tmp 69,.tmp 77]) rfl ?_);at_builtin;refine Kd.R_append k65 (w0:=w) w.heap.size rfl (.tmp 69) (.tmp 77) 28 65 (.agg #[(.int .i64 0),(.slice none 0 0)]) 32 rfl Tryz.underlying28 info65 rfl (by decide) (by omega) u5 ax (⟨(rd_T68 l0 ab).f0,ak⟩:S65) [.int .i64 ((rd_T68 l0 ab).f0),.slice aW ak.length aX] (fun _=>True) (fun k_=>((fun _=>True)) k_∧some k_≠(u5:Value).ownBlock) rfl rfl ?aP (fun _ hk=>hk) ?aF ?aO ?aB ?aS ?aL ?_;(case aP=>exact k65_mkM _ _ _ (⟨(rd_T68 l0 ab).f0,ak⟩:S65) (Kd.R_mono (Kd.R_apart' (aa.out) (Kd.R_typed HO_5.out) (by decide)) (fun k_ hk=>⟨trivial,hk.2⟩)));(case aB=>exact (bQ HB));(case aF=>exact (fun _ _=>trivial));(case aO=>exact (by (with_reducible repeat (first|apply Kd.R_alloc|apply Kd.R_drewN|apply Kd.R_drew));exact Kd.R_mono HO_5.out (fun _ hk=>trivial)));(case aS=>exact (bz HB));(case aL=>have:=LMc18.out;omega);intro bp w22 ho hb hg hat;rw [← aV.out] at ho;replace HB:=zS (hb);have a1:=zS (ho);clear HO_5 aa;clear ho hb hg hat))
      repeat (go_quiet (first|(go_at_call 51;(with_reducible refine (exergueref11_Parse.calls kj2 ((rd_T68 l0 ab).f1) ak aD an _ A14.out).mono ?_);rintro e w19 ⟨aH,rfl,ho0,hb⟩;replace HO_5:=zS (Kd.R_elder' (ro HO_5) (Kd.R_base ho0) hb);have aa:=zS (Kd.R_lower ho0 (bz HB));replace HB:=bs HB hb;(try clear hb);(try clear hk);(try clear ho0);obtain ⟨aW,aX,aY⟩:=Kd.R_slice aa.out;subst aY)|(go_at_call 31;(with_reducible refine (exergueref11_Right.calls kj2 _ _ ak true _ (rc aa) (rl aa) A15.out).mono ?_);rintro e w21 ⟨rfl,hb⟩;replace HO_5:=rb HO_5 hb;replace aa:=rb aa hb;replace HB:=bs HB hb;(try clear hb);(try clear hb2);(try clear hk);(try clear hi);have aA:0≤(ab:Int):=zB (by first|(with_reducible assumption)|assumption);have aC:ab<(l0.length:Int):=zB (by first|(with_reducible assumption)|assumption);obtain ⟨aJ,aZ,ai,aj⟩:=at_T68 HR0.out ab aA aC;obtain rfl:aG=aJ:=(by injection aZ);replace ai:=(HB.out.cell (World.block_lt_of_cell? w _ ai)).trans ai;replace aj:=(HB.out.cell (World.block_lt_of_cell? w _ aj)).trans aj;replace aA:=eq_true aA;replace aC:=eq_true aC)|((with_reducible refine gate_builtin (b:=.append) (xs:=#[.tmp 69,.tmp 77]) rfl ?_);at_builtin;refine Kd.R_append k65 (w0:=w) w.heap.size rfl (.tmp 69) (.tmp 77) 28 65 (.agg #[(.int .i64 0),(.slice none 0 0)]) 32 rfl Tryz.underlying28 info65 rfl (by decide) (by omega) u5 ax (⟨(rd_T68 l0 ab).f0,ak⟩:S65) [.int .i64 ((rd_T68 l0 ab).f0),.slice aW ak.length aX] (fun _=>True) (fun k_=>((fun _=>True)) k_∧some k_≠(u5:Value).ownBlock) rfl rfl ?aP (fun _ hk=>hk) ?aF ?aO ?aB ?aS ?aL ?_;(case aP=>exact k65_mkM _ _ _ (⟨(rd_T68 l0 ab).f0,ak⟩:S65) (Kd.R_mono (Kd.R_apart' (aa.out) (Kd.R_typed HO_5.out) (by decide)) (fun k_ hk=>⟨trivial,hk.2⟩)));(case aB=>exact (bQ HB));(case aF=>exact (fun _ _=>trivial));(case aO=>exact (by (with_reducible repeat (first|apply Kd.R_alloc|apply Kd.R_drewN|apply Kd.R_drew));exact Kd.R_mono HO_5.out (fun _ hk=>trivial)));(case aS=>exact (bz HB));(case aL=>have:=LMc18.out;omega);intro bp w22 ho hb hg hat;rw [← aV.out] at ho;replace HB:=zS (hb);have a1:=zS (ho);clear HO_5 aa;clear ho hb hg hat));try go_wp2_with (first|(go_at_call 51;(with_reducible refine (exergueref11_Parse.calls kj2 ((rd_T68 l0 ab).f1) ak aD an _ A14.out).mono ?_);rintro e w19 ⟨aH,rfl,ho0,hb⟩;replace HO_5:=zS (Kd.R_elder' (ro HO_5) (Kd.R_base ho0) hb);have aa:=zS (Kd.R_lower ho0 (bz HB));replace HB:=bs HB hb;(try clear hb);(try clear hk);(try clear ho0);obtain ⟨aW,aX,aY⟩:=Kd.R_slice aa.out;subst aY)|(go_at_call 31;(with_reducible refine (exergueref11_Right.calls kj2 _ _ ak true _ (rc aa) (rl aa) A15.out).mono ?_);rintro e w21 ⟨rfl,hb⟩;replace HO_5:=rb HO_5 hb;replace aa:=rb aa hb;replace HB:=bs HB hb;(try clear hb);(try clear hb2);(try clear hk);(try clear hi);have aA:0≤(ab:Int):=zB (by first|(with_reducible assumption)|assumption);have aC:ab<(l0.length:Int):=zB (by first|(with_reducible assumption)|assumption);obtain ⟨aJ,aZ,ai,aj⟩:=at_T68 HR0.out ab aA aC;obtain rfl:aG=aJ:=(by injection aZ);replace ai:=(HB.out.cell (World.block_lt_of_cell? w _ ai)).trans ai;replace aj:=(HB.out.cell (World.block_lt_of_cell? w _ aj)).trans aj;replace aA:=eq_true aA;replace aC:=eq_true aC)|((with_reducible refine gate_builtin (b:=.append) (xs:=#[.tmp 69,.tmp 77]) rfl ?_);at_builtin;refine Kd.R_append k65 (w0:=w) w.heap.size rfl (.tmp 69) (.tmp 77) 28 65 (.agg #[(.int .i64 0),(.slice none 0 0)]) 32 rfl Tryz.underlying28 info65 rfl (by decide) (by omega) u5 ax (⟨(rd_T68 l0 ab).f0,ak⟩:S65) [.int .i64 ((rd_T68 l0 ab).f0),.slice aW ak.length aX] (fun _=>True) (fun k_=>((fun _=>True)) k_∧some k_≠(u5:Value).ownBlock) rfl rfl ?aP (fun _ hk=>hk) ?aF ?aO ?aB ?aS ?aL ?_;(case aP=>exact k65_mkM _ _ _ (⟨(rd_T68 l0 ab).f0,ak⟩:S65) (Kd.R_mono (Kd.R_apart' (aa.out) (Kd.R_typed HO_5.out) (by decide)) (fun k_ hk=>⟨trivial,hk.2⟩)));(case aB=>exact (bQ HB));(case aF=>exact (fun _ _=>trivial));(case aO=>exact (by (with_reducible repeat (first|apply Kd.R_alloc|apply Kd.R_drewN|apply Kd.R_drew));exact Kd.R_mono HO_5.out (fun _ hk=>trivial)));(case aS=>exact (bz HB));(case aL=>have:=LMc18.out;omega);intro bp w22 ho hb hg hat;rw [← aV.out] at ho;replace HB:=zS (hb);have a1:=zS (ho);clear HO_5 aa;clear ho hb hg hat)))
      go_roundg kj2
      case measure=>have:=HK1.out;have:=HJ2.out;omega
      case rel=>exact ⟨(bo),(wrap64 (ab+1)),(by first|rfl|(simp;done)|(simp [*];done)),H',⟨by have:=HK1.out;have:=HJ2.out;omega⟩,⟨ro a1⟩,⟨bQ HB⟩⟩
     replace c17:=Bool.eq_false_iff.mpr c17
     subst c17
     rw [if_neg (show ¬ (false=true) by decide)] at H
     simp only [Option.some.injEq,Prod.mk.injEq] at H
     obtain ⟨rfl,rfl,rfl⟩:=H
     have ay:0≤(ab:Int):=zB (by first|(with_reducible assumption)|assumption)
     have az:ab<(l0.length:Int):=zB (by first|(with_reducible assumption)|assumption)
     obtain ⟨aG,aT,ag,ah⟩:=at_T68 HR0.out ab ay az
     cases aT
     replace ag:=(HB.out.cell (World.block_lt_of_cell? w _ ag)).trans ag
     replace ah:=(HB.out.cell (World.block_lt_of_cell? w _ ah)).trans ah
     replace ay:=eq_true ay
     replace az:=eq_true az
     go_wp2_with (first|(go_at_call 51;(with_reducible refine (exergueref11_Parse.calls kj2 ((rd_T68 l0 ab).f1) ak aD an _ A14.out).mono ?_);rintro e w23 ⟨aH,rfl,ho0,hb⟩;replace HO_5:=zS (Kd.R_elder' (ro HO_5) (Kd.R_base ho0) hb);have aa:=zS (Kd.R_lower ho0 (bz HB));replace HB:=bs HB hb;(try clear hb);(try clear ho0);obtain ⟨bq,br,a2⟩:=Kd.R_slice aa.out;subst a2)|(go_at_call 31;(with_reducible refine (exergueref11_Right.calls kj2 _ _ ak false _ (rc aa) (rl aa) A15.out).mono ?_);rintro e w25 ⟨rfl,hb⟩;replace HO_5:=rb HO_5 hb;replace aa:=rb aa hb;replace HB:=bs HB hb;(try clear hb);(try clear hb2);(try clear hk);(try clear hi)))
     repeat (go_quiet (first|(go_at_call 51;(with_reducible refine (exergueref11_Parse.calls kj2 ((rd_T68 l0 ab).f1) ak aD an _ A14.out).mono ?_);rintro e w23 ⟨aH,rfl,ho0,hb⟩;replace HO_5:=zS (Kd.R_elder' (ro HO_5) (Kd.R_base ho0) hb);have aa:=zS (Kd.R_lower ho0 (bz HB));replace HB:=bs HB hb;(try clear hb);(try clear hb2);(try clear hk);(try clear hi);(try clear ho0);obtain ⟨bq,br,a2⟩:=Kd.R_slice aa.out;subst a2)|(go_at_call 31;(with_reducible refine (exergueref11_Right.calls kj2 _ _ ak false _ (rc aa) (rl aa) A15.out).mono ?_);rintro e w25 ⟨rfl,hb⟩;replace HO_5:=rb HO_5 hb;replace aa:=rb aa hb;replace HB:=bs HB hb;(try clear hb);(try clear hb2);(try clear hk);(try clear hi)));try go_wp2_with (first|(go_at_call 51;(with_reducible refine (exergueref11_Parse.calls kj2 ((rd_T68 l0 ab).f1) ak aD an _ A14.out).mono ?_);rintro e w23 ⟨aH,rfl,ho0,hb⟩;replace HO_5:=zS (Kd.R_elder' (ro HO_5) (Kd.R_base ho0) hb);have aa:=zS (Kd.R_lower ho0 (bz HB));replace HB:=bs HB hb;(try clear hb);(try clear hb2);(try clear hk);(try clear hi);(try clear ho0);obtain ⟨bq,br,a2⟩:=Kd.R_slice aa.out;subst a2)|(go_at_call 31;(with_reducible refine (exergueref11_Right.calls kj2 _ _ ak false _ (rc aa) (rl aa) A15.out).mono ?_);rintro e w25 ⟨rfl,hb⟩;replace HO_5:=rb HO_5 hb;replace aa:=rb aa hb;replace HB:=bs HB hb;(try clear hb);(try clear hb2);(try clear hk);(try clear hi))))
     go_ret3
     exact ⟨_,by first|rfl|(simp <;> rfl)|(simp [*] <;> rfl),by first|exact Kd.R_nil _ _ _ _ _|exact Kd.N_nil _ _ _ _ _|exact Kd.V_nil _ _ _ _ _|exact Kd.Q_nil _ _ _ _ _|exact Kd.S_nil _ _ _ _ _,bQ HB⟩
end Go.Proofs.YtgfajgkjbckkgaaGreatDoor.PZ
end
end
