/- Texts of this seat, joined. Conditions: none beyond each statement's own. -/
import Derived.Test.YtgfajgkjbckkgaaGreatDoorPb19
import Derived.Test.YtgfajgkjbckkgaaGreatDoorPb18
set_option linter.all false
section
set_option maxRecDepth 100000
namespace Go.Proofs.YtgfajgkjbckkgaaGreatDoor.PZ
open Go.RowKit Go.Proofs.YtgfajgkjbckkgaaGreatDoorW.PrintWords Go.Proofs.YtgfajgkjbckkgaaGreatDoorW.PrintLast
def RelBad (W:World)(g:Nat)(s:ByteArray)(a:Nat)(e:Ending)(W':World):Prop:=(∃ c m nt A k cc,e = .returned (.agg #[.int .u8 c,.int .i64 m,.bool nt,.slice A k cc]))∧RdTo W g s a false W'
def RelGood (W:World)(g:Nat)(s:ByteArray)(a:Nat)(x:Rl)(e:Ending)(W':World):Prop:=∃ v,e = .returned (.agg #[.int .u8 x.f0,.int .i64 x.f1,.bool x.f2,v])∧Kd.R k57 57 W' W.heap.size (fun k=>k≠g) v x.f3∧RdTo W g s a true W'
set_option maxHeartbeats 4000000 in
set_option maxRecDepth 100000 in
theorem rel_noop (g:Nat)(s:ByteArray)(a n:Nat)(W:World)(h:Rdr W g s a true)(ha:a≤s.size)(hs:s.size≤140737488351232)(hop:opP ((bytesOf s).drop a)=(none,n)) :
    Calls Tryz.prog 66 #[.pointer (some ⟨g,0,none⟩)] W (RelBad W g s (a+n)):=by
 have hO:=rd_op g s a true (W.alloc (.cells #[.int .u8 0,.int .i64 0,.bool false,.slice none 0 0] 60)) (h.alloc _) ha hs
 unfold OpEndR at hO
 rw [hop] at hO
 simp only at hO
 have hg:g<W.heap.size:=blk_lt h
 have HG:=zA hg
 clear hop h hg
 go_enter Tryz.func66,Tryz.ntmps66
 go_upto_region 1 with (fail)
 go_cut [3] (fun s3 wc=>∃ g3,s3 = .pointer (some ⟨g3,0,none⟩)∧Aside0 (RelSt W g s (a+n) false W.heap.size g3 0 0 false (.slice none 0 0) [] wc))
 case first=>
  go_wp2_with (go_at_call 89;refine hO.mono ?_;rintro e W1 ⟨rfl,hr1⟩;have HR:=zA hr1;clear hr1)
  go_meet
  case rel=>exact ⟨W1.heap.size,rfl,⟨RelSt.start HR.out HG.out⟩⟩
 case rest=>
  obtain ⟨g3,rfl,HS⟩:=hcut
  obtain ⟨⟨c0,c1,c2,f1,f2⟩,d0,d1,d2,d3,k1,k2,k3,y0,y1,y2,y3,e0,e1,e2,e3⟩:=HS.out.cells
  go_wp2
  obtain ⟨z1,z2,z3⟩:=HS.out.done
  exact bodyPost_ret (results_cell_row rfl _ _ _ 60 _ (0,0) _ rfl z2 Tryz.underlying60 rfl (by kernel_rfl)) rfl ⟨⟨_,_,_,_,_,_,rfl⟩,z1⟩
theorem mod_none {t:List Int}{m:Nat}(h:modP t=(none,m)):signP [37] t=true∧∃ j,numP 1 (t.drop (bl t+1))=(none,j)∧m=bl t+1+j:=by
 unfold modP at h
 by_cases hs:signP [37] t=true
 ·rw [if_pos hs] at h
  rcases h2:numP 1 (t.drop (bl t+1)) with ⟨_|b,j⟩
  ·rw [h2] at h
   exact ⟨hs,j,rfl,(congrArg Prod.snd h).symm⟩
  rw [h2] at h;cases h
 rw [if_neg hs] at h;cases h
theorem mod_case {t:List Int}{v:Int}{m:Nat}(h:modP t=(some v,m)):(signP [37] t=true∧∃ j,numP 1 (t.drop (bl t+1))=(some v,j)∧m=bl t+1+j)∨(signP [37] t=false∧v=0∧m=0):=by
 unfold modP at h
 by_cases hs:signP [37] t=true
 ·rw [if_pos hs] at h
  rcases h2:numP 1 (t.drop (bl t+1)) with ⟨_|b,j⟩
  · rw [h2] at h;cases h
  rw [h2] at h
  simp only [Prod.mk.injEq,Option.some.injEq] at h
  obtain ⟨rfl,rfl⟩:=h
  exact .inl ⟨hs,j,rfl,rfl⟩
 rw [if_neg hs] at h
 simp only [Prod.mk.injEq,Option.some.injEq] at h
 exact .inr ⟨by simpa using hs,h.1.symm,h.2.symm⟩
structure SameAt (s:ByteArray)(P Q:Nat):Prop where
  le:P≤s.size
  sg:∀ x,signP x ((bytesOf s).drop P)=signP x ((bytesOf s).drop Q)
  bl_:P+bl ((bytesOf s).drop P)=Q+bl ((bytesOf s).drop Q)
theorem SameAt.refl {s:ByteArray}{P:Nat}(h:P≤s.size):SameAt s P P:=⟨h,fun _=>rfl,rfl⟩
theorem SameAt.skip {s:ByteArray}{P:Nat}(h:P≤s.size):SameAt s (P+bl ((bytesOf s).drop P)) P:=by
 have hb:=bl_drop s P
 refine ⟨run_size isBl s P h,fun x=>?_,?_⟩
 · rw [← hb,sign_skip]
 rw [← hb,bl_bl,Nat.add_zero]
theorem SameAt.has {s:ByteArray}{P Q:Nat}(h:SameAt s P Q)(x:ByteArray):hasTo x s P=hasTo x s Q:=by
 unfold hasTo
 rw [h.sg,h.bl_]
theorem has_same (x:ByteArray){W:World}{g:Nat}{s:ByteArray}{P Q:Nat}{b:Bool}(hq:SameAt s P Q)(h:Rdr W g s P b)(hs:s.size≤140737488351232){r:Bool}{K:Nat}(hr:signP (bytesOf x) ((bytesOf s).drop Q)=r)(hK:hasTo x s Q=K) :
    Calls Tryz.prog 90 #[.pointer (some ⟨g,0,none⟩),.string x] W fun e W'=>e = .returned (.bool r)∧RdTo W g s K b W':=by
 have:=rd_has x g s P b W h hq.le hs
 rw [hq.sg,hr,hq.has,hK] at this
 exact this
theorem num_none (least:Int){W W0 w0:World}{g:Nat}{s:ByteArray}{P n:Nat}{b:Bool}(hG:GL w0)(hB:Below w0.heap.size w0 W0)(hg:w0.heap.size≤g)(h:RdTo W0 g s P b W)(hP:P≤s.size)(hs:s.size≤140737488351232)(hn:numP least ((bytesOf s).drop P)=(none,n)) :
    Calls Tryz.prog 91 #[.pointer (some ⟨g,0,none⟩),.int .i64 least] W fun e W'=>e = .returned (.int .i64 0)∧RdTo W g s (P+n) false W':=by
 have:=rd_number least w0 hG g s P b W h.1 (h.below hB hg) hg hP hs
 unfold NumEnd at this
 rw [hn] at this
 exact this
theorem num_ok (least:Int){W W0 w0:World}{g:Nat}{s:ByteArray}{P n:Nat}{v:Int}{b:Bool}(hG:GL w0)(hB:Below w0.heap.size w0 W0)(hg:w0.heap.size≤g)(h:RdTo W0 g s P b W)(hP:P≤s.size)(hs:s.size≤140737488351232)(hn:numP least ((bytesOf s).drop P)=(some v,n)) :
    Calls Tryz.prog 91 #[.pointer (some ⟨g,0,none⟩),.int .i64 least] W fun e W'=>e = .returned (.int .i64 v)∧RdTo W g s (P+n) b W':=by
 have:=rd_number least w0 hG g s P b W h.1 (h.below hB hg) hg hP hs
 unfold NumEnd at this
 rw [hn] at this
 exact this
theorem op_le {s:ByteArray}{a n:Nat}{r:Option Int}(ha:a≤s.size)(h:opP ((bytesOf s).drop a)=(r,n)):a+n≤s.size:=by
 have h1:=run_size isBl s a ha
 change a+bl ((bytesOf s).drop a)≤s.size at h1
 unfold opP at h
 rw [bl_drop] at h
 split at h
 ·rename_i hc
  have h2:=run_size isLo s _ h1
  rw [hc.1] at h2
  have:=congrArg Prod.snd h
  simp only at this
  omega
 have:=congrArg Prod.snd h
 simp only at this
 omega
theorem num_le {s:ByteArray}{a n:Nat}{least:Int}{r:Option Int}(ha:a≤s.size)(h:numP least ((bytesOf s).drop a)=(r,n)):a+n≤s.size:=by
 have h1:=run_size isBl s a ha
 change a+bl ((bytesOf s).drop a)≤s.size at h1
 unfold numP at h
 simp only at h
 rw [bl_drop] at h
 have h2:=run_size isDi s _ h1
 split at h
 ·have:=congrArg Prod.snd h
  simp only at this
  omega
 have:=congrArg Prod.snd h
 simp only at this
 omega
set_option maxHeartbeats 4000000 in
set_option maxRecDepth 100000 in
theorem rel_nomod (w0:World)(hG:GL w0)(g:Nat)(s:ByteArray)(a n m:Nat)(c:Int)(W:World)(h:Rdr W g s a true)(hB:Below w0.heap.size w0 W)(hg0:w0.heap.size≤g)(ha:a≤s.size)(hs:s.size≤140737488351232)(hop:opP ((bytesOf s).drop a)=(some c,n))(hm:modP ((bytesOf s).drop (a+n))=(none,m)) :
    Calls Tryz.prog 66 #[.pointer (some ⟨g,0,none⟩)] W (RelBad W g s (a+n+m)):=by
 have hO:=rd_op g s a true (W.alloc (.cells #[.int .u8 0,.int .i64 0,.bool false,.slice none 0 0] 60)) (h.alloc _) ha hs
 have hn:=op_le ha hop
 unfold OpEndR at hO
 rw [hop] at hO
 simp only at hO
 have hg:g<W.heap.size:=blk_lt h
 have HG:=zA hg
 obtain ⟨m1,j,m2,rfl⟩:=mod_none hm
 have hK:hasTo ⟨#[37]⟩ s (a+n)=a+n+bl ((bytesOf s).drop (a+n))+1:=by
  unfold hasTo
  rw [show bytesOf (⟨#[37]⟩:ByteArray)=[37] from rfl,m1]
  rfl
 have hle:=hasTo_le ⟨#[37]⟩ s (a+n) hn
 rw [hK] at hle
 have HH:=zA (fun (wc:World) (hr:Rdr wc g s (a+n) true)=>has_same ⟨#[37]⟩ (SameAt.refl hn) hr hs m1 hK)
 rw [List.drop_drop,← Nat.add_assoc] at m2
 have HN:=zA (fun (wc:World) (hr:RdTo W g s (a+n+bl ((bytesOf s).drop (a+n))+1) true wc)=>num_none 1 hG hB hg0 hr hle hs m2)
 rw [show a+n+(bl ((bytesOf s).drop (a+n))+1+j)=a+n+bl ((bytesOf s).drop (a+n))+1+j by omega]
 generalize a+n+bl ((bytesOf s).drop (a+n))+1=K at *
 clear hop hm m1 m2 hK hle hG hB hg0 h hg
 go_enter Tryz.func66,Tryz.ntmps66
 go_upto_region 1 with (fail)
 go_cut [3] (fun s3 wc=>∃ g3,s3 = .pointer (some ⟨g3,0,none⟩)∧Aside0 (RelSt W g s (a+n) true W.heap.size g3 c 0 false (.slice none 0 0) [] wc))
 case first=>
  go_wp2_with (go_at_call 89;refine hO.mono ?_;rintro e W1 ⟨rfl,hr1⟩;have HR:=zA hr1;clear hr1)
  go_meet
  case rel=>exact ⟨W1.heap.size,rfl,⟨RelSt.start HR.out HG.out⟩⟩
 case rest=>
  obtain ⟨g3,rfl,HS⟩:=hcut
  clear hO
  obtain ⟨⟨c0,c1,c2,f1,f2⟩,d0,d1,d2,d3,k1,k2,k3,y0,y1,y2,y3,e0,e1,e2,e3⟩:=HS.out.cells
  go_upto_if 17 with (go_at_call 90;(with_reducible refine (HH.out _ HS.out.rd.rdr).mono ?_);rintro e W2 ⟨rfl,hr2⟩;have HS2:=zA (HS.out.call hr2);clear hr2)
  clear c0 c1 c2 f1 f2 d0 d1 d2 d3 k1 k2 k3 y0 y1 y2 y3 e0 e1 e2 e3
  go_cut [] (fun wc=>Aside0 (RelSt W g s (K+j) false W.heap.size g3 c 0 false (.slice none 0 0) [] wc))
  case first=>
   go_wp2_with (go_at_call 91;(with_reducible refine (HN.out _ HS2.out.rd).mono ?_);rintro e W3 ⟨rfl,hr3⟩;have HS3:=zA (HS2.out.call hr3);clear hr3;obtain ⟨⟨c0,c1,c2,f1,f2⟩,d0,d1,d2,d3,k1,k2,k3,y0,y1,y2,y3,e0,e1,e2,e3⟩:=HS3.out.cells)
   go_meet
   case rel=>exact ⟨HS3.out.set1 0⟩
  case rest=>
   clear HS HS2
   have HS:=hcut
   obtain ⟨⟨c0,c1,c2,f1,f2⟩,d0,d1,d2,d3,k1,k2,k3,y0,y1,y2,y3,e0,e1,e2,e3⟩:=HS.out.cells
   go_wp2
   obtain ⟨z1,z2,z3⟩:=HS.out.done
   exact bodyPost_ret (results_cell_row rfl _ _ _ 60 _ (0,0) _ rfl z2 Tryz.underlying60 rfl (by kernel_rfl)) rfl ⟨⟨_,_,_,_,_,_,rfl⟩,z1⟩
def rngO (x:Rl)(l:List Int)(wh:Bool):Option (Rg→Bool):=
  if wh=true∧x.f1>0 then (oper_Mod.f (l.length+2) l x.f1).bind fun n=>some fun g=>decide (n≥g.f0) && decide (n≤g.f1)
  else if wh=true∧¬ (∀ g ∈ x.f3,(oper_In.f l g.f0 g.f1).isSome) then none else some fun g=>wh && (oper_In.f l g.f0 g.f1 == some true)
inductive InOut (W:World) (x:Rl) (l:List Int) (p:Rg→Bool):Value→Prop
  | one (gn:Nat) (n:Int) (h:W.cell? ⟨gn,0,none⟩=some (.int .i64 n)) (hp:∀ g,p g=(decide (n≥g.f0) && decide (n≤g.f1))):InOut W x l p (.func (.func 82) #[] #[.pointer (some ⟨gn,0,none⟩)])
  | two (gw gl:Nat) (wh:Bool) (A:Option Addr) (c:Nat) (hw:W.cell? ⟨gw,0,none⟩=some (.bool wh)) (hl:W.cell? ⟨gl,0,none⟩=some (.slice A l.length c)) (hC:Kd.C (Kd.int .u8) W A l.length l) (hc:l.length≤c)
      (hI:wh=true→∀ g ∈ x.f3,(oper_In.f l g.f0 g.f1).isSome) (hp:∀ g,p g=(wh && (oper_In.f l g.f0 g.f1 == some true))):InOut W x l p (.func (.func 83) #[] #[.pointer (some ⟨gw,0,none⟩),.pointer (some ⟨gl,0,none⟩)])
theorem InOut.below {W W':World}{x:Rl}{l:List Int}{p:Rg→Bool}{v:Value}(h:InOut W x l p v)(hb:Below W.heap.size W W'):InOut W' x l p v:=by
 have hk:∀ {a:Addr} {u:Value},W.cell? a=some u→W'.cell? a=some u:=fun h=>(hb.cell (World.block_lt_of_cell? W _ h)).trans h
 cases h with
 | one gn n h hp=>exact .one gn n (hk h) hp
 | two gw gl wh A c hw hl hC hc hI hp=>exact .two gw gl wh A c (hk hw) (hk hl) (Kd.C_below hC hb) hc hI hp
theorem in_any {W:World}(x:Rl){l:List Int}{p:Rg→Bool}{v:Value}(hG:GL W)(A0:Option Addr)(c0:Nat)(h:InOut W x l p v)(hr:Kd.C k57 W A0 x.f3.length x.f3)(hc0:x.f3.length≤c0) :
    Calls Tryz.prog 60 #[.slice A0 x.f3.length c0,v] W fun e w'=>e = .returned (.bool (x.f3.any p))∧Below W.heap.size W w':=by
 cases h with
 | one gn n h hp=>
  refine cf_rg1 82 (enters_of Tryz.func82 (by kernel_rfl) rfl) (.pointer (some ⟨gn,0,none⟩)) p A0 c0 x.f3 W hr hc0 (fun g _ W' hb=>?_)
  rw [hp g]
  exact in_1 g gn n W' ((hb.cell (World.block_lt_of_cell? W _ h)).trans h)
 | two gw gl wh A c hw hl hC hc hI hp=>
  refine cf_rg2 83 (enters_of Tryz.func83 (by kernel_rfl) rfl) (.pointer (some ⟨gw,0,none⟩)) (.pointer (some ⟨gl,0,none⟩)) p A0 c0 x.f3 W hr hc0 (fun g hg W' hb=>?_)
  rw [hp g]
  refine in_2 g gw gl wh A l.length c _ W' ((hb.cell (World.block_lt_of_cell? W _ hw)).trans hw) ((hb.cell (World.block_lt_of_cell? W _ hl)).trans hl) (fun ht w1 hb1=>?_)
  obtain ⟨r,hr1⟩:=Option.isSome_iff_exists.mp (hI ht g hg)
  have:(oper_In.f l g.f0 g.f1 == some true)=r:=by rw [hr1];cases r <;> rfl
  rw [this]
  exact oper_In.calls A c l g.f0 g.f1 r w1 ((hG.below hb).below hb1) (Kd.C_below (Kd.C_below hC hb) hb1) hc hr1
theorem rule_in (x:Rl)(A3:Option Addr)(c3:Nat)(A0:Option Addr)(c0:Nat)(l0:List Int)(A1:Option Addr)(c1:Nat)(l1:List Int)(a2 a3:Int)(l:List Int)(wh:Bool)(p:Rg→Bool)(W:World)(hG:GL W)
    (h0:Kd.C (Kd.int .u8) W A0 l0.length l0) (hc0:l0.length≤c0) (h1:Kd.C (Kd.int .u8) W A1 l1.length l1) (hc1:l1.length≤c1)
    (ho:oper_Operand.f l0 l1 a2 a3 x.f0=some (l,wh)) (hp:rngO x l wh=some p) :
    Calls Tryz.prog 61 #[.agg #[.int .u8 x.f0,.int .i64 x.f1,.bool x.f2,.slice A3 x.f3.length c3],.agg #[.slice A0 l0.length c0,.slice A1 l1.length c1,.int .i64 a2,.int .i64 a3]] W fun e w'=>
      ∃ v:Value,e = .returned v∧InOut w' x l p v∧Below W.heap.size W w':=by
 have hO:∀ w,Below W.heap.size W w→Calls Tryz.prog 80 #[.agg #[.slice A0 l0.length c0,.slice A1 l1.length c1,.int .i64 a2,.int .i64 a3],.int .u8 x.f0] w fun e w'=>∃ A c,e = .returned (.tuple #[.slice A l.length c,.bool wh])∧Kd.C (Kd.int .u8) w' A l.length l∧l.length≤c∧Below w.heap.size w w':=by
  intro w hb
  refine (oper_Operand.calls (fun k=>k<W.heap.size) A0 c0 l0 (fun k=>k<W.heap.size) A1 c1 l1 a2 a3 x.f0 l wh w (hG.below hb) (Kd.V_mk hc0 (Kd.F_below (Kd.C_F (Kd.heap_int .u8) h0) hb)) (Kd.V_mk hc1 (Kd.F_below (Kd.C_F (Kd.heap_int .u8) h1) hb)) ho).mono ?_
  rintro e w' ⟨v,rfl,hV,hb'⟩
  obtain ⟨A,c,rfl⟩:=Kd.V_slice hV
  have hR:=Kd.V_reads' hV
  exact ⟨A,c,rfl,hR.2.2,hR.2.1,hb'⟩
 unfold rngO at hp
 by_cases hm:wh=true∧x.f1>0
 ·rw [if_pos hm] at hp
  obtain ⟨n,hn,hp⟩:=Option.bind_eq_some_iff.mp hp
  obtain rfl:=zE hp
  refine (in_at x A3 c3 A0 l0.length c0 A1 l1.length c1 a2 a3 l wh n W hO (fun _ _ w A c hb hC hc=>(oper_Mod.calls (l.length+2) A c l x.f1 n w hC hc hn).mono ?_)).mono ?_
  ·rintro e w' ⟨rfl,hd⟩
   exact ⟨rfl,by first|exact hd|exact hd.below⟩
  rintro e w' ⟨hb,(⟨_,_,gn,rfl,hc⟩|⟨hno,_⟩)⟩
  · exact ⟨_,rfl,.one gn n hc (fun _=>rfl),hb⟩
  exact absurd hm hno
 rw [if_neg hm] at hp
 by_cases hI:wh=true∧¬ (∀ g ∈ x.f3,(oper_In.f l g.f0 g.f1).isSome)
 · rw [if_pos hI] at hp;cases hp
 rw [if_neg hI] at hp
 obtain rfl:=zE hp
 refine (in_at x A3 c3 A0 l0.length c0 A1 l1.length c1 a2 a3 l wh 0 W hO (fun h1 h2=>absurd ⟨h1,h2⟩ hm)).mono ?_
 rintro e w' ⟨hb,(⟨h1,h2,_⟩|⟨_,gw,gl,A,c,rfl,hw,hl,hC,hc⟩)⟩
 · exact absurd ⟨h1,h2⟩ hm
 exact ⟨_,rfl,.two gw gl wh A c hw hl hC hc (fun ht=>Classical.byContradiction fun hn=>hI ⟨ht,hn⟩) (fun _=>rfl),hb⟩
def relN (l0 l1:List Int)(a2 a3:Int)(x:Rl):Option Bool:=(oper_Operand.f l0 l1 a2 a3 x.f0).bind fun q=>(rngO x q.1 q.2).bind fun p=>some (x.f3.any p == x.f2)
def rule_Holds.f (l:List (List Rl))(l0 l1:List Int)(a2 a3:Int):Option Bool:=
  if ∀ row ∈ l,∀ x ∈ row,(relN l0 l1 a2 a3 x).isSome then some (l.any fun row=>!row.any fun x=>relN l0 l1 a2 a3 x == some true) else none
theorem rule_Holds.calls (A0:Option Addr)(c0:Nat)(l0:List (List Rl))(A1_0:Option Addr)(c1_0:Nat)(l1_0:List Int)(A1_1:Option Addr)(c1_1:Nat)(l1_1:List Int)(a1_2 a1_3:Int)(r:Bool)(w:World)(hG:GL w)
    (hr0:Kd.C (Kd.slice 60 k60) w A0 l0.length l0) (hc0:l0.length≤c0) (hr1_0:Kd.C (Kd.int .u8) w A1_0 l1_0.length l1_0) (hc1_0:l1_0.length≤c1_0) (hr1_1:Kd.C (Kd.int .u8) w A1_1 l1_1.length l1_1) (hc1_1:l1_1.length≤c1_1)
    (h:rule_Holds.f l0 l1_0 l1_1 a1_2 a1_3=some r) :
    Calls Tryz.prog 37 #[.slice A0 l0.length c0,.agg #[.slice A1_0 l1_0.length c1_0,.slice A1_1 l1_1.length c1_1,.int .i64 a1_2,.int .i64 a1_3]] w fun e w'=>e = .returned (.bool r)∧Below w.heap.size w w':=by
 unfold rule_Holds.f at h
 split at h
 ·rename_i hs
  obtain rfl:=zE h
  refine holds_all l0 A0 c0 A1_0 l1_0.length c1_0 A1_1 l1_1.length c1_1 a1_2 a1_3 _ w hr0 hc0 (fun row hrow x hx w1 A3 c3 go hb q0 q1 q2 q3 hK hc3=>?_)
  obtain ⟨b,hb1⟩:=Option.isSome_iff_exists.mp (hs row hrow x hx)
  have hbb:(relN l1_0 l1_1 a1_2 a1_3 x == some true)=b:=by rw [hb1];cases b <;> rfl
  rw [hbb]
  unfold relN at hb1
  obtain ⟨⟨l,wh⟩,ho,hb1⟩:=Option.bind_eq_some_iff.mp hb1
  obtain ⟨p,hp,hb1⟩:=Option.bind_eq_some_iff.mp hb1
  obtain rfl:=zE hb1
  exact not_rel x A3 c3 go A1_0 l1_0.length c1_0 A1_1 l1_1.length c1_1 a1_2 a1_3 (x.f3.any p) (fun W v=>InOut W x l p v) w1 q0 q1 q2 q3
   (fun w2 hb2=>rule_in x A3 c3 A1_0 c1_0 l1_0 A1_1 c1_1 l1_1 a1_2 a1_3 l wh p w2 ((hG.below hb).below hb2) (Kd.C_below (Kd.C_below hr1_0 hb) hb2) hc1_0 (Kd.C_below (Kd.C_below hr1_1 hb) hb2) hc1_1 ho hp)
   (fun _ _ _ hio hb2=>hio.below hb2)
   (fun w2 v hb2 hio=>in_any x ((hG.below hb).below hb2) A3 c3 hio (Kd.C_below hK hb2) hc3)
 cases h
end Go.Proofs.YtgfajgkjbckkgaaGreatDoor.PZ
end
section
noncomputable section
namespace Go.Proofs.YtgfajgkjbckkgaaGreatDoor.PZ
open Go.RowKit Go.Proofs.YtgfajgkjbckkgaaGreatDoorW.PrintWords Go.Proofs.YtgfajgkjbckkgaaGreatDoorW.PrintLast Go.Proofs.YtgfajgkjbckkgaaGreatDoorW.PrintMore
attribute [local go_sem] max2_int min2_int max_two min_two max_three min_three max_four min_four   -- for this text's walks alone
def exergueref11_Right.f (k:Nat)(l0:List (List (S60))):Option (Bool):=(exergueref11_Text.f k l0).bind fun aa=>((exergueref11_Parse.f k aa).bind fun ac=>(if ac.2.2=0 then ((exergueref11_Same.f k l0 ac.1).bind fun ae=>(some ae)) else (some false)))
theorem exergueref11_Right.mono:∀ a0 k,LeO (exergueref11_Right.f k a0) (exergueref11_Right.f (k+1) a0):=by
 intro a0 k
 unfold exergueref11_Right.f
 repeat' first|(with_reducible first|apply exergueref11_Parse.mono|apply exergueref11_Same.mono|apply exergueref11_Text.mono|apply LeO.refl|apply LeO.none|refine LeO.ite ?_ ?_|refine LeO.bind ?_ (fun _=>?_))|apply exergueref11_Parse.mono|apply exergueref11_Same.mono|apply exergueref11_Text.mono|apply LeO.none
set_option maxHeartbeats 8000000 in
set_option maxRecDepth 100000 in
theorem exergueref11_Right.calls (k:Nat)(A0:Option Addr)(c0:Nat)(l0:List (List (S60)))(r:Bool)(w:World)(hr0:Kd.C (Kd.slice 60 k60) w A0 l0.length l0)(hc0:l0.length≤c0)(h:exergueref11_Right.f k l0=some r) :
  Calls Tryz.prog 31 #[.slice A0 l0.length c0] w fun e w'=>e = .returned (.bool r)∧Below w.heap.size w w':=by
 have HR0:=zS hr0
 have HC0:=zS hc0
 clear hr0 hc0
 have HB:=zS (Below.refl w.heap.size w)
 have H:((exergueref11_Text.f k l0).bind fun aa=>((exergueref11_Parse.f k aa).bind fun ac=>(if ac.2.2=0 then ((exergueref11_Same.f k l0 ac.1).bind fun ae=>(some ae)) else (some false))))=some r:=h
 clear h
 replace H:=Option.bind_eq_some_iff.mp H
 obtain ⟨aa,A20,H⟩:=H
 try dsimp only at H
 have A2:=zS A20
 clear A20
 replace H:=Option.bind_eq_some_iff.mp H
 obtain ⟨⟨af,ag,ad⟩,A30,H⟩:=H
 try dsimp only at H
 have A3:=zS A30
 clear A30
 by_cases c4:ad=0
 ·rw [if_pos c4] at H
  have ah:(ad == 0)=true:=zH c4
  have ai:(ad != 0)=false:=zG c4
  clear c4
  replace H:=Option.bind_eq_some_iff.mp H
  obtain ⟨ae,A50,H⟩:=H
  try dsimp only at H
  have A5:=zS A50
  clear A50
  obtain rfl:=zE H
  go_enter Tryz.func31,Tryz.ntmps31
  go_wp2_with (first|((with_reducible refine gate_callee (f:=36) rfl ?_);refine gL (some 8) Tryz.func36 #[.slice A0 l0.length c0] ?_;(with_reducible refine (exergueref11_Text.calls k _ _ l0 aa _ ?side1 HC0.out A2.out).mono ?_);(case side1=>repeat (first|exact HR0.out|(with_reducible refine Kd.C_alloc ?_ _)|(with_reducible refine Kd.C_drewN ?_ _)|(with_reducible refine Kd.C_drew ?_)));rintro e w6 ⟨rfl,hb⟩;refine ⟨_,rfl,?_⟩;replace HB:=bs HB hb;(try clear hb))|((with_reducible refine gate_callee (f:=51) rfl ?_);refine gL (some 9) Tryz.func51 #[.string aa] ?_;(with_reducible refine (exergueref11_Parse.calls k aa af ag ad _ A3.out).mono ?_);rintro e w7 ⟨aj,rfl,ho0,hb⟩;refine ⟨_,rfl,?_⟩;have ab:=zS (Kd.R_lower ho0 (bz HB));replace HB:=bs HB hb;(try clear hb);(try clear hb2);(try clear hk);(try clear hi);(try clear ho0);obtain ⟨Ao8,co8,eo8⟩:=Kd.R_slice ab.out;subst eo8)|(go_at_call 34;(with_reducible refine (exergueref11_Same.calls k _ _ l0 _ _ af ae _ (cb HR0 HB) HC0.out (rc ab) (rl ab) A5.out).mono ?_);rintro e w9 ⟨rfl,hb⟩;replace ab:=rb ab hb;replace HB:=bs HB hb;(try clear hb);(try clear hb2);(try clear hk);(try clear hi)))
  go_ret
  exact ⟨by first|rfl|(simp <;> rfl)|(simp [*] <;> rfl),bQ HB⟩
 rw [if_neg c4] at H
 have ah:(ad == 0)=false:=zF c4
 have ai:(ad != 0)=true:=zI c4
 obtain rfl:=zE H
 go_enter Tryz.func31,Tryz.ntmps31
 go_wp2_with (first|((with_reducible refine gate_callee (f:=36) rfl ?_);refine gL (some 8) Tryz.func36 #[.slice A0 l0.length c0] ?_;(with_reducible refine (exergueref11_Text.calls k _ _ l0 aa _ ?side1 HC0.out A2.out).mono ?_);(case side1=>repeat (first|exact HR0.out|(with_reducible refine Kd.C_alloc ?_ _)|(with_reducible refine Kd.C_drewN ?_ _)|(with_reducible refine Kd.C_drew ?_)));rintro e w10 ⟨rfl,hb⟩;refine ⟨_,rfl,?_⟩;replace HB:=bs HB hb;(try clear hb);(try clear hb2);(try clear hk);(try clear hi))|((with_reducible refine gate_callee (f:=51) rfl ?_);refine gL (some 9) Tryz.func51 #[.string aa] ?_;(with_reducible refine (exergueref11_Parse.calls k aa af ag ad _ A3.out).mono ?_);rintro e w11 ⟨aj,rfl,ho0,hb⟩;refine ⟨_,rfl,?_⟩;have ab:=zS (Kd.R_lower ho0 (bz HB));replace HB:=bs HB hb;(try clear hb);(try clear hb2);(try clear hk);(try clear hi);(try clear ho0)))
 go_ret
 exact ⟨by first|rfl|(simp <;> rfl)|(simp [*] <;> rfl),bQ HB⟩
end Go.Proofs.YtgfajgkjbckkgaaGreatDoor.PZ
end
end
