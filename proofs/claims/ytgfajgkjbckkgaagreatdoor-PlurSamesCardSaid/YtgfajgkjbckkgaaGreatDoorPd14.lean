/- Texts of this seat, joined. Conditions: none beyond each statement's own. -/
import Derived.Test.YtgfajgkjbckkgaaGreatDoorPd13
set_option linter.all false
section
set_option maxRecDepth 100000
namespace Go.Proofs.YtgfajgkjbckkgaaGreatDoor.PZ
open Go.RowKit Go.Proofs.YtgfajgkjbckkgaaGreatDoorW.PrintWords Go.Proofs.YtgfajgkjbckkgaaGreatDoorW.PrintLast
def RelBad (W:World)(g:Nat)(s:ByteArray)(a:Nat)(e:Ending)(W':World):Prop:=(∃ c m nt A k cc,e = .returned (.agg #[.int .u8 c,.int .i64 m,.bool nt,.slice A k cc]))∧RdTo W g s a false W'
def RelGood (W:World)(g:Nat)(s:ByteArray)(a:Nat)(x:Rl)(e:Ending)(W':World):Prop:=∃ v,e = .returned (.agg #[.int .u8 x.f0,.int .i64 x.f1,.bool x.f2,v])∧Kd.R k57 57 W' W.heap.size (fun k=>k≠g) v x.f3∧RdTo W g s a true W'
set_option maxHeartbeats 4000000 in
set_option maxRecDepth 100000 in
theorem rel_noop (g:Nat)(s:ByteArray)(a n:Nat)(W:World)(h:Rdr W g s a true)(ha:a≤s.size)(hs:s.size≤140737488351232)(hop:opP ((bytesOf s).drop a)=(none,n)) :
    Calls Tryz.prog 66 #[.pointer (some ⟨g,0,none⟩)] W (RelBad W g s (a+n)):=by
 have hO:=rd_op g s a true (W.alloc (.cells #[.int .u8 0,.int .i64 0,.bool false,.slice none 0 0] 60)) (h.alloc _) ha hs
 unfold OpEndR at hO
 rw [hop] at hO
 simp only at hO
 have hg:g<W.heap.size:=blk_lt h
 have HG:=zA hg
 clear hop h hg
 go_enter Tryz.func66,Tryz.ntmps66
 go_upto_region 1 with (fail)
 go_cut [3] (fun s3 wc=>∃ g3,s3 = .pointer (some ⟨g3,0,none⟩)∧Aside0 (RelSt W g s (a+n) false W.heap.size g3 0 0 false (.slice none 0 0) [] wc))
 case first=>
  go_wp2_with (go_at_call 89;refine hO.mono ?_;rintro e W1 ⟨rfl,hr1⟩;have HR:=zA hr1;clear hr1)
  go_meet
  case rel=>exact ⟨W1.heap.size,rfl,⟨RelSt.start HR.out HG.out⟩⟩
 case rest=>
  obtain ⟨g3,rfl,HS⟩:=hcut
  obtain ⟨⟨c0,c1,c2,f1,f2⟩,d0,d1,d2,d3,k1,k2,k3,y0,y1,y2,y3,e0,e1,e2,e3⟩:=HS.out.cells
  go_wp2
  obtain ⟨z1,z2,z3⟩:=HS.out.done
  exact bodyPost_ret (results_cell_row rfl _ _ _ 60 _ (0,0) _ rfl z2 Tryz.underlying60 rfl (by kernel_rfl)) rfl ⟨⟨_,_,_,_,_,_,rfl⟩,z1⟩
theorem mod_none {t:List Int}{m:Nat}(h:modP t=(none,m)):signP [37] t=true∧∃ j,numP 1 (t.drop (bl t+1))=(none,j)∧m=bl t+1+j:=by
 unfold modP at h
 by_cases hs:signP [37] t=true
 ·rw [if_pos hs] at h
  rcases h2:numP 1 (t.drop (bl t+1)) with ⟨_|b,j⟩
  ·rw [h2] at h
   exact ⟨hs,j,rfl,(congrArg Prod.snd h).symm⟩
  rw [h2] at h;cases h
 rw [if_neg hs] at h;cases h
theorem mod_case {t:List Int}{v:Int}{m:Nat}(h:modP t=(some v,m)):(signP [37] t=true∧∃ j,numP 1 (t.drop (bl t+1))=(some v,j)∧m=bl t+1+j)∨(signP [37] t=false∧v=0∧m=0):=by
 unfold modP at h
 by_cases hs:signP [37] t=true
 ·rw [if_pos hs] at h
  rcases h2:numP 1 (t.drop (bl t+1)) with ⟨_|b,j⟩
  · rw [h2] at h;cases h
  rw [h2] at h
  simp only [Prod.mk.injEq,Option.some.injEq] at h
  obtain ⟨rfl,rfl⟩:=h
  exact .inl ⟨hs,j,rfl,rfl⟩
 rw [if_neg hs] at h
 simp only [Prod.mk.injEq,Option.some.injEq] at h
 exact .inr ⟨by simpa using hs,h.1.symm,h.2.symm⟩
structure SameAt (s:ByteArray)(P Q:Nat):Prop where
  le:P≤s.size
  sg:∀ x,signP x ((bytesOf s).drop P)=signP x ((bytesOf s).drop Q)
  bl_:P+bl ((bytesOf s).drop P)=Q+bl ((bytesOf s).drop Q)
theorem SameAt.refl {s:ByteArray}{P:Nat}(h:P≤s.size):SameAt s P P:=⟨h,fun _=>rfl,rfl⟩
theorem SameAt.skip {s:ByteArray}{P:Nat}(h:P≤s.size):SameAt s (P+bl ((bytesOf s).drop P)) P:=by
 have hb:=bl_drop s P
 refine ⟨run_size isBl s P h,fun x=>?_,?_⟩
 · rw [← hb,sign_skip]
 rw [← hb,bl_bl,Nat.add_zero]
theorem SameAt.has {s:ByteArray}{P Q:Nat}(h:SameAt s P Q)(x:ByteArray):hasTo x s P=hasTo x s Q:=by
 unfold hasTo
 rw [h.sg,h.bl_]
theorem has_same (x:ByteArray){W:World}{g:Nat}{s:ByteArray}{P Q:Nat}{b:Bool}(hq:SameAt s P Q)(h:Rdr W g s P b)(hs:s.size≤140737488351232){r:Bool}{K:Nat}(hr:signP (bytesOf x) ((bytesOf s).drop Q)=r)(hK:hasTo x s Q=K) :
    Calls Tryz.prog 90 #[.pointer (some ⟨g,0,none⟩),.string x] W fun e W'=>e = .returned (.bool r)∧RdTo W g s K b W':=by
 have:=rd_has x g s P b W h hq.le hs
 rw [hq.sg,hr,hq.has,hK] at this
 exact this
theorem num_none (least:Int){W W0 w0:World}{g:Nat}{s:ByteArray}{P n:Nat}{b:Bool}(hG:GL w0)(hB:Below w0.heap.size w0 W0)(hg:w0.heap.size≤g)(h:RdTo W0 g s P b W)(hP:P≤s.size)(hs:s.size≤140737488351232)(hn:numP least ((bytesOf s).drop P)=(none,n)) :
    Calls Tryz.prog 91 #[.pointer (some ⟨g,0,none⟩),.int .i64 least] W fun e W'=>e = .returned (.int .i64 0)∧RdTo W g s (P+n) false W':=by
 have:=rd_number least w0 hG g s P b W h.1 (h.below hB hg) hg hP hs
 unfold NumEnd at this
 rw [hn] at this
 exact this
theorem num_ok (least:Int){W W0 w0:World}{g:Nat}{s:ByteArray}{P n:Nat}{v:Int}{b:Bool}(hG:GL w0)(hB:Below w0.heap.size w0 W0)(hg:w0.heap.size≤g)(h:RdTo W0 g s P b W)(hP:P≤s.size)(hs:s.size≤140737488351232)(hn:numP least ((bytesOf s).drop P)=(some v,n)) :
    Calls Tryz.prog 91 #[.pointer (some ⟨g,0,none⟩),.int .i64 least] W fun e W'=>e = .returned (.int .i64 v)∧RdTo W g s (P+n) b W':=by
 have:=rd_number least w0 hG g s P b W h.1 (h.below hB hg) hg hP hs
 unfold NumEnd at this
 rw [hn] at this
 exact this
theorem op_le {s:ByteArray}{a n:Nat}{r:Option Int}(ha:a≤s.size)(h:opP ((bytesOf s).drop a)=(r,n)):a+n≤s.size:=by
 have h1:=run_size isBl s a ha
 change a+bl ((bytesOf s).drop a)≤s.size at h1
 unfold opP at h
 rw [bl_drop] at h
 split at h
 ·rename_i hc
  have h2:=run_size isLo s _ h1
  rw [hc.1] at h2
  have:=congrArg Prod.snd h
  simp only at this
  omega
 have:=congrArg Prod.snd h
 simp only at this
 omega
theorem num_le {s:ByteArray}{a n:Nat}{least:Int}{r:Option Int}(ha:a≤s.size)(h:numP least ((bytesOf s).drop a)=(r,n)):a+n≤s.size:=by
 have h1:=run_size isBl s a ha
 change a+bl ((bytesOf s).drop a)≤s.size at h1
 unfold numP at h
 simp only at h
 rw [bl_drop] at h
 have h2:=run_size isDi s _ h1
 split at h
 ·have:=congrArg Prod.snd h
  simp only at this
  omega
 have:=congrArg Prod.snd h
 simp only at this
 omega
set_option maxHeartbeats 4000000 in
set_option maxRecDepth 100000 in
theorem rel_nomod (w0:World)(hG:GL w0)(g:Nat)(s:ByteArray)(a n m:Nat)(c:Int)(W:World)(h:Rdr W g s a true)(hB:Below w0.heap.size w0 W)(hg0:w0.heap.size≤g)(ha:a≤s.size)(hs:s.size≤140737488351232)(hop:opP ((bytesOf s).drop a)=(some c,n))(hm:modP ((bytesOf s).drop (a+n))=(none,m)) :
    Calls Tryz.prog 66 #[.pointer (some ⟨g,0,none⟩)] W (RelBad W g s (a+n+m)):=by
 have hO:=rd_op g s a true (W.alloc (.cells #[.int .u8 0,.int .i64 0,.bool false,.slice none 0 0] 60)) (h.alloc _) ha hs
 have hn:=op_le ha hop
 unfold OpEndR at hO
 rw [hop] at hO
 simp only at hO
 have hg:g<W.heap.size:=blk_lt h
 have HG:=zA hg
 obtain ⟨m1,j,m2,rfl⟩:=mod_none hm
 have hK:hasTo ⟨#[37]⟩ s (a+n)=a+n+bl ((bytesOf s).drop (a+n))+1:=by
  unfold hasTo
  rw [show bytesOf (⟨#[37]⟩:ByteArray)=[37] from rfl,m1]
  rfl
 have hle:=hasTo_le ⟨#[37]⟩ s (a+n) hn
 rw [hK] at hle
 have HH:=zA (fun (wc:World) (hr:Rdr wc g s (a+n) true)=>has_same ⟨#[37]⟩ (SameAt.refl hn) hr hs m1 hK)
 rw [List.drop_drop,← Nat.add_assoc] at m2
 have HN:=zA (fun (wc:World) (hr:RdTo W g s (a+n+bl ((bytesOf s).drop (a+n))+1) true wc)=>num_none 1 hG hB hg0 hr hle hs m2)
 rw [show a+n+(bl ((bytesOf s).drop (a+n))+1+j)=a+n+bl ((bytesOf s).drop (a+n))+1+j by omega]
 generalize a+n+bl ((bytesOf s).drop (a+n))+1=K at *
 clear hop hm m1 m2 hK hle hG hB hg0 h hg
 go_enter Tryz.func66,Tryz.ntmps66
 go_upto_region 1 with (fail)
 go_cut [3] (fun s3 wc=>∃ g3,s3 = .pointer (some ⟨g3,0,none⟩)∧Aside0 (RelSt W g s (a+n) true W.heap.size g3 c 0 false (.slice none 0 0) [] wc))
 case first=>
  go_wp2_with (go_at_call 89;refine hO.mono ?_;rintro e W1 ⟨rfl,hr1⟩;have HR:=zA hr1;clear hr1)
  go_meet
  case rel=>exact ⟨W1.heap.size,rfl,⟨RelSt.start HR.out HG.out⟩⟩
 case rest=>
  obtain ⟨g3,rfl,HS⟩:=hcut
  clear hO
  obtain ⟨⟨c0,c1,c2,f1,f2⟩,d0,d1,d2,d3,k1,k2,k3,y0,y1,y2,y3,e0,e1,e2,e3⟩:=HS.out.cells
  go_upto_if 17 with (go_at_call 90;(with_reducible refine (HH.out _ HS.out.rd.rdr).mono ?_);rintro e W2 ⟨rfl,hr2⟩;have HS2:=zA (HS.out.call hr2);clear hr2)
  clear c0 c1 c2 f1 f2 d0 d1 d2 d3 k1 k2 k3 y0 y1 y2 y3 e0 e1 e2 e3
  go_cut [] (fun wc=>Aside0 (RelSt W g s (K+j) false W.heap.size g3 c 0 false (.slice none 0 0) [] wc))
  case first=>
   go_wp2_with (go_at_call 91;(with_reducible refine (HN.out _ HS2.out.rd).mono ?_);rintro e W3 ⟨rfl,hr3⟩;have HS3:=zA (HS2.out.call hr3);clear hr3;obtain ⟨⟨c0,c1,c2,f1,f2⟩,d0,d1,d2,d3,k1,k2,k3,y0,y1,y2,y3,e0,e1,e2,e3⟩:=HS3.out.cells)
   go_meet
   case rel=>exact ⟨HS3.out.set1 0⟩
  case rest=>
   clear HS HS2
   have HS:=hcut
   obtain ⟨⟨c0,c1,c2,f1,f2⟩,d0,d1,d2,d3,k1,k2,k3,y0,y1,y2,y3,e0,e1,e2,e3⟩:=HS.out.cells
   go_wp2
   obtain ⟨z1,z2,z3⟩:=HS.out.done
   exact bodyPost_ret (results_cell_row rfl _ _ _ 60 _ (0,0) _ rfl z2 Tryz.underlying60 rfl (by kernel_rfl)) rfl ⟨⟨_,_,_,_,_,_,rfl⟩,z1⟩
def rngO (x:Rl)(l:List Int)(wh:Bool):Option (Rg→Bool):=
  if wh=true∧x.f1>0 then (oper_Mod.f (l.length+2) l x.f1).bind fun n=>some fun g=>decide (n≥g.f0) && decide (n≤g.f1)
  else if wh=true∧¬ (∀ g ∈ x.f3,(oper_In.f l g.f0 g.f1).isSome) then none else some fun g=>wh && (oper_In.f l g.f0 g.f1 == some true)
inductive InOut (W:World) (x:Rl) (l:List Int) (p:Rg→Bool):Value→Prop
  | one (gn:Nat) (n:Int) (h:W.cell? ⟨gn,0,none⟩=some (.int .i64 n)) (hp:∀ g,p g=(decide (n≥g.f0) && decide (n≤g.f1))):InOut W x l p (.func (.func 82) #[] #[.pointer (some ⟨gn,0,none⟩)])
  | two (gw gl:Nat) (wh:Bool) (A:Option Addr) (c:Nat) (hw:W.cell? ⟨gw,0,none⟩=some (.bool wh)) (hl:W.cell? ⟨gl,0,none⟩=some (.slice A l.length c)) (hC:Kd.C (Kd.int .u8) W A l.length l) (hc:l.length≤c)
      (hI:wh=true→∀ g ∈ x.f3,(oper_In.f l g.f0 g.f1).isSome) (hp:∀ g,p g=(wh && (oper_In.f l g.f0 g.f1 == some true))):InOut W x l p (.func (.func 83) #[] #[.pointer (some ⟨gw,0,none⟩),.pointer (some ⟨gl,0,none⟩)])
theorem InOut.below {W W':World}{x:Rl}{l:List Int}{p:Rg→Bool}{v:Value}(h:InOut W x l p v)(hb:Below W.heap.size W W'):InOut W' x l p v:=by
 have hk:∀ {a:Addr} {u:Value},W.cell? a=some u→W'.cell? a=some u:=fun h=>(hb.cell (World.block_lt_of_cell? W _ h)).trans h
 cases h with
 | one gn n h hp=>exact .one gn n (hk h) hp
 | two gw gl wh A c hw hl hC hc hI hp=>exact .two gw gl wh A c (hk hw) (hk hl) (Kd.C_below hC hb) hc hI hp
theorem in_any {W:World}(x:Rl){l:List Int}{p:Rg→Bool}{v:Value}(hG:GL W)(A0:Option Addr)(c0:Nat)(h:InOut W x l p v)(hr:Kd.C k57 W A0 x.f3.length x.f3)(hc0:x.f3.length≤c0) :
    Calls Tryz.prog 60 #[.slice A0 x.f3.length c0,v] W fun e w'=>e = .returned (.bool (x.f3.any p))∧Below W.heap.size W w':=by
 cases h with
 | one gn n h hp=>
  refine cf_rg1 82 (enters_of Tryz.func82 (by kernel_rfl) rfl) (.pointer (some ⟨gn,0,none⟩)) p A0 c0 x.f3 W hr hc0 (fun g _ W' hb=>?_)
  rw [hp g]
  exact in_1 g gn n W' ((hb.cell (World.block_lt_of_cell? W _ h)).trans h)
 | two gw gl wh A c hw hl hC hc hI hp=>
  refine cf_rg2 83 (enters_of Tryz.func83 (by kernel_rfl) rfl) (.pointer (some ⟨gw,0,none⟩)) (.pointer (some ⟨gl,0,none⟩)) p A0 c0 x.f3 W hr hc0 (fun g hg W' hb=>?_)
  rw [hp g]
  refine in_2 g gw gl wh A l.length c _ W' ((hb.cell (World.block_lt_of_cell? W _ hw)).trans hw) ((hb.cell (World.block_lt_of_cell? W _ hl)).trans hl) (fun ht w1 hb1=>?_)
  obtain ⟨r,hr1⟩:=Option.isSome_iff_exists.mp (hI ht g hg)
  have:(oper_In.f l g.f0 g.f1 == some true)=r:=by rw [hr1];cases r <;> rfl
  rw [this]
  exact oper_In.calls A c l g.f0 g.f1 r w1 ((hG.below hb).below hb1) (Kd.C_below (Kd.C_below hC hb) hb1) hc hr1
theorem rule_in (x:Rl)(A3:Option Addr)(c3:Nat)(A0:Option Addr)(c0:Nat)(l0:List Int)(A1:Option Addr)(c1:Nat)(l1:List Int)(a2 a3:Int)(l:List Int)(wh:Bool)(p:Rg→Bool)(W:World)(hG:GL W)
    (h0:Kd.C (Kd.int .u8) W A0 l0.length l0) (hc0:l0.length≤c0) (h1:Kd.C (Kd.int .u8) W A1 l1.length l1) (hc1:l1.length≤c1)
    (ho:oper_Operand.f l0 l1 a2 a3 x.f0=some (l,wh)) (hp:rngO x l wh=some p) :
    Calls Tryz.prog 61 #[.agg #[.int .u8 x.f0,.int .i64 x.f1,.bool x.f2,.slice A3 x.f3.length c3],.agg #[.slice A0 l0.length c0,.slice A1 l1.length c1,.int .i64 a2,.int .i64 a3]] W fun e w'=>
      ∃ v:Value,e = .returned v∧InOut w' x l p v∧Below W.heap.size W w':=by
 have hO:∀ w,Below W.heap.size W w→Calls Tryz.prog 80 #[.agg #[.slice A0 l0.length c0,.slice A1 l1.length c1,.int .i64 a2,.int .i64 a3],.int .u8 x.f0] w fun e w'=>∃ A c,e = .returned (.tuple #[.slice A l.length c,.bool wh])∧Kd.C (Kd.int .u8) w' A l.length l∧l.length≤c∧Below w.heap.size w w':=by
  intro w hb
  refine (oper_Operand.calls (fun k=>k<W.heap.size) A0 c0 l0 (fun k=>k<W.heap.size) A1 c1 l1 a2 a3 x.f0 l wh w (hG.below hb) (Kd.V_mk hc0 (Kd.F_below (Kd.C_F (Kd.heap_int .u8) h0) hb)) (Kd.V_mk hc1 (Kd.F_below (Kd.C_F (Kd.heap_int .u8) h1) hb)) ho).mono ?_
  rintro e w' ⟨v,rfl,hV,hb'⟩
  obtain ⟨A,c,rfl⟩:=Kd.V_slice hV
  have hR:=Kd.V_reads' hV
  exact ⟨A,c,rfl,hR.2.2,hR.2.1,hb'⟩
 unfold rngO at hp
 by_cases hm:wh=true∧x.f1>0
 ·rw [if_pos hm] at hp
  obtain ⟨n,hn,hp⟩:=Option.bind_eq_some_iff.mp hp
  obtain rfl:=zE hp
  refine (in_at x A3 c3 A0 l0.length c0 A1 l1.length c1 a2 a3 l wh n W hO (fun _ _ w A c hb hC hc=>(oper_Mod.calls (l.length+2) A c l x.f1 n w hC hc hn).mono ?_)).mono ?_
  ·rintro e w' ⟨rfl,hd⟩
   exact ⟨rfl,by first|exact hd|exact hd.below⟩
  rintro e w' ⟨hb,(⟨_,_,gn,rfl,hc⟩|⟨hno,_⟩)⟩
  · exact ⟨_,rfl,.one gn n hc (fun _=>rfl),hb⟩
  exact absurd hm hno
 rw [if_neg hm] at hp
 by_cases hI:wh=true∧¬ (∀ g ∈ x.f3,(oper_In.f l g.f0 g.f1).isSome)
 · rw [if_pos hI] at hp;cases hp
 rw [if_neg hI] at hp
 obtain rfl:=zE hp
 refine (in_at x A3 c3 A0 l0.length c0 A1 l1.length c1 a2 a3 l wh 0 W hO (fun h1 h2=>absurd ⟨h1,h2⟩ hm)).mono ?_
 rintro e w' ⟨hb,(⟨h1,h2,_⟩|⟨_,gw,gl,A,c,rfl,hw,hl,hC,hc⟩)⟩
 · exact absurd ⟨h1,h2⟩ hm
 exact ⟨_,rfl,.two gw gl wh A c hw hl hC hc (fun ht=>Classical.byContradiction fun hn=>hI ⟨ht,hn⟩) (fun _=>rfl),hb⟩
def relN (l0 l1:List Int)(a2 a3:Int)(x:Rl):Option Bool:=(oper_Operand.f l0 l1 a2 a3 x.f0).bind fun q=>(rngO x q.1 q.2).bind fun p=>some (x.f3.any p == x.f2)
def rule_Holds.f (l:List (List Rl))(l0 l1:List Int)(a2 a3:Int):Option Bool:=
  if ∀ row ∈ l,∀ x ∈ row,(relN l0 l1 a2 a3 x).isSome then some (l.any fun row=>!row.any fun x=>relN l0 l1 a2 a3 x == some true) else none
theorem rule_Holds.calls (A0:Option Addr)(c0:Nat)(l0:List (List Rl))(A1_0:Option Addr)(c1_0:Nat)(l1_0:List Int)(A1_1:Option Addr)(c1_1:Nat)(l1_1:List Int)(a1_2 a1_3:Int)(r:Bool)(w:World)(hG:GL w)
    (hr0:Kd.C (Kd.slice 60 k60) w A0 l0.length l0) (hc0:l0.length≤c0) (hr1_0:Kd.C (Kd.int .u8) w A1_0 l1_0.length l1_0) (hc1_0:l1_0.length≤c1_0) (hr1_1:Kd.C (Kd.int .u8) w A1_1 l1_1.length l1_1) (hc1_1:l1_1.length≤c1_1)
    (h:rule_Holds.f l0 l1_0 l1_1 a1_2 a1_3=some r) :
    Calls Tryz.prog 37 #[.slice A0 l0.length c0,.agg #[.slice A1_0 l1_0.length c1_0,.slice A1_1 l1_1.length c1_1,.int .i64 a1_2,.int .i64 a1_3]] w fun e w'=>e = .returned (.bool r)∧Below w.heap.size w w':=by
 unfold rule_Holds.f at h
 split at h
 ·rename_i hs
  obtain rfl:=zE h
  refine holds_all l0 A0 c0 A1_0 l1_0.length c1_0 A1_1 l1_1.length c1_1 a1_2 a1_3 _ w hr0 hc0 (fun row hrow x hx w1 A3 c3 go hb q0 q1 q2 q3 hK hc3=>?_)
  obtain ⟨b,hb1⟩:=Option.isSome_iff_exists.mp (hs row hrow x hx)
  have hbb:(relN l1_0 l1_1 a1_2 a1_3 x == some true)=b:=by rw [hb1];cases b <;> rfl
  rw [hbb]
  unfold relN at hb1
  obtain ⟨⟨l,wh⟩,ho,hb1⟩:=Option.bind_eq_some_iff.mp hb1
  obtain ⟨p,hp,hb1⟩:=Option.bind_eq_some_iff.mp hb1
  obtain rfl:=zE hb1
  exact not_rel x A3 c3 go A1_0 l1_0.length c1_0 A1_1 l1_1.length c1_1 a1_2 a1_3 (x.f3.any p) (fun W v=>InOut W x l p v) w1 q0 q1 q2 q3
   (fun w2 hb2=>rule_in x A3 c3 A1_0 c1_0 l1_0 A1_1 c1_1 l1_1 a1_2 a1_3 l wh p w2 ((hG.below hb).below hb2) (Kd.C_below (Kd.C_below hr1_0 hb) hb2) hc1_0 (Kd.C_below (Kd.C_below hr1_1 hb) hb2) hc1_1 ho hp)
   (fun _ _ _ hio hb2=>hio.below hb2)
   (fun w2 v hb2 hio=>in_any x ((hG.below hb).below hb2) A3 c3 hio (Kd.C_below hK hb2) hc3)
 cases h
section
structure LenOk (c:List (List Rl)):Prop where
  lc:c.length≤140737488355328
  lr:∀ row ∈ c,row.length≤140737488355328
  lx:∀ row ∈ c,∀ x ∈ row,x.f3.length≤140737488355328
theorem OkC.len {c:List (List Rl)}(h:OkC c):LenOk c:=by
 obtain ⟨h1,h2⟩:=h
 refine ⟨by omega,fun row hr=>?_,fun row hr x hx=>?_⟩
 · have:=(h2 row hr).1;omega
 have:=((h2 row hr).2 x hx).2.2.1;omega
theorem drop_get {α:Type}{l:List α}{i:Nat}(h:i<l.length):l.drop i=l[i] :: l.drop (i+1):=List.drop_eq_getElem_cons h
section
variable {a b:List (List Rl)}
end
def LowX (x:Rl):Prop:=-1000000000000≤x.f1∧∀ r ∈ x.f3,-1000000000000≤r.f0 ∧ -1000000000000≤r.f1
structure ShortC (c:List (List Rl)):Prop where
  w:wC c≤200
  n:∀ row ∈ c,∀ x ∈ row,LowX x
section
variable {c:List (List Rl)}(hc:LenOk c)
include hc
theorem short_l2 {i j:Nat}(hi:i<c.length)(hj:j<(c[i]).length)(m:Nat)(hm:m≤140737488355328+300){P:Bool→Prop}
    (hR:(∀ r ∈ ((c[i])[j]).f3,-1000000000000≤r.f0 ∧ -1000000000000≤r.f1) → -1000000000000≤((c[i])[j]).f1→m≤200→∃ R,Ev (fun k=>exergueref11_Short.l1 k c (m:Int) (i:Int) ((j+1:Nat):Int)) R∧P R) (hP:P false) (n:Nat) :
    ∀ q:Nat,q+n=((c[i])[j]).f3.length→(∀ r ∈ (((c[i])[j]).f3).take q,-1000000000000≤r.f0 ∧ -1000000000000≤r.f1)→∃ R,Ev (fun k=>exergueref11_Short.l2 k c (m:Int) (i:Int) (j:Int) (q:Int)) R∧P R:=by
 have hcl:=hc.lc
 have hrl:=hc.lr _ (List.getElem_mem hi)
 have hxl:=hc.lx _ (List.getElem_mem hi) _ (List.getElem_mem hj)
 have i1:(0:Int)≤(i:Int):=by omega
 have i2:(i:Int)<(c.length:Int):=by omega
 have j1:(0:Int)≤(j:Int):=by omega
 have j2:(j:Int)<((c[i]).length:Int):=by omega
 have wj:wrap64 ((j:Int)+1)=((j+1:Nat):Int):=by rw [w64 _ (by omega) (by omega)];omega
 have ra:=rdL hi
 have sx:=rd60 hj
 generalize c[i]=r at *
 generalize r[j]=x at *
 have off:∀ {g:Nat→Option Bool},(∀ k,g (k+1)=some false)→∃ R,Ev g R∧P R:=fun h=>⟨false,Ev_shift (by simp only [h];exact Ev.now _),hP⟩
 induction n with
 | zero=>
  intro q hq hlow
  have q1:¬ ((q:Nat):Int)<(x.f3.length:Int):=by omega
  rw [List.take_of_length_le (by omega)] at hlow
  by_cases h1:x.f1 < -1000000000000
  · exact off (fun k=>by simp only [exergueref11_Short.l2,if_pos i1,if_pos i2,ra,if_pos j1,if_pos j2,sx,if_neg q1,if_pos h1])
  by_cases h2:(m:Int)>200
  · exact off (fun k=>by simp only [exergueref11_Short.l2,if_pos i1,if_pos i2,ra,if_pos j1,if_pos j2,sx,if_neg q1,if_neg h1,if_pos h2])
  obtain ⟨R,hR1,hR2⟩:=hR hlow (by omega) (by omega)
  refine ⟨R,Ev_shift ?_,hR2⟩
  simp only [exergueref11_Short.l2,if_pos i1,if_pos i2,ra,if_pos j1,if_pos j2,sx,if_neg q1,if_neg h1,if_neg h2,wj]
  exact hR1
 | succ n ih=>
  intro q hq hlow
  have hlt:q<x.f3.length:=by omega
  have q1:((q:Nat):Int)<(x.f3.length:Int):=by omega
  have q2:(0:Int)≤(q:Int):=by omega
  have wq:wrap64 ((q:Int)+1)=((q+1:Nat):Int):=by rw [w64 _ (by omega) (by omega)];omega
  by_cases h1:(x.f3[q]).f0 < -1000000000000
  · exact off (fun k=>by simp only [exergueref11_Short.l2,if_pos i1,if_pos i2,ra,if_pos j1,if_pos j2,sx,if_pos q1,if_pos q2,rd57 hlt,if_pos h1])
  by_cases h2:(x.f3[q]).f1 < -1000000000000
  · exact off (fun k=>by simp only [exergueref11_Short.l2,if_pos i1,if_pos i2,ra,if_pos j1,if_pos j2,sx,if_pos q1,if_pos q2,rd57 hlt,if_neg h1,if_pos h2])
  obtain ⟨R,hR1,hR2⟩:=ih (q+1) (by omega) (fun y hy=>by
   rw [List.take_succ_eq_append_getElem hlt] at hy
   rcases List.mem_append.1 hy with hy|hy
   · exact hlow y hy
   rw [List.mem_singleton.1 hy];omega)
  refine ⟨R,Ev_shift ?_,hR2⟩
  simp only [exergueref11_Short.l2,if_pos i1,if_pos i2,ra,if_pos j1,if_pos j2,sx,if_pos q1,if_pos q2,rd57 hlt,if_neg h1,if_neg h2,wq]
  exact hR1
theorem short_l1 {i:Nat}(hi:i<c.length)(m0:Nat)(hm0:m0≤201){P:Bool→Prop}
    (hR:(∀ x ∈ c[i],LowX x)→m0+((c[i]).map wR).sum≤200→∃ R,Ev (fun k=>exergueref11_Short.l0 k c ((m0+((c[i]).map wR).sum:Nat):Int) ((i+1:Nat):Int)) R∧P R) (hP:P false) (n:Nat) :
    ∀ j:Nat,j+n=(c[i]).length→(m0+(((c[i]).take j).map wR).sum≤200∨(j=0∧m0≤201))→(∀ x ∈ (c[i]).take j,LowX x)→∃ R,Ev (fun k=>exergueref11_Short.l1 k c ((m0+(((c[i]).take j).map wR).sum:Nat):Int) (i:Int) (j:Int)) R∧P R:=by
 have hcl:=hc.lc
 have hrl:=hc.lr _ (List.getElem_mem hi)
 have i1:(0:Int)≤(i:Int):=by omega
 have i2:(i:Int)<(c.length:Int):=by omega
 have wi:wrap64 ((i:Int)+1)=((i+1:Nat):Int):=by rw [w64 _ (by omega) (by omega)];omega
 have ra:=rdL hi
 induction n with
 | zero=>
  intro j hj hm hlow
  have q1:¬ ((j:Nat):Int)<((c[i]).length:Int):=by omega
  rw [List.take_of_length_le (by omega)] at hlow hm ⊢
  by_cases h2:((m0+((c[i]).map wR).sum:Nat):Int)>200
  · exact ⟨false,Ev_shift (by simp only [exergueref11_Short.l1,if_pos i1,if_pos i2,ra,if_neg q1,if_pos h2];exact Ev.now _),hP⟩
  obtain ⟨R,hR1,hR2⟩:=hR hlow (by omega)
  refine ⟨R,Ev_shift ?_,hR2⟩
  simp only [exergueref11_Short.l1,if_pos i1,if_pos i2,ra,if_neg q1,if_neg h2,wi]
  exact hR1
 | succ n ih=>
  intro j hj hm hlow
  have hlt:j<(c[i]).length:=by omega
  have q1:((j:Nat):Int)<((c[i]).length:Int):=by omega
  have q2:(0:Int)≤(j:Int):=by omega
  have hxl:=hc.lx _ (List.getElem_mem hi) _ (List.getElem_mem hlt)
  have hs:(((c[i]).take (j+1)).map wR).sum=(((c[i]).take j).map wR).sum+(1+((c[i])[j]).f3.length):=by
   rw [List.take_succ_eq_append_getElem hlt,List.map_append,List.sum_append]
   simp [wR]
  have hmm:m0+(((c[i]).take j).map wR).sum≤201:=by
   rcases hm with h|⟨h,h2⟩
   · omega
   subst h;simp;omega
  have hmb:m0+(((c[i]).take (j+1)).map wR).sum≤140737488355328+300:=by rw [hs];omega
  have w1:wrap64 (wrap64 (((m0+(((c[i]).take j).map wR).sum:Nat):Int)+1)+(((c[i])[j]).f3.length:Int))=((m0+(((c[i]).take (j+1)).map wR).sum:Nat):Int):=by
   rw [hs,w64 (_+1) (by omega) (by omega),w64 _ (by omega) (by omega)];omega
  have l2:=short_l2 hc hi hlt (m0+(((c[i]).take (j+1)).map wR).sum) hmb (P:=P) (fun h1 h2 h3=>ih (j+1) (by omega) (.inl h3) (fun x hx=>by
   rw [List.take_succ_eq_append_getElem hlt] at hx
   rcases List.mem_append.1 hx with hx|hx
   · exact hlow x hx
   rw [List.mem_singleton.1 hx];exact ⟨h2,h1⟩)) hP ((c[i])[j]).f3.length 0 (by omega) (by simp)
  obtain ⟨R,hR1,hR2⟩:=l2
  refine ⟨R,Ev_shift ?_,hR2⟩
  simp only [exergueref11_Short.l1,if_pos i1,if_pos i2,ra,if_pos q1,if_pos q2,rd60 hlt,w1]
  exact hR1
theorem short_l0 (n:Nat):∀ i:Nat,i+n=c.length→wC (c.take i)≤200→(∀ row ∈ c.take i,∀ x ∈ row,LowX x)→∃ R,Ev (fun k=>exergueref11_Short.l0 k c ((wC (c.take i):Nat):Int) (i:Int)) R∧(R=true→ShortC c):=by
 have hcl:=hc.lc
 induction n with
 | zero=>
  intro i hi hw hlow
  have q1:¬ ((i:Nat):Int)<(c.length:Int):=by omega
  rw [List.take_of_length_le (by omega)] at hw hlow ⊢
  refine ⟨true,Ev_shift ?_,fun _=>⟨hw,hlow⟩⟩
  simp only [exergueref11_Short.l0,if_neg q1]
  exact Ev.now _
 | succ n ih=>
  intro i hi hw hlow
  have hlt:i<c.length:=by omega
  have q1:((i:Nat):Int)<(c.length:Int):=by omega
  have w1:wrap64 (((wC (c.take i):Nat):Int)+1)=((wC (c.take i)+1:Nat):Int):=by rw [w64 _ (by omega) (by omega)];omega
  have hs:wC (c.take (i+1))=wC (c.take i)+1+((c[i]).map wR).sum:=by
   unfold wC
   rw [List.take_succ_eq_append_getElem hlt,List.map_append,List.sum_append]
   simp [wRow]
   omega
  obtain ⟨R,hR1,hR2⟩:=short_l1 hc hlt (wC (c.take i)+1) (by omega) (P:=fun R=>R=true→ShortC c) (fun h1 h2=>by
   have:=ih (i+1) (by omega) (by omega) (fun row hrow x hx=>by
    rw [List.take_succ_eq_append_getElem hlt] at hrow
    rcases List.mem_append.1 hrow with hr|hr
    · exact hlow row hr x hx
    rw [List.mem_singleton.1 hr] at hx;exact h1 x hx)
   rw [hs] at this
   exact this) (fun h=>by cases h) (c[i]).length 0 (by omega) (.inr ⟨rfl,by omega⟩) (by simp)
  refine ⟨R,Ev_shift ?_,hR2⟩
  simp only [exergueref11_Short.l0,if_pos q1,w1]
  simpa using hR1
theorem short_ev:∃ R,Ev (fun k=>exergueref11_Short.f k c) R∧(R=true→ShortC c):=by
 unfold exergueref11_Short.f
 exact short_l0 hc c.length 0 (by omega) (by simp [wC]) (by simp)
end
theorem ShortC.txt {c:List (List Rl)}(h:ShortC c)(ho:OkC c):TxtOk c:=by
 refine ⟨by have:=h.w;omega,fun row hr x hx=>?_⟩
 obtain ⟨o1,o2,o3⟩:=(ho.2 row hr).2 x hx
 obtain ⟨l1,l2⟩:=h.n row hr x hx
 refine ⟨wf_u8 o1,⟨l1,(wf_i64 o2).2⟩,fun r hrr=>?_⟩
 exact ⟨⟨(l2 r hrr).1,(wf_i64 (o3.2 r hrr).1).2⟩,⟨(l2 r hrr).2,(wf_i64 (o3.2 r hrr).2).2⟩⟩
end
end Go.Proofs.YtgfajgkjbckkgaaGreatDoor.PZ
end
section
noncomputable section
namespace Go.Proofs.YtgfajgkjbckkgaaGreatDoor.PZ
open Go.RowKit Go.Proofs.YtgfajgkjbckkgaaGreatDoorW.PrintWords Go.Proofs.YtgfajgkjbckkgaaGreatDoorW.PrintLast Go.Proofs.YtgfajgkjbckkgaaGreatDoorW.PrintMore
attribute [local go_sem] max2_int min2_int max_two min_two max_three min_three max_four min_four   -- for this text's walks alone
end Go.Proofs.YtgfajgkjbckkgaaGreatDoor.PZ
end
end
section
noncomputable section
namespace Go.Proofs.YtgfajgkjbckkgaaGreatDoor.PZ
open Go.RowKit Go.Proofs.YtgfajgkjbckkgaaGreatDoorW.PrintWords Go.Proofs.YtgfajgkjbckkgaaGreatDoorW.PrintLast Go.Proofs.YtgfajgkjbckkgaaGreatDoorW.PrintMore
attribute [local go_sem] max2_int min2_int max_two min_two max_three min_three max_four min_four   -- for this text's walks alone
end Go.Proofs.YtgfajgkjbckkgaaGreatDoor.PZ
end
end
