/- Texts of this seat, joined. Conditions: none beyond each statement's own. -/
import Derived.Test.YtgfajgkjbckkgaaGreatDoorPd15
import Derived.WalkMore
set_option linter.all false
section
set_option maxRecDepth 100000
namespace Go.Proofs.YtgfajgkjbckkgaaGreatDoor.PZ
open Go.RowKit Go.Proofs.YtgfajgkjbckkgaaGreatDoorW.PrintWords Go.Proofs.YtgfajgkjbckkgaaGreatDoorW.PrintLast
section
theorem rd_rel (w0:World)(hG:GL w0)(g:Nat)(s:ByteArray)(a:Nat)(W:World)(h:Rdr W g s a true)(hB:Below w0.heap.size w0 W)(hg0:w0.heap.size≤g)(ha:a≤s.size)(hs:s.size≤1000000) :
    Calls Tryz.prog 66 #[.pointer (some ⟨g,0,none⟩)] W (RelOut W g s a):=by
 have hs':s.size≤140737488351232:=by omega
 have hd:∀ n m,(((bytesOf s).drop a).drop n).drop m=(bytesOf s).drop (a+n+m):=fun n m=>by rw [List.drop_drop,List.drop_drop];congr 1;omega
 have hd1:∀ n,((bytesOf s).drop a).drop n=(bytesOf s).drop (a+n):=fun n=>List.drop_drop ..
 unfold RelOut relP
 rcases hop:opP ((bytesOf s).drop a) with ⟨_|c,n⟩
 · exact rel_noop g s a n W h ha hs' hop
 simp only [hd1]
 rcases hm:modP ((bytesOf s).drop (a+n)) with ⟨_|v,m⟩
 ·refine (rel_nomod w0 hG g s a n m c W h hB hg0 ha hs' hop hm).mono ?_
  rintro e W' ⟨h1,h2⟩
  exact ⟨h1,by rw [← Nat.add_assoc];exact h2⟩
 simp only
 refine (rel_rest w0 hG g s a n m c v W h hB hg0 ha hs hop hm).mono ?_
 intro e W' hr
 unfold RestOut at hr
 rw [← Nat.add_assoc]
 rcases hn:notP ((bytesOf s).drop (a+n+m)) with ⟨_|nt,j⟩
 ·rw [hn] at hr
  simp only at hr ⊢
  exact ⟨hr.1,by rw [← Nat.add_assoc,← Nat.add_assoc];exact hr.2⟩
 rw [hn] at hr
 simp only at hr ⊢
 unfold RngOut at hr
 rw [← Nat.add_assoc,← Nat.add_assoc]
 rcases hg:rngP ((bytesOf s).drop (a+n+m+j)) with ⟨_|l,i⟩
 ·rw [hg] at hr
  simp only at hr ⊢
  exact ⟨hr.1,by rw [show a+(n+m+j+i)=a+n+m+j+i by omega];exact hr.2⟩
 rw [hg] at hr
 simp only at hr ⊢
 obtain ⟨v3,h1,h2,h3⟩:=hr
 exact ⟨v3,h1,h2,by rw [show a+(n+m+j+i)=a+n+m+j+i by omega];exact h3⟩
abbrev kRow:Kd (List Rl):=Kd.slice 60 k60
structure ParSt (w:World)(s:ByteArray)(a:Nat)(b:Bool)(v:Value)(C:List (List Rl))(wr:World):Prop where
  rd:Rdr wr w.heap.size s a b
  row:Kd.S kRow 61 wr w.heap.size (fun k=>k≠w.heap.size) v C
  bel:Below w.heap.size w wr
structure ParX (w:World)(s:ByteArray)(a:Nat)(b:Bool)(v:Value)(C:List (List Rl))(x:Rl)(v3:Value)(N:Nat)(wr:World):Prop where
  rd:Rdr wr w.heap.size s a b
  row:Kd.S kRow 61 wr w.heap.size (fun k=>k≠w.heap.size∧k<N) v C
  bel:Below w.heap.size w wr
  rg:Kd.R k57 57 wr N (fun k=>k≠w.heap.size) v3 x.f3
section
variable {w wr W2:World}{s:ByteArray}{a a':Nat}{b b':Bool}{v v3:Value}{C:List (List Rl)}{x:Rl}{N:Nat}
theorem ParSt.call (h:ParSt w s a b v C wr)(k:RdTo wr w.heap.size s a' b' W2):ParSt w s a' b' v C W2:=
  ⟨k.1,Kd.S_grown h.row k.2 (fun q hq e=>hq (zE e)),pw_below_grown h.bel (some w.heap.size) h.bel.size k.2 (fun q e=>by cases e;exact Nat.le_refl _)⟩
theorem ParSt.read (h:ParSt w s a b v C wr)(k:RdTo wr w.heap.size s a' b' W2)(hr:Kd.R k57 57 W2 wr.heap.size (fun k=>k≠w.heap.size) v3 x.f3):ParX w s a' b' v C x v3 wr.heap.size W2:=
  ⟨k.1,Kd.S_grown (Kd.S_mono (Kd.S_bound h.row) (fun q hq=>⟨hq.1,hq.2.2.1⟩)) k.2 (fun q hq e=>hq.1 (zE e)),(h.call k).bel,hr⟩
theorem ParX.alloc (h:ParX w s a b v C x v3 N wr)(o:Obj):ParX w s a b v C x v3 N (wr.alloc o):=
  ⟨h.rd.alloc o,Kd.S_alloc h.row o,h.bel.alloc h.bel.size o,Kd.R_alloc h.rg o⟩
theorem ParX.old (h:ParX w s a b v C x v3 N wr):ParSt w s a b v C wr:=⟨h.rd,Kd.S_mono h.row (fun _ hk=>hk.1),h.bel⟩
theorem ParX.lend {gc i cap:Nat}(h:ParX w s a b (.slice (some ⟨gc,0,none⟩) (i+1) cap) C x v3 N wr)(hN:w.heap.size≤N)(hNw:N≤wr.heap.size):∃ (oki:Nat→Prop) (A:Option Addr) (c:Nat) (row:List Rl),
    row=C.getD i []∧wr.cell? ⟨gc,i,none⟩=some (.slice A row.length c)∧wr.frozen? ⟨gc,i,none⟩=false∧Kd.R k60 60 wr w.heap.size oki (.slice A row.length c) row ∧
    (∀ k,(Value.slice A row.length c).ownBlock=some k→k≠w.heap.size∧k<N∧k≠gc) ∧
    ∀ (v1:Value) (w1:World),Kd.R k60 60 w1 w.heap.size (fun k=>oki k∨(k≠w.heap.size∧N≤k)) v1 (row ++ [x])→Below w.heap.size w w1→wr.grownBy w1 (Value.slice A row.length c).ownBlock →
      ParSt w s a b (.slice (some ⟨gc,0,none⟩) (i+1) cap) (C.set i (row ++ [x])) (w1.setCell ⟨gc,i,none⟩ v1)∧w1.cell? ⟨gc,i,none⟩=some (.slice A row.length c)∧w1.frozen? ⟨gc,i,none⟩=false:=by
 have hnl:=(Kd.S_reads' h.row).1
 obtain ⟨oki,c,hcl,hM,hcc,hfr,hoki,hH⟩:=Kd.S_elem h.row ([]:List Rl) (i:Int) (by omega) (by omega)
 simp only [Int.toNat_natCast] at hM hcc hfr
 obtain ⟨vr,rfl,hR⟩:=hM
 obtain ⟨A,cc,e⟩:=Kd.R_slice hR
 subst e
 have hz:kRow.sz=1:=rfl
 have c0:=hcc 0 _ rfl
 have f0:=hfr 0
 rw [hz,Nat.mul_one,Nat.add_zero] at c0 f0
 have hown:∀ k,(Value.slice A (C.getD i []).length cc).ownBlock=some k→oki k:=fun k hk=>hR.1 k hk
 refine ⟨oki,A,cc,C.getD i [],rfl,c0,f0,hR,fun k hk=>⟨(hoki k (hown k hk)).1.1,(hoki k (hown k hk)).1.2,(hoki k (hown k hk)).2⟩,fun v1 w1 hR1 hb hg=>?_⟩
 have hH1:=Kd.H_grown hH hg hown
 have hH2:=Kd.H_mono (ok':=fun k=>k≠w.heap.size∧¬ (k≠w.heap.size∧N≤k∧k≠gc)) hH1 (fun k hk=>⟨hk.1,fun z=>by omega⟩)
 have hgcN:gc<N:=by
  have:=(Kd.R_bound (Kd.S_R h.row)).1 gc rfl
  exact this.1.2
 have hseg:=Kd.S_seg (okg:=fun k=>k≠w.heap.size∧N≤k∧k≠gc) hH2 (by omega) (by omega) (seg:=[v1]) (j:=0) (by rw [hz];simp) (x':=C.getD i [] ++ [x]) (okp:=fun k=>oki k∨(k≠w.heap.size∧N≤k))
  ⟨v1,rfl,hR1⟩ (fun k hk=>by
    rcases hk with hk|hk
    · exact .inl hk
    · exact .inr ⟨hk.1,hk.2,by omega⟩) (fun k hk=>⟨hk.1,hk.2.2⟩)
 simp only [Int.toNat_natCast,hz,Nat.mul_one,Nat.add_zero] at hseg
 have hne:gc≠w.heap.size:=by
  have:=(Kd.R_bound (Kd.S_R h.row)).1 gc rfl
  exact this.1.1
 have hlt:gc<wr.heap.size:=by omega
 have hrd:Rdr w1 w.heap.size s a b:=blk_grown h.rd hg (fun e=>(hoki _ (hown _ e.symm)).1.1 rfl)
 have hge:w.heap.size≤gc:=(Kd.R_bound (Kd.S_R h.row)).1 gc rfl |>.2.1
 refine ⟨⟨?_,hseg.1,hb.setCell (p:=⟨gc,i,none⟩) hge _⟩,?_,?_⟩
 · exact (Below.heap_setCell w1 ⟨gc,i,none⟩ v1 w.heap.size (fun e=>hne e.symm)).trans hrd
 ·have hne2:some gc≠(Value.slice A (C.getD i []).length cc).ownBlock:=fun e=>(hoki _ (hown _ e.symm)).2 rfl
  rw [hg.cell_far ⟨gc,i,none⟩ hlt hne2]
  exact c0
 have hne2:some gc≠(Value.slice A (C.getD i []).length cc).ownBlock:=fun e=>(hoki _ (hown _ e.symm)).2 rfl
 rw [hg.frozen_far ⟨gc,i,none⟩ hlt hne2]
 exact f0
end
end
def ParseOut (w:World)(p:List (List Rl)×Int×Int)(e:Ending)(w':World):Prop:=
  ∃ v0,e = .returned (.tuple #[v0,.int .i64 p.2.1,.int .i64 p.2.2])∧Kd.R kRow 61 w' w.heap.size (fun _=>True) v0 p.1∧Below w.heap.size w w'
set_option maxHeartbeats 1000000 in
set_option maxRecDepth 100000 in
theorem parse_long (s:ByteArray)(w:World)(h:400<s.size)(hs:s.size≤140737488351232) :
    Calls Tryz.prog 39 #[.string s] w (ParseOut w ([],0,11)):=by
 have g1:decide ((s.size:Int)>400)=true:=zC (by omega)
 have g2:decide (400<s.size)=true:=zC h
 have g3:decide ((400:Int)<(s.size:Int))=true:=zC (by omega)
 clear h
 go_enter Tryz.func39,Tryz.ntmps39
 go_wp2
 go_step3
 go_wp2
 rw [Exit.noGoto_ret]
 go_ret3
 exact ⟨_,rfl,Kd.R_nil _ _ _ _ _,Below.refl _ _⟩
def EndSays (s:ByteArray)(a:Nat)(b:Bool)(C:List (List Rl))(fl:Bool):Prop:=
  (b=false∧relsP (bytesOf s)=(none,a))∨(b=true∧∃ r N,relsP (bytesOf s)=(some r,N)∧C=rowsOf [] r∧fl=fullP r)
structure ParOn (s:ByteArray)(a:Nat)(pre:List (Rl×Bool))(gg:Nat):Prop where
  le:a≤s.size
  len:pre.length≤a
  fuel:s.size+1 - a≤gg
  eq:relsP (bytesOf s)=combR pre a (relsP ((bytesOf s).drop a))
theorem bel_drew {B:Nat}{w W:World}(h:Below B w W):Below B w W.drew:=⟨h.os,h.tape,h.output,h.size,h.block⟩
theorem grown_undrew {W W':World}{r:Option Nat}(h:W.drew.grownBy W' r):W.grownBy W' r:=⟨h.os,h.tape,h.output,h.size,h.block⟩
theorem ParSt.fresh {w wr:World}{s:ByteArray}{a:Nat}{b:Bool}{v:Value}{C:List (List Rl)}(h:ParSt w s a b v C wr):∀ k,wr.heap.size≤k→k≠w.heap.size:=by
 intro k hk
 have:=blk_lt h.rd
 omega
theorem ParSt.grow {w wr w1:World}{s:ByteArray}{a:Nat}{b:Bool}{v v1:Value}{C C':List (List Rl)}(h:ParSt w s a b v C wr)(hS:Kd.S kRow 61 w1 w.heap.size (fun k=>k≠w.heap.size) v1 C')(hb:Below w.heap.size w w1)(hg:wr.grownBy w1 v.ownBlock):ParSt w s a b v1 C' w1:=
  ⟨blk_grown h.rd hg (fun e=>(Kd.R_bound (Kd.S_R h.row)).1 _ e.symm |>.1 rfl),hS,hb⟩
theorem bytes_inj {s t:ByteArray}(h:bytesOf s=bytesOf t):s=t:=by
 unfold bytesOf at h
 have h1:s.data.toList=t.data.toList:=by
  refine List.map_inj_right (f:=fun b:UInt8=>(b.toNat:Int)) ?_ |>.1 h
  intro x y hxy
  exact UInt8.toNat_inj.1 (Int.ofNat_inj.1 hxy)
 have h2:s.data=t.data:=by rw [← Array.toArray_toList (xs:=s.data),h1,Array.toArray_toList]
 cases s;cases t;simpa using h2
def rule_Parse.T10:Bool×List (List Nat×List Nat):=(true,[([],[]),([],[]),([1],[1]),([2],[2]),([],[]),([],[]),([5],[5]),([6],[6]),([4,7],[4,7]),([8],[8]),([],[]),([10],[10]),([9,11],[9,11]),([0,3,0,1,2,3,4,5,6,7,8,9,10,11,12],[0,3]),([13,12,12,0,1,2,3,4,5,6,7,8,9,10,11,12],[12,13])])
def rule_Parse.B10:List Nat:=[0,0,2,6,0,0,32,96,240,496,0,1024,4080,8191,16383]
theorem rule_Parse.tab10:rtab .any (opsOf Tryz.f39 10)=rule_Parse.T10:=by kernel_rfl
theorem rule_Parse.bits10:waitsOk rule_Parse.T10.2 rule_Parse.B10=true:=by kernel_rfl
structure ParB (w:World)(s:ByteArray)(a:Nat)(v:Value)(C:List (List Rl))(x:Rl)(v3:Value)(N gx:Nat)(wc:World):Prop where
  st:ParX w s a true v C x v3 N wc
  bx:wc.heap[gx]?=some (.cells #[.int .u8 x.f0,.int .i64 x.f1,.bool x.f2,v3] 60 (0,0))
  h1:w.heap.size≤N
  h2:N≤wc.heap.size
  h3:N≤gx
set_option maxHeartbeats 8000000 in
set_option maxRecDepth 100000 in
theorem parse_walk (s:ByteArray)(w:World)(hG:GL w)(hs:s.size≤400) :
    Calls Tryz.prog 39 #[.string s] w (ParseOut w (parseP (bytesOf s))):=by
 have hs2:s.size≤1000000:=by omega
 have g1:decide ((s.size:Int)>400)=false:=zD (by omega)
 have g2:decide (400<s.size)=false:=zD (by omega)
 have g3:decide ((400:Int)<(s.size:Int))=false:=zD (by omega)
 have HG:=zA hG
 have HS0:=zA hs
 have HR:=zA (fun (a:Nat) (W:World) (h:Rdr W w.heap.size s a true) (hB:Below w.heap.size w W) (ha:a≤s.size)=>rd_rel w hG w.heap.size s a W h hB (Nat.le_refl _) ha hs2)
 have HW:=zA (fun (a:Nat) (W:World) (h:Rdr W w.heap.size s a true) (ha:a≤s.size)=>rd_word w.heap.size s a true W h ha (by omega))
 clear hG hs
 go_enter Tryz.func39,Tryz.ntmps39
 go_wp2
 go_step3
 go_wp2_with ((with_reducible refine gate_dst (N:=17) rfl ?_);refine Kd.S_lit kRow (w0:=_) w.heap.size 61 ?hg (N:=17) ?hd (xs:=[([]:List Rl)]) (inner:=[.slice none 0 0]) (ok:=fun k=>k≠w.heap.size) (okp:=fun _=>False) ?hr ?hp (fun _ hk=>hk.elim) ?hf (Below.refl _ _) ?hb (by simp) ?_;(case hd=>rfl);(case hg=>rfl);(case hr=>first|(go_simp;done)|(go_simp;rfl));(case hp=>exact Reps.one (show Kd.M kRow _ _ _ ([]:List Rl) [.slice none 0 0] from ⟨_,rfl,Kd.R_nil _ _ _ _ _⟩) (Reps.none _ _));(case hf=>simp);(case hb=>simp);intro v1 w1 hS1 hb1 hg1 hn1)
 go_step3
 have HS1:=zA (show ParSt w s 0 true v1 [[]] w1 from ⟨blk_grown (heap_alloc_new w _) hg1 (by simp),hS1,((Below.refl _ w).alloc (Nat.le_refl _) _).trans hb1⟩)
 obtain ⟨gc0,cap0,hv1,_⟩:=Kd.S_form hS1 (by simp)
 subst hv1
 clear hS1 hb1 hg1 hn1
 go_upto_block 0 with (fail)
 go_cut [6,8] (fun c f wc=>∃ (a:Nat) (b:Bool) (v:Value) (C:List (List Rl)) (fl:Bool),c=v∧f = .bool fl∧Aside0 (ParSt w s a b v C wc)∧Aside0 (EndSays s a b C fl))
 case first=>
  go_wp2
  go_loopg [6,7,8] (s.size+2) (fun gg c m f wr=>∃ (a:Nat) (pre:List (Rl×Bool)) (gc i cap:Nat),c = .slice (some ⟨gc,0,none⟩) (i+1) cap∧m = .int .i64 (pre.length:Int)∧f = .bool (fullP pre)∧Aside0 (ParSt w s a true (.slice (some ⟨gc,0,none⟩) (i+1) cap) (rowsOf [] pre) wr)∧Aside0 (ParOn s a pre gg))
  case atStart=>exact ⟨0,[],gc0,0,cap0,rfl,rfl,rfl,HS1,⟨⟨Nat.zero_le _,Nat.zero_le _,by omega,by rw [combR_nil,List.drop_zero]⟩⟩⟩
  case round=>
   clear HS1
   obtain ⟨a,pre,gc,i,cap,rfl,rfl,rfl,HS,HO⟩:=hrel
   have hrl:=HR.out a _ HS.out.rd HS.out.bel HO.out.le
   unfold RelOut at hrl
   rcases hx:relP ((bytesOf s).drop a) with ⟨_|x,n⟩
   ·rw [hx] at hrl
    simp only at hrl
    have HEND:=zA (show EndSays s (a+n) false (rowsOf [] pre) (fullP pre) from .inl ⟨rfl,by rw [HO.out.eq,rels_none hx];rfl⟩)
    clear hx
    go_upto_region 6 with (fail)
    go_cut [] (fun wc=>Aside0 (ParSt w s (a+n) false (.slice (some ⟨gc,0,none⟩) (i+1) cap) (rowsOf [] pre) wc))
    case first=>
     go_wp2_with (go_at_call 66;refine hrl.mono ?_;rintro e W2 ⟨⟨ch,m,nt,A,k,cc,rfl⟩,hr⟩;have HS2:=zA (HS.out.call hr);clear hr)
     go_meet
     case rel=>exact ⟨⟨HS2.out.rd.alloc _,Kd.S_alloc HS2.out.row _,HS2.out.bel.alloc HS2.out.bel.size _⟩⟩
    case rest=>
     clear HS hrl
     have HS:=hcut
     obtain ⟨c0,c1,c2,f1,f2⟩:=HS.out.rd.c
     go_wp2
     go_meet
     case rel=>exact ⟨a+n,false,_,_,_,rfl,rfl,HS,HEND⟩
   rw [hx] at hrl
   simp only at hrl
   have hn:=(rel_pos hx).1
   have hnl:a+n≤s.size:=by
    have:=rel_le' hx
    have:=HO.out.le
    rw [List.length_drop,bytesOf_length] at *
    omega
   have hd:((bytesOf s).drop a).drop n=(bytesOf s).drop (a+n):=List.drop_drop ..
   have ha1:=run_size isBl s _ hnl
   change a+n+bl ((bytesOf s).drop (a+n))≤s.size at ha1
   have hb1:bl ((bytesOf s).drop (a+n+bl ((bytesOf s).drop (a+n))))=0:=by rw [← bl_drop,bl_bl]
   have HX:=zA hx
   have HD:=zA hd
   obtain ⟨a1,hA1⟩:∃ a1,a+n+bl ((bytesOf s).drop (a+n))=a1:=⟨_,rfl⟩
   rw [hA1] at hrl ha1 hb1
   have HA1:=zA hA1
   have HB1:=zA hb1
   clear hx hd hA1 hb1
   have hpl:pre.length≤400:=by have:=HO.out.len;have:=HO.out.le;have:=HS0.out;omega
   go_upto_region 6 with (fail)
   go_cut [9] (fun p wc=>∃ (gx N:Nat) (A3:Option Addr) (c3:Nat),p = .pointer (some ⟨gx,0,none⟩)∧Aside0 (ParB w s a1 (.slice (some ⟨gc,0,none⟩) (i+1) cap) (rowsOf [] pre) x (.slice A3 x.f3.length c3) N gx wc))
   case first=>
    go_wp2_with (go_at_call 66;refine hrl.mono ?_;rintro e W2 ⟨v3,rfl,hrg,hr⟩;obtain ⟨A3,c3,e3⟩:=Kd.R_slice hrg;subst e3;have HX2:=zA (HS.out.read hr hrg);have HSZ:=zA hr.2.size;clear hr hrg)
    go_meet
    case rel=>exact ⟨W2.heap.size,_,A3,c3,rfl,⟨HX2.out.alloc _,heap_alloc_new W2 _,HS.out.bel.size,by have:=HSZ.out;simp;omega,HSZ.out⟩⟩
   case rest=>
    have HS9:=HS
    clear HS hrl
    obtain ⟨gx,N,A3,c3,rfl,HP⟩:=hcut
    obtain ⟨c0,c1,c2,f1,f2⟩:=HP.out.st.rd.c
    have b3:wc.cell? ⟨gx,3,none⟩=some (.slice A3 x.f3.length c3):=(blk_cell HP.out.bx 3).trans rfl
    go_upto_region 9 with (fail)
    go_cut [8] (fun f wc=>f = .bool (fullP (pre ++ [(x,false)]))∧Aside0 (ParB w s a1 (.slice (some ⟨gc,0,none⟩) (i+1) cap) (rowsOf [] pre) x (.slice A3 x.f3.length c3) N gx wc))
    case first=>
     have HF:=zA (fullP_snoc pre x false)
     generalize fullP pre=fl at *
     cases h1:decide (20<x.f3.length) <;> cases h2:decide (20<pre.length+1) <;> cases fl
     all_goals
      rw [h1,h2] at HF
      have k1:=(show decide ((20:Int)<(x.f3.length:Int))=decide (20<x.f3.length) from decide_eq_decide.2 (by omega)).trans h1
      have k2:=(show decide ((20:Int)<(pre.length:Int)+1)=decide (20<pre.length+1) from decide_eq_decide.2 (by omega)).trans h2
      go_wp2
      go_meet
      case rel=>exact ⟨by rw [HF.out];rfl,HP⟩
    case rest=>
     clear HP b3 c0 c1 c2 f1 f2
     obtain ⟨rfl,HP⟩:=hcut
     obtain ⟨oki,A,cr,row,hrow,hc0,hf0,hRr,hown,hput⟩:=HP.out.st.lend HP.out.h1 HP.out.h2
     have b0:wc.cell? ⟨gx,0,none⟩=some (.int .u8 x.f0):=(blk_cell HP.out.bx 0).trans rfl
     have b1:wc.cell? ⟨gx,1,none⟩=some (.int .i64 x.f1):=(blk_cell HP.out.bx 1).trans rfl
     have b2:wc.cell? ⟨gx,2,none⟩=some (.bool x.f2):=(blk_cell HP.out.bx 2).trans rfl
     have b3:wc.cell? ⟨gx,3,none⟩=some (.slice A3 x.f3.length c3):=(blk_cell HP.out.bx 3).trans rfl
     have HROW:=zA hRr
     have HPUT:=zA hput
     have HOWN:=zA hown
     have HRW:=zA hrow
     have HLT:=zA (blk_lt HP.out.bx)
     have HXN:=zA HP.out.h3
     clear hRr hput hown hrow
     have HLEN:=zA (show (rowsOf [] pre).length - 1=i from by have h1:=(Kd.S_reads' HP.out.st.row).1;omega)
     have hi9:i≤400:=by
      have h1:=(Kd.S_reads' HP.out.st.row).1
      have h2:=rowsOf_len [] pre
      omega
     have i1:(i:Int)+1 - 1=(i:Int):=by omega
     have i2:IntKind.i64.wrap ((i:Int)+1 - 1)=(i:Int):=by rw [i1,IntKind.wrap_i64];omega
     have i5:IntKind.i64.wrap (((i+1:Nat):Int) - 1)=(i:Int):=by rw [show ((i+1:Nat):Int) - 1=(i:Int) by omega,IntKind.wrap_i64];omega
     have i6:((i+1:Nat):Int) - 1=(i:Int):=by omega
     have i3:(0:Int)≤(i:Int):=by omega
     have i4:(i:Int)<(i:Int)+1:=by omega
     have i7:(i:Int)<((i+1:Nat):Int):=by omega
     have i8:i<i+1:=by omega
     have i9:(i:Int).toNat=i:=by omega
     have i0:IntKind.i64.wrap (i:Int)=(i:Int):=by rw [IntKind.wrap_i64];omega
     go_upto_region 10 with (fail)
     go_cut [] (fun wc=>Aside0 (ParSt w s a1 true (.slice (some ⟨gc,0,none⟩) (i+1) cap) (rowsOf [] (pre ++ [(x,false)])) wc))
     case first=>
      have HOKP:=zA (show ∀ k,(k≠w.heap.size∧N≤k)→(oki k∨(k≠w.heap.size∧N≤k))∧some k≠(Value.slice A row.length cr).ownBlock from fun k hk=>⟨.inr hk,fun e=>by have:=(HOWN.out k e.symm).2.1;omega⟩)
      have HFR:=zA (show ∀ k,wc.drew.heap.size≤k→oki k∨(k≠w.heap.size∧N≤k) from fun k hk=>.inr (by
       have h1:=blk_lt HP.out.st.rd
       have h2:=HP.out.h2
       have h3:wc.heap.size≤k:=hk
       omega))
      have HXM:=zA (show Kd.M k60 wc.drew w.heap.size (fun k=>k≠w.heap.size∧N≤k) x [.int .u8 x.f0,.int .i64 x.f1,.bool x.f2,.slice A3 x.f3.length c3] from k60_mkM _ _ _ x (Kd.R_drew (Kd.R_lower (Kd.R_mono (Kd.R_bound HP.out.st.rg) (fun k hk=>⟨hk.1,hk.2.1⟩)) HP.out.h1)))
      have HRO:=zA (show Kd.R k60 60 wc.drew w.heap.size (fun k=>oki k∨(k≠w.heap.size∧N≤k)) (.slice A row.length cr) row from Kd.R_drew (Kd.R_mono HROW.out (fun k hk=>.inl hk)))
      have HRL:=zA (show (row.length+1) * 48≤140737488355328 from by
       have:=rowsOf_row pre [] i
       rw [← HRW.out] at this
       simp only [List.length_nil] at this
       omega)
      have HBE:=zA (bel_drew HP.out.st.bel)
      have HGX:=zA (show some gx≠(Value.slice A row.length cr).ownBlock from fun e=>by
       have h1:=(HOWN.out gx e.symm)
       have h2:=HXN.out
       omega)
      refine start_ (n:=15) (S:=fun w'=>w'.cell? ⟨gc,i,none⟩=some (.slice A row.length cr)∧w'.cell? ⟨gx,0,none⟩=some (.int .u8 x.f0)∧w'.cell? ⟨gx,1,none⟩=some (.int .i64 x.f1)∧w'.cell? ⟨gx,2,none⟩=some (.bool x.f2)∧w'.cell? ⟨gx,3,none⟩=some (.slice A3 x.f3.length c3)) (ds:=[14]) (bZ 15 0) (by kernel_rfl) rfl (by kernel_rfl) ⟨hc0,b0,b1,b2,b3⟩ (fun hHeld=>?_)
      refine with_tabW rule_Parse.tab10 rule_Parse.bits10 (fun HT_ HW_=>?_)
      refine pure_ (i:=0) (N:=some 38) (v:=?_) (a':=?_) (bZ 15 1) rfl rfl (any_of HT_.out (by kernel_rfl)) (fun _ _ _ h=>h) (Or.inl ⟨by rfl,?_⟩) ?_ ?_
      rotate_left
      ·intro w'
       go_simp
       with_reducible rfl
      rotate_left
      ·simp only [Act.put,List.setIfInBounds_toArray,List.set_cons_zero,List.set_cons_succ,i64_w,i32_w]
       rfl
      refine pure_ (i:=1) (N:=some 39) (v:=?_) (a':=?_) (bZ 15 3) rfl rfl (any_of HT_.out (by kernel_rfl)) (fun _ _ _ h=>h) (Or.inl ⟨by rfl,?_⟩) ?_ ?_
      rotate_left
      ·intro w'
       go_simp
       with_reducible rfl
      rotate_left
      ·simp only [Act.put,List.setIfInBounds_toArray,List.set_cons_zero,List.set_cons_succ,i64_w,i32_w]
       rfl
      refine pure_ (i:=2) (N:=some 40) (v:=?_) (a':=?_) (bZ 15 7) rfl rfl (any_of HT_.out (by kernel_rfl)) (fun _ _ _ h=>h) (Or.inl ⟨by rfl,?_⟩) ?_ ?_
      rotate_left
      ·intro w'
       go_simp
       with_reducible rfl
      rotate_left
      ·simp only [Act.put,List.setIfInBounds_toArray,List.set_cons_zero,List.set_cons_succ,i64_w,i32_w]
       rfl
      refine pure_ (i:=3) (N:=some 41) (v:=?_) (a':=?_) (bZ 15 15) rfl rfl (any_of HT_.out (by kernel_rfl)) (fun _ _ _ h=>h) (Or.inl ⟨by rfl,?_⟩) ?_ ?_
      rotate_left
      ·intro w'
       go_simp
       with_reducible rfl
      rotate_left
      ·simp only [Act.put,List.setIfInBounds_toArray,List.set_cons_zero,List.set_cons_succ,i64_w,i32_w]
       rfl
      refine pure_ (i:=4) (N:=some 42) (v:=?_) (a':=?_) (bZ 15 31) rfl rfl (any_of HT_.out (by kernel_rfl)) (fun _ _ _ h=>h) (Or.inl ⟨by rfl,?_⟩) ?_ ?_
      rotate_left
      ·intro w'
       go_simp
       with_reducible rfl
      rotate_left
      ·simp only [Act.put,List.setIfInBounds_toArray,List.set_cons_zero,List.set_cons_succ,i64_w,i32_w]
       rfl
      refine pure_ (i:=5) (N:=some 43) (v:=?_) (a':=?_) (bZ 15 63) rfl rfl (any_of HT_.out (by kernel_rfl)) (fun _ _ _ h=>h) (Or.inl ⟨by rfl,?_⟩) ?_ ?_
      rotate_left
      ·intro w'
       go_simp
       with_reducible rfl
      rotate_left
      ·simp only [Act.put,List.setIfInBounds_toArray,List.set_cons_zero,List.set_cons_succ,i64_w,i32_w]
       rfl
      refine pure_ (i:=6) (N:=some 44) (v:=?_) (a':=?_) (bZ 15 127) rfl rfl (any_of HT_.out (by kernel_rfl)) (fun _ _ _ h=>h) (Or.inl ⟨by rfl,?_⟩) ?_ ?_
      rotate_left
      ·intro w'
       go_simp
       with_reducible rfl
      rotate_left
      ·simp only [Act.put,List.setIfInBounds_toArray,List.set_cons_zero,List.set_cons_succ,i64_w,i32_w]
       rfl
      refine pure_ (i:=7) (N:=some 45) (v:=?_) (a':=?_) (bZ 15 255) rfl rfl (any_of HT_.out (by kernel_rfl)) (fun _ _ _ h=>h) (Or.inl ⟨by rfl,?_⟩) ?_ ?_
      rotate_left
      ·intro w'
       go_simp
       with_reducible rfl
      rotate_left
      ·simp only [Act.put,List.setIfInBounds_toArray,List.set_cons_zero,List.set_cons_succ,i64_w,i32_w]
       rfl
      refine pure_ (i:=8) (N:=some 46) (v:=?_) (a':=?_) (bZ 15 511) rfl rfl (any_of HT_.out (by kernel_rfl)) (fun _ _ _ h=>h) (Or.inl ⟨by rfl,?_⟩) ?_ ?_
      rotate_left
      ·intro w'
       go_simp
       with_reducible rfl
      rotate_left
      ·simp only [Act.put,List.setIfInBounds_toArray,List.set_cons_zero,List.set_cons_succ,i64_w,i32_w]
       rfl
      refine take_ (i:=9) (N:=some 47) (v:=?_) (a':=?_) (bZ 15 1023) rfl rfl (take_ofW HT_.out HW_.out (by kernel_rfl)) (fun _ _ _ h=>h) (Or.inl ⟨by rfl,?_⟩) hHeld ?_ ?_
      rotate_left
      ·rintro w' ⟨s0,s1,s2,s3,s4⟩
       go_simp
       with_reducible rfl
      rotate_left
      ·simp only [Act.put,List.setIfInBounds_toArray,List.set_cons_zero,List.set_cons_succ,i64_w,i32_w]
       rfl
      refine take_ (i:=10) (N:=some 48) (v:=?_) (a':=?_) (bZ 15 2047) rfl rfl (take_ofW HT_.out HW_.out (by kernel_rfl)) (fun _ _ _ h=>h) (Or.inl ⟨by rfl,?_⟩) hHeld ?_ ?_
      rotate_left
      ·rintro w' ⟨s0,s1,s2,s3,s4⟩
       go_simp
       with_reducible rfl
      rotate_left
      ·simp only [Act.put,List.setIfInBounds_toArray,List.set_cons_zero,List.set_cons_succ,i64_w,i32_w]
       rfl
      refine one_ (i:=11) (N:=some 49) (bZ 15 4095) rfl rfl (one_of HT_.out (by kernel_rfl)) (by decide) (fun K hK=>?_)
      refine value_ (w1:=?_) (v:=?_) (by rfl) rfl ?_ ?_
      rotate_left 2
      ·go_simp
       constructor
       · rfl
       rfl
      refine hK.out _ _ ⟨pw_cell_below ((Below.refl _ wc.drew).alloc (Nat.le_refl _) _) hc0,pw_cell_below ((Below.refl _ wc.drew).alloc (Nat.le_refl _) _) b0,pw_cell_below ((Below.refl _ wc.drew).alloc (Nat.le_refl _) _) b1,pw_cell_below ((Below.refl _ wc.drew).alloc (Nat.le_refl _) _) b2,pw_cell_below ((Below.refl _ wc.drew).alloc (Nat.le_refl _) _) b3⟩ (fun hHeld=>?_)
      clear hK K
      refine norm_ (a':=?_) ?_ ?_
      rotate_left
      ·show Act.put _ (some 49) _=_
       simp only [Act.put,List.setIfInBounds_toArray,List.set_cons_zero,List.set_cons_succ,i64_w,i32_w]
       rfl
      refine one_ (i:=12) (N:=some 50) (bZ 15 8191) rfl rfl (one_of HT_.out (by kernel_rfl)) (by decide) (fun K hK=>?_)
      refine Kd.R_append_step k60 (w0:=w) w.heap.size (by rfl) (.tmp 47) (.tmp 49) 61 60 (.agg #[(.int .u8 0),(.int .i64 0),(.bool false),(.slice none 0 0)]) 48 rfl Tryz.underlying61 info60 rfl (by decide) (by omega) (.slice A row.length cr) row x [.int .u8 x.f0,.int .i64 x.f1,.bool x.f2,.slice A3 x.f3.length c3] (fun k=>oki k∨(k≠w.heap.size∧N≤k)) (fun k=>k≠w.heap.size∧N≤k) (by rfl) (by rfl) HXM.out HOKP.out HFR.out HRO.out HBE.out HBE.out.size HRL.out ?_
      intro v9 w9 ho9 hb9 hg9 hat9
      obtain ⟨A9,c9,e9⟩:=Kd.R_slice ho9
      subst e9
      obtain ⟨hst,hc9,hf9⟩:=HPUT.out _ w9 ho9 hb9 (grown_undrew hg9)
      have HST:=zA hst
      have q0:=(World.grownBy.cell_far hg9 ⟨gx,0,none⟩ HLT.out HGX.out).trans b0
      have q1:=(World.grownBy.cell_far hg9 ⟨gx,1,none⟩ HLT.out HGX.out).trans b1
      have q2:=(World.grownBy.cell_far hg9 ⟨gx,2,none⟩ HLT.out HGX.out).trans b2
      have q3:=(World.grownBy.cell_far hg9 ⟨gx,3,none⟩ HLT.out HGX.out).trans b3
      clear ho9 hb9 hg9 hat9 hst
      refine hK.out _ _ ⟨hc9,q0,q1,q2,q3⟩ (fun hHeld=>?_)
      clear hK K
      refine norm_ (a':=?_) ?_ ?_
      rotate_left
      ·show Act.put _ (some 50) _=_
       simp only [Act.put,List.setIfInBounds_toArray,List.set_cons_zero,List.set_cons_succ,i64_w,i32_w]
       rfl
      refine pure_ (i:=13) (N:=some 51) (v:=?_) (a':=?_) (bZ 15 16383) rfl rfl (any_of HT_.out (by kernel_rfl)) (fun _ _ _ h=>h) (Or.inl ⟨by rfl,?_⟩) ?_ ?_
      rotate_left
      ·intro w'
       go_simp
       with_reducible rfl
      rotate_left
      ·simp only [Act.put,List.setIfInBounds_toArray,List.set_cons_zero,List.set_cons_succ,i64_w,i32_w]
       rfl
      refine last_ (i:=14) (N:=none) (bZ 15 32767) rfl rfl (one_of HT_.out (by kernel_rfl)) (by decide) (fun K hK=>?_)
      refine skip_ (w1:=?_) (by rfl) rfl ?_ ?_
      rotate_left
      ·go_simp
       rfl
      refine hK.out _ _ ?_
      clear hK K
      refine done_ (done_of HT_.out (by kernel_rfl)) ?_
      try go_wp2
      go_meet
      case rel=>
       have h9:=HST.out
       simp only [List.length_append,List.length_cons,List.length_nil,Nat.zero_add] at h9
       rw [rowsOf_and x pre [],show (rowsOf [] pre).length - 1=i from HLEN.out,← HRW.out]
       exact ⟨h9⟩
     case rest=>
      have hw:=HW.out a1 wc hcut.out.rd ha1
      have hfar:farTo isLo s a1=a1+runL isLo ((bytesOf s).drop a1):=by unfold farTo;rw [HB1.out,Nat.add_zero]
      rw [HB1.out,Nat.add_zero,hfar] at hw
      have hq:bytesOf (s.extract a1 (a1+runL isLo ((bytesOf s).drop a1)))=wordP ((bytesOf s).drop a1):=by rw [bytes_cut,Nat.add_sub_cancel_left];rfl
      generalize s.extract a1 (a1+runL isLo ((bytesOf s).drop a1))=q at hw hq
      have hda:((bytesOf s).drop a).drop (n+bl (((bytesOf s).drop a).drop n))=(bytesOf s).drop a1:=by rw [List.drop_drop,HD.out,← Nat.add_assoc,HA1.out]
      have hna:a+(n+bl (((bytesOf s).drop a).drop n))=a1:=by rw [HD.out,← Nat.add_assoc,HA1.out]
      by_cases hend:a1=s.size
      ·have k1:((a1:Int) == (s.size:Int))=true:=zH (by omega)
       have HEND:=zA (show EndSays s a1 true (rowsOf [] (pre ++ [(x,false)])) (fullP (pre ++ [(x,false)])) from .inr ⟨rfl,_,_,by
        rw [HO.out.eq,rels_end HX.out (by rw [hda,List.drop_of_length_le (by rw [bytesOf_length];omega)])]
        rfl,rfl,rfl⟩)
       clear hfar hq hda hna hend
       go_wp2_with (go_at_call 67;refine hw.mono ?_;rintro e W2 ⟨rfl,hr⟩;have HS2:=zA (hcut.out.call hr);obtain ⟨c0,c1,c2,f1,f2⟩:=HS2.out.rd.c;clear hr)
       go_meet
       case rel=>exact ⟨a1,true,_,_,_,rfl,rfl,HS2,HEND⟩
      have k1:((a1:Int) == (s.size:Int))=false:=zF (by omega)
      have hne:((bytesOf s).drop a).drop (n+bl (((bytesOf s).drop a).drop n))≠[]:=by
       rw [hda]
       intro z
       have:=congrArg List.length z
       rw [List.length_drop,bytesOf_length] at this
       simp at this
       omega
      have hlow:=runL_le isLo ((bytesOf s).drop a1)
      rw [List.length_drop,bytesOf_length] at hlow
      by_cases hor:wordP ((bytesOf s).drop a1)=wordOr
      ·have h2:a1+2≤s.size:=by
        have:=congrArg List.length hor
        unfold wordP at this
        rw [List.length_take,List.length_drop,bytesOf_length] at this
        simp [wordOr] at this
        omega
       have hON:=zA (show ∀ gg',gk≤gg'+1→ParOn s (a1+2) (pre ++ [(x,true)]) gg' from fun gg' hgg=>⟨h2,by have:=HO.out.len;simp;omega,by have:=HO.out.fuel;omega,by
        rw [HO.out.eq,rels_or HX.out hne (by rw [hda];exact hor),combR_combR]
        rw [show a+(n+bl (((bytesOf s).drop a).drop n)+2)=a1+2 by omega,List.drop_drop]
        congr 2
        congr 1
        omega⟩)
       have hfu:=HO.out.fuel
       have hale:=HO.out.le
       rw [hor] at hq
       obtain rfl:=bytes_inj (show bytesOf q=bytesOf ⟨#[111,114]⟩ from hq)
       have HF:=zA (show fullP (pre ++ [(x,false)])=fullP (pre ++ [(x,true)]) from by rw [fullP_snoc,fullP_snoc])
       have HRO2:=zA (show ((rowsOf [] (pre ++ [(x,false)])).length+1) * 24≤140737488355328 from by
        have:=rowsOf_len [] (pre ++ [(x,false)])
        simp only [List.length_append,List.length_cons,List.length_nil] at this
        omega)
       clear hfar hq hda hna hne hor hlow
       go_wp2_with (first
        | (go_at_call 67;refine hw.mono ?_;rintro e W2 ⟨rfl,hr⟩;have HS2:=zA (hcut.out.call hr);obtain ⟨c0,c1,c2,f1,f2⟩:=HS2.out.rd.c;clear hr)
        | ((with_reducible refine gate_builtin (b:=.append) (xs:=#[.tmp 68,.tmp 69]) rfl ?_);at_builtin;refine Kd.S_append kRow (w0:=w) w.heap.size rfl (.tmp 68) (.tmp 69) 44 61 (.slice none 0 0) 24 rfl Tryz.underlying44 info61 rfl (by decide) (by omega) _ _ ([]:List Rl) [.slice none 0 0] (fun k=>k≠w.heap.size) (fun _=>False) rfl rfl ⟨_,rfl,Kd.R_nil _ _ _ _ _⟩ (fun _ hk=>hk.elim) HS2.out.fresh (Kd.S_mono HS2.out.row (fun k hk=>⟨hk,fun z=>z⟩)) HS2.out.bel HS2.out.bel.size HRO2.out ?_;intro v9 w9 ho9 hb9 hg9 hat9;have HS3:=zA (HS2.out.grow ho9 hb9 hg9);obtain ⟨c0,c1,c2,f1,f2⟩:=HS3.out.rd.c;obtain ⟨A9,c9,e9⟩:=Kd.S_slice ho9;subst e9;clear ho9 hb9 hg9 hat9))
       obtain ⟨g9,c8,e8,_⟩:=Kd.S_form HS3.out.row (by simp)
       injection e8 with e81 e82 e83
       subst e81
       subst e83
       go_roundg (gk - 1)
       case measure=>omega
       case rel=>
        have h9:=HS3.out.call ((RdTo.start HS3.out.rd).put (y:=(a1:Int)+2) (x:=a1+2) (by omega))
        rw [← rowsOf_orr x pre []] at h9
        have hl9:(rowsOf [] (pre ++ [(x,true)])).length=(rowsOf [] (pre ++ [(x,false)])).length+1:=by rw [rowsOf_orr x pre []];simp
        rw [hl9] at h9
        exact ⟨a1+2,pre ++ [(x,true)],g9,(rowsOf [] (pre ++ [(x,false)])).length,c9,by first|rfl|(simp;done),by simp,by rw [HF.out],⟨h9⟩,⟨hON.out _ (by omega)⟩⟩
      by_cases hand:wordP ((bytesOf s).drop a1)=wordAnd
      ·have h2:a1+3≤s.size:=by
        have:=congrArg List.length hand
        unfold wordP at this
        rw [List.length_take,List.length_drop,bytesOf_length] at this
        simp [wordAnd] at this
        omega
       have hON:=zA (show ∀ gg',gk≤gg'+1→ParOn s (a1+3) (pre ++ [(x,false)]) gg' from fun gg' hgg=>⟨h2,by have:=HO.out.len;simp;omega,by have:=HO.out.fuel;omega,by
        rw [HO.out.eq,rels_and HX.out hne (by rw [hda];exact hand),combR_combR]
        rw [show a+(n+bl (((bytesOf s).drop a).drop n)+3)=a1+3 by omega,List.drop_drop]
        congr 2
        congr 1
        omega⟩)
       have hfu:=HO.out.fuel
       have hale:=HO.out.le
       rw [hand] at hq
       obtain rfl:=bytes_inj (show bytesOf q=bytesOf ⟨#[97,110,100]⟩ from hq)
       clear hfar hq hda hna hne hor hand hlow
       go_wp2_with (go_at_call 67;refine hw.mono ?_;rintro e W2 ⟨rfl,hr⟩;have HS2:=zA (hcut.out.call hr);obtain ⟨c0,c1,c2,f1,f2⟩:=HS2.out.rd.c;clear hr)
       go_roundg (gk - 1)
       case measure=>omega
       case rel=>exact ⟨a1+3,pre ++ [(x,false)],gc,i,cap,rfl,by simp,rfl,⟨HS2.out.call ((RdTo.start HS2.out.rd).put (x:=a1+3) (by omega))⟩,⟨hON.out _ (by omega)⟩⟩
      have HEND:=zA (show EndSays s a1 false (rowsOf [] (pre ++ [(x,false)])) (fullP (pre ++ [(x,false)])) from .inl ⟨rfl,by
       rw [HO.out.eq,rels_bad HX.out hne (by rw [hda];exact hor) (by rw [hda];exact hand)]
       show (none,a+(n+bl (((bytesOf s).drop a).drop n)))=_
       rw [hna]⟩)
      have t5:(q.toList == [111,114])=false:=zF (fun z=>hor (by rw [← hq];unfold bytesOf;rw [← ByteArray.toList_eq,z];rfl))
      have t6:(q.toList == [97,110,100])=false:=zF (fun z=>hand (by rw [← hq];unfold bytesOf;rw [← ByteArray.toList_eq,z];rfl))
      have t3:(q.toList == (⟨#[111,114]⟩:ByteArray).toList)=false:=by rw [show (⟨#[111,114]⟩:ByteArray).toList=[111,114] from ByteArray.toList_eq _];exact t5
      have t4:(q.toList == (⟨#[97,110,100]⟩:ByteArray).toList)=false:=by rw [show (⟨#[97,110,100]⟩:ByteArray).toList=[97,110,100] from ByteArray.toList_eq _];exact t6
      have t1:(q == ⟨#[111,114]⟩)=false:=by rw [beq_toListBytes];exact t3
      have t2:(q == ⟨#[97,110,100]⟩)=false:=by rw [beq_toListBytes];exact t4
      clear hfar hq hda hna hne hor hand hlow
      go_wp2_with (go_at_call 67;refine hw.mono ?_;rintro e W2 ⟨rfl,hr⟩;have HS2:=zA (hcut.out.call hr);obtain ⟨c0,c1,c2,f1,f2⟩:=HS2.out.rd.c;clear hr)
      go_meet
      case rel=>exact ⟨a1,false,_,_,_,rfl,rfl,⟨HS2.out.call ((RdTo.start HS2.out.rd).bad false)⟩,HEND⟩
 case rest=>
  obtain ⟨a,b,v,C,fl,rfl,rfl,HS,HE⟩:=hcut
  clear HS1
  have hs4:=HS0.out
  obtain ⟨Av,cv,ev⟩:=Kd.S_slice HS.out.row
  subst ev
  rcases HE.out with ⟨rfl,hp⟩|⟨rfl,r,N,hp,rfl,rfl⟩
  ·have HP:=zA (show parseP (bytesOf s)=([],(a:Int),2) from by
    unfold parseP
    rw [bytesOf_length,if_neg (by omega),hp])
   clear hp HE hs4
   obtain ⟨c0,c1,c2,f1,f2⟩:=HS.out.rd.c
   go_wp2
   repeat (go_quiet (fail);try go_wp2)
   rw [Exit.noGoto_ret]
   go_ret3
   rw [HP.out]
   exact ⟨_,rfl,Kd.R_nil _ _ _ _ _,by first|exact pw_below_drewN HS.out.bel _|exact HS.out.bel⟩
  cases hf:fullP r with
  | true=>
   have HP:=zA (show parseP (bytesOf s)=([],0,11) from by
    unfold parseP
    rw [bytesOf_length,if_neg (by omega),hp]
    simp only [hf,if_true])
   clear hp HE hs4
   obtain ⟨c0,c1,c2,f1,f2⟩:=HS.out.rd.c
   go_wp2
   rw [Exit.noGoto_ret]
   go_ret3
   rw [HP.out]
   exact ⟨_,rfl,Kd.R_nil _ _ _ _ _,HS.out.bel⟩
  | false=>
   have HP:=zA (show parseP (bytesOf s)=(rowsOf [] r,0,0) from by
    unfold parseP
    rw [bytesOf_length,if_neg (by omega),hp]
    simp only [hf,Bool.false_eq_true,if_false])
   clear hp HE hs4
   obtain ⟨c0,c1,c2,f1,f2⟩:=HS.out.rd.c
   have HF:=zA hf
   go_wp2
   rw [Exit.noGoto_ret]
   go_ret3
   rw [HP.out]
   exact ⟨_,rfl,Kd.R_mono (Kd.S_R HS.out.row) (fun _ _=>trivial),HS.out.bel⟩
def rule_Parse.f (a0:ByteArray):Option (List (List S60)×Int×Int):=if a0.size≤140737488351232 then some (parseP (bytesOf a0)) else none
theorem rule_Parse.calls (a0:ByteArray)(r1:List (List S60))(r2 r3:Int)(w:World)(hG:GL w)(h:rule_Parse.f a0=some (r1,r2,r3)) :
    Calls Tryz.prog 39 #[.string a0] w fun e w'=>∃ v1_:Value,e = .returned (.tuple #[v1_,.int .i64 r2,.int .i64 r3])∧Kd.R (Kd.slice 60 k60) 61 w' w.heap.size (fun _=>True) v1_ r1∧Below w.heap.size w w':=by
 unfold rule_Parse.f at h
 by_cases hs:a0.size≤140737488351232
 ·rw [if_pos hs] at h
  have hp:=zE h
  have key:Calls Tryz.prog 39 #[.string a0] w (ParseOut w (parseP (bytesOf a0))):=by
   by_cases hl:400<a0.size
   ·have:parseP (bytesOf a0)=([],0,11):=by unfold parseP;rw [bytesOf_length,if_pos hl]
    rw [this]
    exact parse_long a0 w hl hs
   exact parse_walk a0 w hG (by omega)
  rw [hp] at key
  exact key
 rw [if_neg hs] at h
 cases h
end Go.Proofs.YtgfajgkjbckkgaaGreatDoor.PZ
end
