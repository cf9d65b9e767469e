/- Texts of this seat, joined. Conditions: none beyond each statement's own. -/
import Derived.Test.YtklebhlanidloaaGreatDoorD17
set_option linter.all false
section
set_option maxRecDepth 100000
namespace Go.Proofs.YtklebhlanidloaaGreatDoor.PZ
open Go.RowKit Go.Proofs.YtklebhlanidloaaGreatDoorW.PrintWords Go.Proofs.YtklebhlanidloaaGreatDoorW.PrintLast
def patPl.T:Bool×List (List Nat×List Nat):=(true,[([],[]),([],[]),([],[]),([2],[2]),([],[]),([4],[4]),([3,5],[3,5]),([6],[6]),([0,0],[0]),([1,8,0,1,8],[1]),([7,9,0,1,2,3,4,5,6,7,8,9],[7])])
def patPl.B:List Nat:=[0,0,0,4,0,16,60,124,1,259,1023]
theorem patPl.tab:rtab .any (opsOf Tryz.f132 25)=patPl.T:=by kernel_rfl
theorem patPl.bits:waitsOk patPl.T.2 patPl.B=true:=by kernel_rfl
theorem int_info:(Tryz.prog.info? 3).map (fun i=>(i.zero,i.size,i.bytes))=some (some (.int .i64 0),1,8):=by kernel_rfl
def GrpOk (gp gr:Nat)(k:Nat):Prop:=k≠gp∧k≠gr
theorem grp_put {g gp gr:Nat}{W W1:World}{base:Nat}{x:Value}{gs:List Int}(h:Kd.R (Kd.int .i64) 3 W base (GrpOk gp gr) x gs)(hb:But g W W1)(hg:g=gp∨g=gr):Kd.R (Kd.int .i64) 3 W1 base (GrpOk gp gr) x gs:=
  Kd.R_step h (fun k hk _=>hb.keep k (by rcases hg with rfl|rfl;exact hk.1;exact hk.2))
theorem pl_cases (l:List Int)(i m n:Int):(atN l i=35∧m=0)∨(atN l i=48)∨(atN l i=44∧0<n∧atN l (i+1)=48)∨(atN l i=44∧0<n∧atN l (i+1)=35∧m=0) ∨
    ((atN l i=35∧m≠0)∨(atN l i=44∧¬ 0<n)∨(atN l i=44∧0<n∧atN l (i+1)=35∧m≠0)∨(atN l i=44∧0<n∧atN l (i+1)≠48∧atN l (i+1)≠35)∨(atN l i≠35∧atN l i≠48∧atN l i≠44)):=by
 by_cases h1:atN l i=35 <;> by_cases h2:atN l i=48 <;> by_cases h3:atN l i=44 <;> by_cases h4:0<n <;> by_cases h5:atN l (i+1)=48 <;> by_cases h6:atN l (i+1)=35 <;> by_cases h7:m=0 <;> simp_all <;> omega
theorem cell_but {g:Nat}{W W1:World}{p:Addr}(hb:But g W W1)(hp:p.block≠g):W1.cell? p=W.cell? p:=by
 unfold World.cell?
 rw [hb.keep _ hp]
theorem atN_in {l:List Int}{i:Nat}{x:Int}(h:atN l i=x)(hx:0≤x):i<l.length:=by
 unfold atN at h
 split at h <;> omega
set_option maxHeartbeats 4000000 in
set_option maxRecDepth 100000 in
theorem places_c (s:PS)(v:V4)(A:Option Addr)(c:Nat)(l:List Int)(i0:Int)(w:World)(hr:Kd.C (Kd.int .i32) w A l.length l)(hc:l.length≤c)
    (h0:0≤i0) (hi:i0≤l.length+2) (hl:l.length≤1000) (hh:0≤s.hash∧s.hash≤1000) (hm:0≤s.minInt∧s.minInt≤1000) :
    Calls Tryz.prog 132 #[s.val v,.slice A l.length c,.int .i64 i0] w (GotP w (placesO s l i0) v):=by
 have KA:=zA (fun (i:Int) (h:0≤i) W (hb:Below w.heap.size w W)=>at_c A c l i W (Kd.C_below hr hb) hc h)
 obtain ⟨X,hX⟩:∃ X,placesL l (l.length+3 - i0.toNat) s.hash s.minInt 0 [] i0=X:=⟨_,rfl⟩
 have hP:placesO s l i0=plFin s X:=by unfold placesO;rw [hX]
 rw [hP]
 obtain ⟨i1,rfl⟩:=Int.eq_ofNat_of_zero_le h0
 rw [Int.toNat_natCast] at hX
 have HX:=zA hX
 clear hX hP hr h0
 go_enter Tryz.func132,Tryz.ntmps132
 go_wp2_with (first|((with_reducible refine gate_dst (N:=3) rfl ?_);refine pat_box rfl rfl rfl s v rfl ?_;intro gp w1 hgp hbp hb1;have BX:=zA (And.intro hgp (And.intro hbp hb1));clear hgp hbp hb1)|((with_reducible refine gate_dst (N:=6) rfl ?_);refine pat_alloc rfl rfl rfl ?_;intro gr w2 hgr hbr hb2;have ST:=zA (PSt.start BX.out.1 BX.out.2.1 BX.out.2.2 hgr hbr hb2);clear BX hgr hbr hb2))
 have hGS:gp≠gr∧w.heap.size≤gp∧w.heap.size≤gr:=⟨ST.out.ne,ST.out.hp,ST.out.hr⟩
 have HGS:=zA hGS
 have hst:s={ s with hash:=s.hash,minInt:=s.minInt }:=rfl
 clear hGS hst
 go_loopg [2,9,10] (l.length+2) (fun gg s2 s9 s10 wr=>∃ (i n:Nat) (h m:Int) (gs:List Int),s2 = .int .i64 i∧s10 = .int .i64 n∧i≤l.length+2∧n≤i∧0≤h∧h≤1000+i∧0≤m∧m≤1000+i∧gs.length≤i∧l.length+2 - i≤gg∧Aside0 (placesL l (l.length+3 - i) h m n gs i=X)∧Aside0 (PSt w wr gp gr { s with hash:=h,minInt:=m } v PS.zero V4.nil)∧Aside0 (Kd.R (Kd.int .i64) 3 wr w.heap.size (GrpOk gp gr) s9 gs))
 case atStart=>exact ⟨i1,0,s.hash,s.minInt,[],rfl,rfl,by omega,by omega,hh.1,by omega,hm.1,by omega,by simp,by omega,HX,ST,⟨Kd.R_nil _ _ _ _ _⟩⟩
 case round=>
  clear ST HX
  obtain ⟨i,n,h,m,gs,rfl,rfl,hi2,hn,hh0,hh1,hm0,hm1,hgl,hgg,HX,ST,HR⟩:=hrel
  have hw1:IntKind.i64.wrap ((i:Int)+1)=(i:Int)+1:=by rw [IntKind.wrap_i64];omega
  have hp0:(0:Int)≤(i:Int)+1:=by omega
  have HC:=zA (pl_cases l i m n)
  obtain ⟨r,hr_⟩:∃ r,atN l i=r:=⟨_,rfl⟩
  obtain ⟨nx,hnx⟩:∃ r,atN l ((i:Int)+1)=r:=⟨_,rfl⟩
  rw [hr_,hnx] at HC
  have K1:=zA (fun W hb=>KA.out (i:Int) (by omega) W hb)
  have K2:=zA (fun W hb=>KA.out ((i:Int)+1) hp0 W hb)
  rw [hr_] at K1
  rw [hnx] at K2
  have HN1:=zA hr_
  have HN2:=zA hnx
  clear hr_ hnx
  obtain ⟨Ag,cg,rfl⟩:=Kd.R_slice HR.out
  have hrin:0≤r→i<l.length:=fun h=>atN_in HN1.out h
  rcases HC.out with ⟨e1,e2⟩|e1|⟨e1,e2,e3⟩|⟨e1,e2,e3,e4⟩|hD
  ·-- #
   have hlt:=hrin (by omega)
   have b1:(r == 35)=true:=zH e1
   have b2:(m == 0)=true:=zH e2
   have hx:placesL l (l.length+3 - (i+1)) (h+1) m ((n+1:Nat):Int) gs ((i+1:Nat):Int)=X:=by
    have q:=HX.out
    rw [show l.length+3 - i=(l.length+3 - (i+1))+1 by omega,placesL,if_pos ⟨by rw [HN1.out,e1],e2⟩] at q
    exact q
   have HX2:=zA hx
   clear hx e1 e2 hrin HC
   go_wp2_with (first|(go_at_call 88;(with_reducible refine (K1.out _ ST.out.b).mono ?_);rintro e w3 ⟨rfl,hb3⟩;replace ST:=zA (ST.out.below hb3);replace HR:=zA (Kd.R_below HR.out hb3);clear hb3)|(go_at_call 88;(with_reducible refine (K2.out _ ST.out.b).mono ?_);rintro e w4 ⟨rfl,hb4⟩;replace ST:=zA (ST.out.below hb4);replace HR:=zA (Kd.R_below HR.out hb4);clear hb4;have c5:World.cell? _ ⟨gp,5,none⟩=some (.int .i64 h):=ST.out.p.cell 5;have c6:World.cell? _ ⟨gp,6,none⟩=some (.int .i64 m):=ST.out.p.cell 6;have f5:=ST.out.p.free 5)|((with_reducible refine gate_store (t:=3) (p:=30) rfl ?_);refine pat_field rfl rfl rfl gp 5 (.int .i64 (h+1)) _ ({ s with hash:=h+1,minInt:=m }) _ _ ST.out.p rfl (by first|(go_simp;done)|(go_simp;rfl)) ?_;intro w8 hw8 hbt8;replace ST:=zA (ST.out.put hw8 hbt8);replace HR:=zA (grp_put HR.out hbt8 (.inl rfl));clear hw8 hbt8;clear c5 c6 f5))
   go_roundg (l.length+2 - (i+1))
   case measure=>omega
   case rel=>exact ⟨i+1,n+1,h+1,m,gs,by go_num,by go_num,by omega,by omega,by omega,by omega,by omega,by omega,by omega,by omega,HX2,ST,HR⟩
  ·-- 0
   have hlt:=hrin (by omega)
   have b0:(r == 35)=false:=zF (by omega)
   have b1:(r == 48)=true:=zH e1
   have hx:placesL l (l.length+3 - (i+1)) h (m+1) ((n+1:Nat):Int) gs ((i+1:Nat):Int)=X:=by
    have q:=HX.out
    rw [show l.length+3 - i=(l.length+3 - (i+1))+1 by omega,placesL,if_neg (by rw [HN1.out];omega),if_pos (by rw [HN1.out,e1])] at q
    exact q
   have HX2:=zA hx
   clear hx e1 hrin HC
   go_wp2_with (first|(go_at_call 88;(with_reducible refine (K1.out _ ST.out.b).mono ?_);rintro e w3 ⟨rfl,hb3⟩;replace ST:=zA (ST.out.below hb3);replace HR:=zA (Kd.R_below HR.out hb3);clear hb3)|(go_at_call 88;(with_reducible refine (K2.out _ ST.out.b).mono ?_);rintro e w4 ⟨rfl,hb4⟩;replace ST:=zA (ST.out.below hb4);replace HR:=zA (Kd.R_below HR.out hb4);clear hb4;have c6:World.cell? _ ⟨gp,6,none⟩=some (.int .i64 m):=ST.out.p.cell 6;have f6:=ST.out.p.free 6)|((with_reducible refine gate_store (t:=3) (p:=40) rfl ?_);refine pat_field rfl rfl rfl gp 6 (.int .i64 (m+1)) _ ({ s with hash:=h,minInt:=m+1 }) _ _ ST.out.p rfl (by first|(go_simp;done)|(go_simp;rfl)) ?_;intro w8 hw8 hbt8;replace ST:=zA (ST.out.put hw8 hbt8);replace HR:=zA (grp_put HR.out hbt8 (.inl rfl));clear hw8 hbt8;clear c6 f6))
   go_roundg (l.length+2 - (i+1))
   case measure=>omega
   case rel=>exact ⟨i+1,n+1,h,m+1,gs,by go_num,by go_num,by omega,by omega,by omega,by omega,by omega,by omega,by omega,by omega,HX2,ST,HR⟩
  ·--,
   have hlt:=hrin (by omega)
   have b0:(r == 35)=false:=zF (by omega)
   have b1:(r == 48)=false:=zF (by omega)
   have b2:(r == 44)=true:=zH e1
   have b3:decide (0<n)=true:=zC (by omega)
   have b4:(nx == 48)=true:=zH e3
   have hC:atN l i=44∧0<(n:Int)∧(atN l ((i:Int)+1)=48∨atN l ((i:Int)+1)=35∧m=0):=by rw [HN1.out,HN2.out];omega
   have hx:=HX.out
   rw [show l.length+3 - i=(l.length+3 - (i+1))+1 by omega,placesL,if_neg (by rw [HN1.out];omega),if_neg (by rw [HN1.out];omega),if_pos hC] at hx
   clear hC HC hrin e1 e2 e3
   by_cases h2:2≤gs.length
   ·have b8:decide (2≤gs.length)=true:=zC h2
    obtain ⟨_,_,hgr⟩:=Kd.R_reads' HR.out
    obtain ⟨ag,hag,hgc⟩:=Kd.at_int hgr 1 (by omega) (by omega)
    have hgc2:wr.cell? ⟨ag.block,ag.off+1,none⟩=some (.int .i64 (rd gs 1)):=by simpa [Addr.add] using hgc
    subst hag
    have HGC:=zA hgc2
    have hp1:(1:Int)<(gs.length:Int):=by omega
    by_cases h3:rd gs 1=(n:Int)
    ·have b9:(rd gs 1 == (n:Int))=true:=zH h3
     rw [if_neg (by omega)] at hx
     have HX2:=zA hx
     clear hx h3 hgc hgc2 hgr
     go_wp2_with (first|(go_at_call 88;(with_reducible refine (K1.out _ ST.out.b).mono ?_);rintro e w3 ⟨rfl,hb3⟩;replace ST:=zA (ST.out.below hb3);replace HR:=zA (Kd.R_below HR.out hb3);have HB3:=zA hb3;clear hb3)|(go_at_call 88;(with_reducible refine (K2.out _ ST.out.b).mono ?_);rintro e w4 ⟨rfl,hb4⟩;replace ST:=zA (ST.out.below hb4);replace HR:=zA (Kd.R_below HR.out hb4);have HB4:=zA (HB3.out.trans (hb4.mono HB3.out.size));clear hb4;have c6:World.cell? _ ⟨gp,6,none⟩=some (.int .i64 m):=ST.out.p.cell 6;have hg1:=(HB4.out.cell (World.block_lt_of_cell? wr _ HGC.out)).trans HGC.out)|((with_reducible refine gate_builtin (b:=.append) (xs:=#[.tmp 76,.tmp 78]) rfl ?_);at_builtin;refine Kd.R_append (Kd.int .i64) (w0:=w) w.heap.size rfl (.tmp 76) (.tmp 78) 97 3 (.int .i64 0) 8 rfl Tryz.underlying97 int_info rfl (by decide) (by omega) _ gs (n:Int) [.int .i64 (n:Int)] (GrpOk gp gr) (fun _=>False) rfl rfl rfl (fun _ hk=>hk.elim) ?aF HR.out ST.out.b ST.out.b.size (by omega) ?_;(case aF=>exact fun k hk=>⟨by have:=ST.out.p.lt;omega,by have:=ST.out.r.lt;omega⟩);intro v8 w8 ho8 hb8 hg8 hat8;replace ST:=zA (ST.out.grown hg8 (Kd.R_ne HR.out ST.out.p (by decide)) (Kd.R_ne HR.out ST.out.r (by decide)) hb8);replace HR:=zA ho8;clear ho8 hb8 hg8 hat8))
     go_roundg (l.length+2 - (i+1))
     case measure=>omega
     case rel=>exact ⟨i+1,0,h,m,gs ++ [(n:Int)],by go_num,by go_num,by omega,by omega,by omega,by omega,by omega,by omega,by simp;omega,by omega,HX2,ST,HR⟩
    have b9:(rd gs 1 == (n:Int))=false:=zF h3
    rw [if_pos ⟨h2,h3⟩] at hx
    rw [← hx,show plFin s none=none from rfl]
    clear hx h3 hgc hgc2 hgr HX
    go_wp2_with (first|(go_at_call 88;(with_reducible refine (K1.out _ ST.out.b).mono ?_);rintro e w3 ⟨rfl,hb3⟩;replace ST:=zA (ST.out.below hb3);replace HR:=zA (Kd.R_below HR.out hb3);have HB3:=zA hb3;clear hb3)|(go_at_call 88;(with_reducible refine (K2.out _ ST.out.b).mono ?_);rintro e w4 ⟨rfl,hb4⟩;replace ST:=zA (ST.out.below hb4);replace HR:=zA (Kd.R_below HR.out hb4);have HB4:=zA (HB3.out.trans (hb4.mono HB3.out.size));clear hb4;have c6:World.cell? _ ⟨gp,6,none⟩=some (.int .i64 m):=ST.out.p.cell 6;have hg1:=(HB4.out.cell (World.block_lt_of_cell? wr _ HGC.out)).trans HGC.out)|(refine pat_load rfl rfl rfl gp rfl _ _ ST.out.p ?_)|(refine pat_store rfl rfl rfl gr rfl _ _ rfl _ _ ST.out.r ?_;intro w9 hw9 hbt9;replace ST:=zA (ST.out.ret hw9 hbt9);clear hw9 hbt9))
    exact bodyPost_ret (pat_results rfl _ gr rfl _ _ ST.out.r) rfl (GotP.none ST.out.b)
   have b8:decide (2≤gs.length)=false:=zD h2
   have b8i:decide (2≤(gs.length:Int))=false:=zD (by omega)
   rw [if_neg (by omega)] at hx
   have HX2:=zA hx
   have h2i:(gs.length:Int)<2:=by omega
   clear hx h2
   go_wp2_with (first|(go_at_call 88;(with_reducible refine (K1.out _ ST.out.b).mono ?_);rintro e w3 ⟨rfl,hb3⟩;replace ST:=zA (ST.out.below hb3);replace HR:=zA (Kd.R_below HR.out hb3);clear hb3)|(go_at_call 88;(with_reducible refine (K2.out _ ST.out.b).mono ?_);rintro e w4 ⟨rfl,hb4⟩;replace ST:=zA (ST.out.below hb4);replace HR:=zA (Kd.R_below HR.out hb4);clear hb4;have c6:World.cell? _ ⟨gp,6,none⟩=some (.int .i64 m):=ST.out.p.cell 6)|((with_reducible refine gate_builtin (b:=.append) (xs:=#[.tmp 76,.tmp 78]) rfl ?_);at_builtin;refine Kd.R_append (Kd.int .i64) (w0:=w) w.heap.size rfl (.tmp 76) (.tmp 78) 97 3 (.int .i64 0) 8 rfl Tryz.underlying97 int_info rfl (by decide) (by omega) _ gs (n:Int) [.int .i64 (n:Int)] (GrpOk gp gr) (fun _=>False) rfl rfl rfl (fun _ hk=>hk.elim) ?aF HR.out ST.out.b ST.out.b.size (by omega) ?_;(case aF=>exact fun k hk=>⟨by have:=ST.out.p.lt;omega,by have:=ST.out.r.lt;omega⟩);intro v8 w8 ho8 hb8 hg8 hat8;replace ST:=zA (ST.out.grown hg8 (Kd.R_ne HR.out ST.out.p (by decide)) (Kd.R_ne HR.out ST.out.r (by decide)) hb8);replace HR:=zA ho8;clear ho8 hb8 hg8 hat8))
   go_roundg (l.length+2 - (i+1))
   case measure=>omega
   case rel=>exact ⟨i+1,0,h,m,gs ++ [(n:Int)],by go_num,by go_num,by omega,by omega,by omega,by omega,by omega,by omega,by simp;omega,by omega,HX2,ST,HR⟩
  ·--,
   have hlt:=hrin (by omega)
   have b0:(r == 35)=false:=zF (by omega)
   have b1:(r == 48)=false:=zF (by omega)
   have b2:(r == 44)=true:=zH e1
   have b3:decide (0<n)=true:=zC (by omega)
   have b4:(nx == 48)=false:=zF (by omega)
   have b5:(nx == 35)=true:=zH e3
   have b6:(m == 0)=true:=zH e4
   have hC:atN l i=44∧0<(n:Int)∧(atN l ((i:Int)+1)=48∨atN l ((i:Int)+1)=35∧m=0):=by rw [HN1.out,HN2.out];omega
   have hx:=HX.out
   rw [show l.length+3 - i=(l.length+3 - (i+1))+1 by omega,placesL,if_neg (by rw [HN1.out];omega),if_neg (by rw [HN1.out];omega),if_pos hC] at hx
   clear hC HC hrin e1 e2 e3 e4
   by_cases h2:2≤gs.length
   ·have b8:decide (2≤gs.length)=true:=zC h2
    obtain ⟨_,_,hgr⟩:=Kd.R_reads' HR.out
    obtain ⟨ag,hag,hgc⟩:=Kd.at_int hgr 1 (by omega) (by omega)
    have hgc2:wr.cell? ⟨ag.block,ag.off+1,none⟩=some (.int .i64 (rd gs 1)):=by simpa [Addr.add] using hgc
    subst hag
    have HGC:=zA hgc2
    have hp1:(1:Int)<(gs.length:Int):=by omega
    by_cases h3:rd gs 1=(n:Int)
    ·have b9:(rd gs 1 == (n:Int))=true:=zH h3
     rw [if_neg (by omega)] at hx
     have HX2:=zA hx
     clear hx h3 hgc hgc2 hgr
     go_wp2_with (first|(go_at_call 88;(with_reducible refine (K1.out _ ST.out.b).mono ?_);rintro e w3 ⟨rfl,hb3⟩;replace ST:=zA (ST.out.below hb3);replace HR:=zA (Kd.R_below HR.out hb3);have HB3:=zA hb3;clear hb3)|(go_at_call 88;(with_reducible refine (K2.out _ ST.out.b).mono ?_);rintro e w4 ⟨rfl,hb4⟩;replace ST:=zA (ST.out.below hb4);replace HR:=zA (Kd.R_below HR.out hb4);have HB4:=zA (HB3.out.trans (hb4.mono HB3.out.size));clear hb4;have c6:World.cell? _ ⟨gp,6,none⟩=some (.int .i64 m):=ST.out.p.cell 6;have hg1:=(HB4.out.cell (World.block_lt_of_cell? wr _ HGC.out)).trans HGC.out)|((with_reducible refine gate_builtin (b:=.append) (xs:=#[.tmp 76,.tmp 78]) rfl ?_);at_builtin;refine Kd.R_append (Kd.int .i64) (w0:=w) w.heap.size rfl (.tmp 76) (.tmp 78) 97 3 (.int .i64 0) 8 rfl Tryz.underlying97 int_info rfl (by decide) (by omega) _ gs (n:Int) [.int .i64 (n:Int)] (GrpOk gp gr) (fun _=>False) rfl rfl rfl (fun _ hk=>hk.elim) ?aF HR.out ST.out.b ST.out.b.size (by omega) ?_;(case aF=>exact fun k hk=>⟨by have:=ST.out.p.lt;omega,by have:=ST.out.r.lt;omega⟩);intro v8 w8 ho8 hb8 hg8 hat8;replace ST:=zA (ST.out.grown hg8 (Kd.R_ne HR.out ST.out.p (by decide)) (Kd.R_ne HR.out ST.out.r (by decide)) hb8);replace HR:=zA ho8;clear ho8 hb8 hg8 hat8))
     go_roundg (l.length+2 - (i+1))
     case measure=>omega
     case rel=>exact ⟨i+1,0,h,m,gs ++ [(n:Int)],by go_num,by go_num,by omega,by omega,by omega,by omega,by omega,by omega,by simp;omega,by omega,HX2,ST,HR⟩
    have b9:(rd gs 1 == (n:Int))=false:=zF h3
    rw [if_pos ⟨h2,h3⟩] at hx
    rw [← hx,show plFin s none=none from rfl]
    clear hx h3 hgc hgc2 hgr HX
    go_wp2_with (first|(go_at_call 88;(with_reducible refine (K1.out _ ST.out.b).mono ?_);rintro e w3 ⟨rfl,hb3⟩;replace ST:=zA (ST.out.below hb3);replace HR:=zA (Kd.R_below HR.out hb3);have HB3:=zA hb3;clear hb3)|(go_at_call 88;(with_reducible refine (K2.out _ ST.out.b).mono ?_);rintro e w4 ⟨rfl,hb4⟩;replace ST:=zA (ST.out.below hb4);replace HR:=zA (Kd.R_below HR.out hb4);have HB4:=zA (HB3.out.trans (hb4.mono HB3.out.size));clear hb4;have c6:World.cell? _ ⟨gp,6,none⟩=some (.int .i64 m):=ST.out.p.cell 6;have hg1:=(HB4.out.cell (World.block_lt_of_cell? wr _ HGC.out)).trans HGC.out)|(refine pat_load rfl rfl rfl gp rfl _ _ ST.out.p ?_)|(refine pat_store rfl rfl rfl gr rfl _ _ rfl _ _ ST.out.r ?_;intro w9 hw9 hbt9;replace ST:=zA (ST.out.ret hw9 hbt9);clear hw9 hbt9))
    exact bodyPost_ret (pat_results rfl _ gr rfl _ _ ST.out.r) rfl (GotP.none ST.out.b)
   have b8:decide (2≤gs.length)=false:=zD h2
   have b8i:decide (2≤(gs.length:Int))=false:=zD (by omega)
   rw [if_neg (by omega)] at hx
   have HX2:=zA hx
   have h2i:(gs.length:Int)<2:=by omega
   clear hx h2
   go_wp2_with (first|(go_at_call 88;(with_reducible refine (K1.out _ ST.out.b).mono ?_);rintro e w3 ⟨rfl,hb3⟩;replace ST:=zA (ST.out.below hb3);replace HR:=zA (Kd.R_below HR.out hb3);clear hb3)|(go_at_call 88;(with_reducible refine (K2.out _ ST.out.b).mono ?_);rintro e w4 ⟨rfl,hb4⟩;replace ST:=zA (ST.out.below hb4);replace HR:=zA (Kd.R_below HR.out hb4);clear hb4;have c6:World.cell? _ ⟨gp,6,none⟩=some (.int .i64 m):=ST.out.p.cell 6)|((with_reducible refine gate_builtin (b:=.append) (xs:=#[.tmp 76,.tmp 78]) rfl ?_);at_builtin;refine Kd.R_append (Kd.int .i64) (w0:=w) w.heap.size rfl (.tmp 76) (.tmp 78) 97 3 (.int .i64 0) 8 rfl Tryz.underlying97 int_info rfl (by decide) (by omega) _ gs (n:Int) [.int .i64 (n:Int)] (GrpOk gp gr) (fun _=>False) rfl rfl rfl (fun _ hk=>hk.elim) ?aF HR.out ST.out.b ST.out.b.size (by omega) ?_;(case aF=>exact fun k hk=>⟨by have:=ST.out.p.lt;omega,by have:=ST.out.r.lt;omega⟩);intro v8 w8 ho8 hb8 hg8 hat8;replace ST:=zA (ST.out.grown hg8 (Kd.R_ne HR.out ST.out.p (by decide)) (Kd.R_ne HR.out ST.out.r (by decide)) hb8);replace HR:=zA ho8;clear ho8 hb8 hg8 hat8))
   go_roundg (l.length+2 - (i+1))
   case measure=>omega
   case rel=>exact ⟨i+1,0,h,m,gs ++ [(n:Int)],by go_num,by go_num,by omega,by omega,by omega,by omega,by omega,by omega,by simp;omega,by omega,HX2,ST,HR⟩
  -- the end
  have hx:=HX.out
  rw [show l.length+3 - i=(l.length+2 - i)+1 by omega,placesL,HN1.out,HN2.out,if_neg (by omega),if_neg (by omega),if_neg (by omega)] at hx
  rw [← hx]
  clear hx HX hrin HC
  rcases hD with ⟨e1,e2⟩|⟨e1,e2⟩|⟨e1,e2,e3,e4⟩|⟨e1,e2,e3,e4⟩|⟨e1,e2,e3⟩
  all_goals
   first
    | have b0:(r == 35)=true:=zH e1
      have b1:(m == 0)=false:=zF e2
      have b2:(r == 48)=false:=zF (by omega)
      have b3:(r == 44)=false:=zF (by omega)
      clear e1 e2
    | have b0:(r == 35)=false:=zF (by omega)
      have b2:(r == 48)=false:=zF (by omega)
      have b3:(r == 44)=true:=zH e1
      have b4:decide (0<n)=false:=zD (by omega)
      have b4i:¬ 0<n:=by omega
      clear e1 e2
    | have b0:(r == 35)=false:=zF (by omega)
      have b2:(r == 48)=false:=zF (by omega)
      have b3:(r == 44)=true:=zH e1
      have b4:decide (0<n)=true:=zC (by omega)
      have b4i:0<n:=by omega
      have b5:(nx == 48)=false:=zF (by omega)
      have b6:(nx == 35)=true:=zH e3
      have b7:(m == 0)=false:=zF e4
      clear e1 e2 e3 e4
    | have b0:(r == 35)=false:=zF (by omega)
      have b2:(r == 48)=false:=zF (by omega)
      have b3:(r == 44)=true:=zH e1
      have b4:decide (0<n)=true:=zC (by omega)
      have b4i:0<n:=by omega
      have b5:(nx == 48)=false:=zF e3
      have b6:(nx == 35)=false:=zF e4
      clear e1 e2 e3 e4
    | have b0:(r == 35)=false:=zF e1
      have b2:(r == 48)=false:=zF e2
      have b3:(r == 44)=false:=zF e3
      clear e1 e2 e3
   rcases Nat.lt_trichotomy gs.length 1 with hq|hq|hq
   ·have q1:(gs.length == 1)=false:=zF (by omega)
    have q1i:((gs.length:Int) == 1)=false:=zF (by omega)
    have q2:¬ 1<(gs.length:Int):=by omega
    go_wp2_with (first|(go_at_call 88;(with_reducible refine (K1.out _ ST.out.b).mono ?_);rintro e w3 ⟨rfl,hb3⟩;replace ST:=zA (ST.out.below hb3);replace HR:=zA (Kd.R_below HR.out hb3);clear hb3)|(go_at_call 88;(with_reducible refine (K2.out _ ST.out.b).mono ?_);rintro e w4 ⟨rfl,hb4⟩;replace ST:=zA (ST.out.below hb4);replace HR:=zA (Kd.R_below HR.out hb4);clear hb4;have c6:World.cell? _ ⟨gp,6,none⟩=some (.int .i64 m):=ST.out.p.cell 6))
    have SD:=zA ST.out.drew
    refine start_ (n:=11) (S:=fun w'=>PBox gp { s with hash:=h,minInt:=m } v w') (ds:=[]) (bZ 11 0) (by kernel_rfl) rfl (by kernel_rfl) SD.out.p (fun hHeld=>?_)
    clear ST;have ST:=SD;clear SD
    refine with_tabW patPl.tab patPl.bits (fun HT_ HW_=>?_)
    refine p1 1 99 2 HT_ (v:=?_) ?_ (a':=?_) ?_ ?_
    rotate_left
    ·intro w';go_simp;with_reducible rfl
    rotate_left
    ·simp only [Act.put,sA,sB,sC,i64_w,i32_w];rfl
    refine p1 2 100 6 HT_ (v:=?_) ?_ (a':=?_) ?_ ?_
    rotate_left
    ·intro w';go_simp;with_reducible rfl
    rotate_left
    ·simp only [Act.put,sA,sB,sC,i64_w,i32_w];rfl
    refine p1 4 102 22 HT_ (v:=?_) ?_ (a':=?_) ?_ ?_
    rotate_left
    ·intro w';go_simp;with_reducible rfl
    rotate_left
    ·simp only [Act.put,sA,sB,sC,i64_w,i32_w];rfl
    refine p2 0 98 23 HT_ HW_ (v:=?_) ?_ hHeld (a':=?_) ?_ ?_
    rotate_left
    ·intro w' hs;refine (pat_load_run (by rfl) gp (by rfl) _ _ hs).trans ?_;with_reducible rfl
    rotate_left
    ·simp only [Act.put,sA,sB,sC,i64_w,i32_w];rfl
    refine p2 3 101 31 HT_ HW_ (v:=?_) ?_ hHeld (a':=?_) ?_ ?_
    rotate_left
    ·intro w' hs;have q:World.cell? w' ⟨gp,5,none⟩=some (.int .i64 h):=hs.cell 5;clear hs;go_simp;with_reducible rfl
    rotate_left
    ·simp only [Act.put,sA,sB,sC,i64_w,i32_w];rfl
    refine p2 5 103 63 HT_ HW_ (v:=?_) ?_ hHeld (a':=?_) ?_ ?_
    rotate_left
    ·intro w' hs;have q:World.cell? w' ⟨gp,6,none⟩=some (.int .i64 m):=hs.cell 6;clear hs;go_simp;with_reducible rfl
    rotate_left
    ·simp only [Act.put,sA,sB,sC,i64_w,i32_w];rfl
    refine p1 6 104 127 HT_ (v:=?_) ?_ (a':=?_) ?_ ?_
    rotate_left
    ·intro w';go_simp;with_reducible rfl
    rotate_left
    ·simp only [Act.put,sA,sB,sC,i64_w,i32_w];rfl
    refine p1 7 105 255 HT_ (v:=?_) ?_ (a':=?_) ?_ ?_
    rotate_left
    ·intro w';go_simp;with_reducible rfl
    rotate_left
    ·simp only [Act.put,sA,sB,sC,i64_w,i32_w];rfl
    refine one_ (i:=8) (N:=none) (bZ 11 511) rfl rfl (one_of HT_.out (by kernel_rfl)) (by decide) (fun K hK=>?_)
    refine pat_store_step (by rfl) rfl rfl gr rfl _ _ rfl _ _ ST.out.r ?_
    intro w7 hw7 hb7
    replace ST:=zA (ST.out.ret hw7 hb7)
    clear hw7 hb7 hHeld
    refine hK.out _ _ ST.out.p (fun hHeld=>?_)
    clear hK K
    refine p1 9 7 1023 HT_ (v:=?_) ?_ (a':=?_) ?_ ?_
    rotate_left
    ·intro w';go_simp;with_reducible rfl
    rotate_left
    ·simp only [Act.put,sA,sB,sC,i64_w,i32_w];rfl
    refine p1 10 8 2047 HT_ (v:=?_) ?_ (a':=?_) ?_ ?_
    rotate_left
    ·intro w';go_simp;with_reducible rfl
    rotate_left
    ·simp only [Act.put,sA,sB,sC,i64_w,i32_w];rfl
    refine done_ (done_of HT_.out (by kernel_rfl)) ?_
    go_wp2
    refine bodyPost_ret (pat_results rfl _ gr rfl _ _ ST.out.r) rfl ?_
    show GotP w (plFin s (some (h,m,(n:Int),gs,(i:Int)))) v _ _
    simp only [plFin,show gs.length=0 by omega,if_true]
    have hwm:wrap64 (h+m)=h+m:=w64 _ (by omega) (by omega)
    by_cases hs:0<h+m
    ·rw [if_pos hs]
     have hs2:=zC hs
     refine ⟨?_,ST.out.b⟩
     show Ending.returned _=_
     simp [hs,hwm]
    ·rw [if_neg hs]
     refine ⟨⟨({ s with hash:=h,minInt:=m }:PS),i,?_⟩,ST.out.b⟩
     simp [hs,hwm]
   ·have q1:(gs.length == 1)=true:=zH (by omega)
    have q1i:((gs.length:Int) == 1)=true:=zH (by omega)
    have q2:¬ 1<(gs.length:Int):=by omega
    go_wp2_with (first|(go_at_call 88;(with_reducible refine (K1.out _ ST.out.b).mono ?_);rintro e w3 ⟨rfl,hb3⟩;replace ST:=zA (ST.out.below hb3);replace HR:=zA (Kd.R_below HR.out hb3);clear hb3)|(go_at_call 88;(with_reducible refine (K2.out _ ST.out.b).mono ?_);rintro e w4 ⟨rfl,hb4⟩;replace ST:=zA (ST.out.below hb4);replace HR:=zA (Kd.R_below HR.out hb4);clear hb4;have c6:World.cell? _ ⟨gp,6,none⟩=some (.int .i64 m):=ST.out.p.cell 6;have c9:World.cell? _ ⟨gp,9,none⟩=some (.int .i64 s.g1):=ST.out.p.cell 9;have c10:World.cell? _ ⟨gp,10,none⟩=some (.int .i64 s.g2):=ST.out.p.cell 10;have f9:=ST.out.p.free 9;have f10:=ST.out.p.free 10)|((with_reducible refine gate_store (t:=3) (p:=86) rfl ?_);refine pat_field rfl rfl rfl gp 9 (.int .i64 (n:Int)) _ ({ s with hash:=h,minInt:=m,g1:=(n:Int) }) _ _ ST.out.p rfl (by first|(go_simp;done)|(go_simp;rfl)) ?_;intro w8 hw8 hbt8;replace ST:=zA (ST.out.put hw8 hbt8);clear hw8 hbt8;clear c6 c9 c10 f9 f10;have c10:World.cell? _ ⟨gp,10,none⟩=some (.int .i64 s.g2):=ST.out.p.cell 10;have f10:=ST.out.p.free 10)|((with_reducible refine gate_store (t:=3) (p:=88) rfl ?_);refine pat_field rfl rfl rfl gp 10 (.int .i64 (n:Int)) _ ({ s with hash:=h,minInt:=m,g1:=(n:Int),g2:=(n:Int) }) _ _ ST.out.p rfl (by first|(go_simp;done)|(go_simp;rfl)) ?_;intro w8 hw8 hbt8;replace ST:=zA (ST.out.put hw8 hbt8);clear hw8 hbt8;clear c10 f10))
    have SD:=zA ST.out.drew
    refine start_ (n:=11) (S:=fun w'=>PBox gp { s with hash:=h,minInt:=m,g1:=(n:Int),g2:=(n:Int) } v w') (ds:=[]) (bZ 11 0) (by kernel_rfl) rfl (by kernel_rfl) SD.out.p (fun hHeld=>?_)
    clear ST;have ST:=SD;clear SD
    refine with_tabW patPl.tab patPl.bits (fun HT_ HW_=>?_)
    refine p1 1 99 2 HT_ (v:=?_) ?_ (a':=?_) ?_ ?_
    rotate_left
    ·intro w';go_simp;with_reducible rfl
    rotate_left
    ·simp only [Act.put,sA,sB,sC,i64_w,i32_w];rfl
    refine p1 2 100 6 HT_ (v:=?_) ?_ (a':=?_) ?_ ?_
    rotate_left
    ·intro w';go_simp;with_reducible rfl
    rotate_left
    ·simp only [Act.put,sA,sB,sC,i64_w,i32_w];rfl
    refine p1 4 102 22 HT_ (v:=?_) ?_ (a':=?_) ?_ ?_
    rotate_left
    ·intro w';go_simp;with_reducible rfl
    rotate_left
    ·simp only [Act.put,sA,sB,sC,i64_w,i32_w];rfl
    refine p2 0 98 23 HT_ HW_ (v:=?_) ?_ hHeld (a':=?_) ?_ ?_
    rotate_left
    ·intro w' hs;refine (pat_load_run (by rfl) gp (by rfl) _ _ hs).trans ?_;with_reducible rfl
    rotate_left
    ·simp only [Act.put,sA,sB,sC,i64_w,i32_w];rfl
    refine p2 3 101 31 HT_ HW_ (v:=?_) ?_ hHeld (a':=?_) ?_ ?_
    rotate_left
    ·intro w' hs;have q:World.cell? w' ⟨gp,5,none⟩=some (.int .i64 h):=hs.cell 5;clear hs;go_simp;with_reducible rfl
    rotate_left
    ·simp only [Act.put,sA,sB,sC,i64_w,i32_w];rfl
    refine p2 5 103 63 HT_ HW_ (v:=?_) ?_ hHeld (a':=?_) ?_ ?_
    rotate_left
    ·intro w' hs;have q:World.cell? w' ⟨gp,6,none⟩=some (.int .i64 m):=hs.cell 6;clear hs;go_simp;with_reducible rfl
    rotate_left
    ·simp only [Act.put,sA,sB,sC,i64_w,i32_w];rfl
    refine p1 6 104 127 HT_ (v:=?_) ?_ (a':=?_) ?_ ?_
    rotate_left
    ·intro w';go_simp;with_reducible rfl
    rotate_left
    ·simp only [Act.put,sA,sB,sC,i64_w,i32_w];rfl
    refine p1 7 105 255 HT_ (v:=?_) ?_ (a':=?_) ?_ ?_
    rotate_left
    ·intro w';go_simp;with_reducible rfl
    rotate_left
    ·simp only [Act.put,sA,sB,sC,i64_w,i32_w];rfl
    refine one_ (i:=8) (N:=none) (bZ 11 511) rfl rfl (one_of HT_.out (by kernel_rfl)) (by decide) (fun K hK=>?_)
    refine pat_store_step (by rfl) rfl rfl gr rfl _ _ rfl _ _ ST.out.r ?_
    intro w7 hw7 hb7
    replace ST:=zA (ST.out.ret hw7 hb7)
    clear hw7 hb7 hHeld
    refine hK.out _ _ ST.out.p (fun hHeld=>?_)
    clear hK K
    refine p1 9 7 1023 HT_ (v:=?_) ?_ (a':=?_) ?_ ?_
    rotate_left
    ·intro w';go_simp;with_reducible rfl
    rotate_left
    ·simp only [Act.put,sA,sB,sC,i64_w,i32_w];rfl
    refine p1 10 8 2047 HT_ (v:=?_) ?_ (a':=?_) ?_ ?_
    rotate_left
    ·intro w';go_simp;with_reducible rfl
    rotate_left
    ·simp only [Act.put,sA,sB,sC,i64_w,i32_w];rfl
    refine done_ (done_of HT_.out (by kernel_rfl)) ?_
    go_wp2
    refine bodyPost_ret (pat_results rfl _ gr rfl _ _ ST.out.r) rfl ?_
    show GotP w (plFin s (some (h,m,(n:Int),gs,(i:Int)))) v _ _
    simp only [plFin,show ¬ gs.length=0 by omega,if_false,hq,if_true]
    have hwm:wrap64 (h+m)=h+m:=w64 _ (by omega) (by omega)
    by_cases hs:0<h+m
    ·rw [if_pos hs]
     have hs2:=zC hs
     refine ⟨?_,ST.out.b⟩
     show Ending.returned _=_
     simp [hs,hwm]
    ·rw [if_neg hs]
     refine ⟨⟨({ s with hash:=h,minInt:=m,g1:=(n:Int),g2:=(n:Int) }:PS),i,?_⟩,ST.out.b⟩
     simp [hs,hwm]
   ·have q1:(gs.length == 1)=false:=zF (by omega)
    have q1i:((gs.length:Int) == 1)=false:=zF (by omega)
    have q2:1<(gs.length:Int):=by omega
    obtain ⟨_,_,hgr⟩:=Kd.R_reads' HR.out
    obtain ⟨ag,hag,hgc⟩:=Kd.at_int hgr 1 (by omega) (by omega)
    have hgc2:wr.cell? ⟨ag.block,ag.off+1,none⟩=some (.int .i64 (rd gs 1)):=by simpa [Addr.add] using hgc
    have hg5:ag.block≠gp:=by intro e_;have:=hgr;exact (Kd.R_ne HR.out ST.out.p (by decide)) (by rw [← e_,hag];rfl)
    subst hag
    have HGC:=zA hgc2
    have HG5:=zA hg5
    clear hgc hgc2 hgr hg5
    go_wp2_with (first|(go_at_call 88;(with_reducible refine (K1.out _ ST.out.b).mono ?_);rintro e w3 ⟨rfl,hb3⟩;replace ST:=zA (ST.out.below hb3);replace HR:=zA (Kd.R_below HR.out hb3);have HB3:=zA hb3;clear hb3)|(go_at_call 88;(with_reducible refine (K2.out _ ST.out.b).mono ?_);rintro e w4 ⟨rfl,hb4⟩;replace ST:=zA (ST.out.below hb4);replace HR:=zA (Kd.R_below HR.out hb4);have HB4:=zA (HB3.out.trans (hb4.mono HB3.out.size));clear hb4;have c6:World.cell? _ ⟨gp,6,none⟩=some (.int .i64 m):=ST.out.p.cell 6;have c9:World.cell? _ ⟨gp,9,none⟩=some (.int .i64 s.g1):=ST.out.p.cell 9;have c10:World.cell? _ ⟨gp,10,none⟩=some (.int .i64 s.g2):=ST.out.p.cell 10;have f9:=ST.out.p.free 9;have f10:=ST.out.p.free 10)|((with_reducible refine gate_store (t:=3) (p:=93) rfl ?_);refine pat_field rfl rfl rfl gp 9 (.int .i64 (n:Int)) _ ({ s with hash:=h,minInt:=m,g1:=(n:Int) }) _ _ ST.out.p rfl (by first|(go_simp;done)|(go_simp;rfl)) ?_;intro w8 hw8 hbt8;replace ST:=zA (ST.out.put hw8 hbt8);have hg1:=(HB4.out.cell (World.block_lt_of_cell? wr _ HGC.out)).trans HGC.out;have hg2:=(cell_but (p:=⟨ag.block,ag.off+1,none⟩) hbt8 HG5.out).trans hg1;clear hw8 hbt8 hg1 c6 c9 c10 f9 f10;have c10:World.cell? _ ⟨gp,10,none⟩=some (.int .i64 s.g2):=ST.out.p.cell 10;have f10:=ST.out.p.free 10)|((with_reducible refine gate_store (t:=3) (p:=97) rfl ?_);refine pat_field rfl rfl rfl gp 10 (.int .i64 (rd gs 1)) _ ({ s with hash:=h,minInt:=m,g1:=(n:Int),g2:=rd gs 1 }) _ _ ST.out.p rfl (by first|(go_simp;done)|(go_simp;rfl)) ?_;intro w8 hw8 hbt8;replace ST:=zA (ST.out.put hw8 hbt8);clear hw8 hbt8;clear c10 f10 hg2))
    have SD:=zA ST.out.drew
    refine start_ (n:=11) (S:=fun w'=>PBox gp { s with hash:=h,minInt:=m,g1:=(n:Int),g2:=rd gs 1 } v w') (ds:=[]) (bZ 11 0) (by kernel_rfl) rfl (by kernel_rfl) SD.out.p (fun hHeld=>?_)
    clear ST;have ST:=SD;clear SD
    refine with_tabW patPl.tab patPl.bits (fun HT_ HW_=>?_)
    refine p1 1 99 2 HT_ (v:=?_) ?_ (a':=?_) ?_ ?_
    rotate_left
    ·intro w';go_simp;with_reducible rfl
    rotate_left
    ·simp only [Act.put,sA,sB,sC,i64_w,i32_w];rfl
    refine p1 2 100 6 HT_ (v:=?_) ?_ (a':=?_) ?_ ?_
    rotate_left
    ·intro w';go_simp;with_reducible rfl
    rotate_left
    ·simp only [Act.put,sA,sB,sC,i64_w,i32_w];rfl
    refine p1 4 102 22 HT_ (v:=?_) ?_ (a':=?_) ?_ ?_
    rotate_left
    ·intro w';go_simp;with_reducible rfl
    rotate_left
    ·simp only [Act.put,sA,sB,sC,i64_w,i32_w];rfl
    refine p2 0 98 23 HT_ HW_ (v:=?_) ?_ hHeld (a':=?_) ?_ ?_
    rotate_left
    ·intro w' hs;refine (pat_load_run (by rfl) gp (by rfl) _ _ hs).trans ?_;with_reducible rfl
    rotate_left
    ·simp only [Act.put,sA,sB,sC,i64_w,i32_w];rfl
    refine p2 3 101 31 HT_ HW_ (v:=?_) ?_ hHeld (a':=?_) ?_ ?_
    rotate_left
    ·intro w' hs;have q:World.cell? w' ⟨gp,5,none⟩=some (.int .i64 h):=hs.cell 5;clear hs;go_simp;with_reducible rfl
    rotate_left
    ·simp only [Act.put,sA,sB,sC,i64_w,i32_w];rfl
    refine p2 5 103 63 HT_ HW_ (v:=?_) ?_ hHeld (a':=?_) ?_ ?_
    rotate_left
    ·intro w' hs;have q:World.cell? w' ⟨gp,6,none⟩=some (.int .i64 m):=hs.cell 6;clear hs;go_simp;with_reducible rfl
    rotate_left
    ·simp only [Act.put,sA,sB,sC,i64_w,i32_w];rfl
    refine p1 6 104 127 HT_ (v:=?_) ?_ (a':=?_) ?_ ?_
    rotate_left
    ·intro w';go_simp;with_reducible rfl
    rotate_left
    ·simp only [Act.put,sA,sB,sC,i64_w,i32_w];rfl
    refine p1 7 105 255 HT_ (v:=?_) ?_ (a':=?_) ?_ ?_
    rotate_left
    ·intro w';go_simp;with_reducible rfl
    rotate_left
    ·simp only [Act.put,sA,sB,sC,i64_w,i32_w];rfl
    refine one_ (i:=8) (N:=none) (bZ 11 511) rfl rfl (one_of HT_.out (by kernel_rfl)) (by decide) (fun K hK=>?_)
    refine pat_store_step (by rfl) rfl rfl gr rfl _ _ rfl _ _ ST.out.r ?_
    intro w7 hw7 hb7
    replace ST:=zA (ST.out.ret hw7 hb7)
    clear hw7 hb7 hHeld
    refine hK.out _ _ ST.out.p (fun hHeld=>?_)
    clear hK K
    refine p1 9 7 1023 HT_ (v:=?_) ?_ (a':=?_) ?_ ?_
    rotate_left
    ·intro w';go_simp;with_reducible rfl
    rotate_left
    ·simp only [Act.put,sA,sB,sC,i64_w,i32_w];rfl
    refine p1 10 8 2047 HT_ (v:=?_) ?_ (a':=?_) ?_ ?_
    rotate_left
    ·intro w';go_simp;with_reducible rfl
    rotate_left
    ·simp only [Act.put,sA,sB,sC,i64_w,i32_w];rfl
    refine done_ (done_of HT_.out (by kernel_rfl)) ?_
    go_wp2
    refine bodyPost_ret (pat_results rfl _ gr rfl _ _ ST.out.r) rfl ?_
    show GotP w (plFin s (some (h,m,(n:Int),gs,(i:Int)))) v _ _
    simp only [plFin,show ¬ gs.length=0 by omega,show ¬ gs.length=1 by omega,if_false]
    have hwm:wrap64 (h+m)=h+m:=w64 _ (by omega) (by omega)
    by_cases hs:0<h+m
    ·rw [if_pos hs]
     have hs2:=zC hs
     refine ⟨?_,ST.out.b⟩
     show Ending.returned _=_
     simp [hs,hwm]
    ·rw [if_neg hs]
     refine ⟨⟨({ s with hash:=h,minInt:=m,g1:=(n:Int),g2:=rd gs 1 }:PS),i,?_⟩,ST.out.b⟩
     simp [hs,hwm]
end Go.Proofs.YtklebhlanidloaaGreatDoor.PZ
end
section
set_option maxRecDepth 100000
namespace Go.Proofs.YtklebhlanidloaaGreatDoor.PZ
open Go.RowKit Go.Sort Go.Proofs.YtklebhlanidloaaGreatDoorW.PrintWords Go.Proofs.YtklebhlanidloaaGreatDoorW.PrintLast Go.Proofs.YtklebhlanidloaaGreatDoorW.PrintMore
section
attribute [local go_sem] max2_int min2_int max_two min_two
def digL (n least:Int):List Int:=List.replicate (least - ((bytesOf (numText n)).map lessB).length).toNat 0 ++ (bytesOf (numText n)).map lessB
def shape_digitsOf.f (k:Nat)(a0_0 a0_1 a0_2 a0_3 a0_4 a0_5 a0_6 n least:Int):Option (List Int):=if (-9223372036854775808≤n∧n≤9223372036854775807) ∧ -1000000≤least∧least≤1000000 then sym_Digits.f k a0_0 a0_1 a0_2 a0_3 a0_4 a0_5 a0_6 (digL n least) else none
theorem shape_digitsOf.mono:∀ a0 a1 a2 a3 a4 a5 a6 a7 a8 k,LeO (shape_digitsOf.f k a0 a1 a2 a3 a4 a5 a6 a7 a8) (shape_digitsOf.f (k+1) a0 a1 a2 a3 a4 a5 a6 a7 a8):=by
 intro a0 a1 a2 a3 a4 a5 a6 a7 a8 k
 unfold shape_digitsOf.f
 split
 · exact sym_Digits.mono _ _ _ _ _ _ _ _ _
 exact LeO.none _
theorem blk7 {W:World}{g:Nat}{t:TypeId}{c0 c1 c2 c3 c4 c5 c6:Value}(h:W.heap[g]?=some (.cells #[c0,c1,c2,c3,c4,c5,c6] t (0,0))) :
    W.cell? ⟨g,0,none⟩=some c0∧W.cell? ⟨g,1,none⟩=some c1∧W.cell? ⟨g,2,none⟩=some c2∧W.cell? ⟨g,3,none⟩=some c3∧W.cell? ⟨g,4,none⟩=some c4∧W.cell? ⟨g,5,none⟩=some c5∧W.cell? ⟨g,6,none⟩=some c6:=
  ⟨(blk_cell h 0).trans rfl,(blk_cell h 1).trans rfl,(blk_cell h 2).trans rfl,(blk_cell h 3).trans rfl,(blk_cell h 4).trans rfl,(blk_cell h 5).trans rfl,(blk_cell h 6).trans rfl⟩
theorem below_made (W:World)(m:Nat):Below W.heap.size W (W.alloc (.cells (Array.replicate m (Value.int .u8 0)) 5)).drew:=below_drew ((Below.refl W.heap.size W).alloc (Nat.le_refl _) _)
theorem rowS_made (W:World)(m:Nat)(hm:m≤9223372036854775807):RowS (W.alloc (.cells (Array.replicate m (Value.int .u8 0)) 5)).drew W.heap.size (.slice (some ⟨W.heap.size,0,none⟩) m m) (List.replicate m 0):=by
 have h:=RowS.make W m hm W.heap.size (Nat.le_refl _)
 rw [List.toArray_replicate] at h
 exact h.below (below_drew (Below.refl _ _))
set_option maxHeartbeats 2000000 in
set_option maxRecDepth 100000 in
theorem shape_digitsOf.calls (k:Nat)(a0_0:Int)(a0_1:Int)(a0_2:Int)(a0_3:Int)(a0_4:Int)(a0_5:Int)(a0_6:Int)(a1:Int)(a2:Int)(r:List Int)(w:World)(hG:GL w)(h:shape_digitsOf.f k a0_0 a0_1 a0_2 a0_3 a0_4 a0_5 a0_6 a1 a2=some r) :
    Calls Tryz.prog 51 #[.agg #[.int .i32 a0_0,.int .i32 a0_1,.int .i32 a0_2,.int .i32 a0_3,.int .i32 a0_4,.int .i32 a0_5,.int .i32 a0_6],.int .i64 a1,.int .i64 a2] w fun e w'=>∃ v0_:Value,e = .returned (v0_)∧Kd.R (Kd.int .i32) 21 w' w.heap.size (fun _=>True) v0_ r∧Below w.heap.size w w':=by
 unfold shape_digitsOf.f at h
 split at h
 ·rename_i hb
  obtain ⟨hb,hb2,hb3⟩:=hb
  have hsz:=numText_size a1 hb.1 hb.2
  have hu1:=Tryz.underlying23
  have HDG:=zA h
  clear h
  unfold digL at HDG
  have hlen:(bytesOf (numText a1)).length=(numText a1).size:=bytesOf_length _
  have hN:∀ W:World,GL W→Calls Tryz.prog 76 #[.int .i64 a1] W fun e w'=>e = .returned (.string (numText a1))∧Below W.heap.size W w':=fun W hG=>strconv_Itoa.calls a1 (numText a1) W hG (by unfold strconv_Itoa.f numText;rw [if_pos hb])
  have hB1:=(Below.refl w.heap.size w).alloc (Nat.le_refl _) (.cells #[.int .i32 a0_0,.int .i32 a0_1,.int .i32 a0_2,.int .i32 a0_3,.int .i32 a0_4,.int .i32 a0_5,.int .i32 a0_6] 23)
  have hIt:=hN _ (GL.below hG hB1)
  clear hb hG hN
  generalize numText a1=s at *
  have kc:=fun (W:World)=>print_bytes (P:=Tryz.prog) 9 27 5 Tryz.underlying9 Tryz.underlying27 Tryz.underlying5 s W
  have HSZ:=zA hsz
  have HLEN:=zA hlen
  have HB0:=zA hB1
  clear hsz hlen hB1
  go_enter Tryz.func51,Tryz.ntmps51
  go_wp2_with (go_at_call 76;refine hIt.mono ?_;clear hIt;rintro e w1 ⟨rfl,hb1⟩;have HB1:=zA (HB0.out.trans (hb1.mono HB0.out.size));have HX1:=zA (blk_below (g:=w.heap.size) (heap_alloc_new w (.cells #[.int .i32 a0_0,.int .i32 a0_1,.int .i32 a0_2,.int .i32 a0_3,.int .i32 a0_4,.int .i32 a0_5,.int .i32 a0_6] 23)) hb1);clear hb1)
  have H0:=zA (MixSt.start w1 s)
  have HB2:=zA (bytes_below HB1.out HB1.out.size 5 s)
  have HX2:=zA (blk_below (g:=w.heap.size) HX1.out (bytes_below (Below.refl _ w1) (Nat.le_refl _) 5 s))
  have hbw:w.heap.size<w1.heap.size:=(Array.getElem?_eq_some_iff.1 HX1.out).1
  go_loopg [8,14] s.size (fun gg _ s14 wr=>∃ k:Nat,k≤s.size∧s.size - k≤gg∧s14 = .int .i64 k∧Aside0 (MixSt w1.heap.size (bytesOf s) k wr)∧Aside0 (Below w.heap.size w wr)∧Aside0 (wr.heap[w.heap.size]?=some (.cells #[.int .i32 a0_0,.int .i32 a0_1,.int .i32 a0_2,.int .i32 a0_3,.int .i32 a0_4,.int .i32 a0_5,.int .i32 a0_6] 23 (0,0))))
  case atStart=>exact ⟨0,Nat.zero_le _,by omega,rfl,H0,HB2,HX2⟩
  case round=>
   obtain ⟨k,hk,hg,rfl,HM,HB,HX⟩:=hrel
   have hs21:=HSZ.out
   by_cases hlt:k<s.size
   ·have hlt1:=zC hlt
    obtain ⟨hcell,hfz⟩:=HM.out.2 k (by rw [HLEN.out];exact hlt)
    rw [if_neg (Nat.lt_irrefl k)] at hcell
    have HP:=zA (HM.out.put (by rw [HLEN.out];exact hlt))
    generalize hy:rd (bytesOf s) (k:Int)=y at hcell HP
    clear hy
    go_wp2
    go_roundg (s.size - (k+1))
    case measure=>omega
    case rel=>exact ⟨k+1,by omega,by omega,by go_num,HP,⟨Below.setCell HB.out HB1.out.size _⟩,⟨blk_far HX.out (p:=⟨w1.heap.size,k,none⟩) (by show w.heap.size≠w1.heap.size;omega) _⟩⟩
   have:k=s.size:=by omega
   subst this
   have hlt1:=zD hlt
   have hcells:=blk7 HX.out
   obtain ⟨m,hm⟩:∃ m:Nat,(a2 - (s.size:Int)).toNat=m:=⟨_,rfl⟩
   have hw1:IntKind.i64.wrap (a2 - (s.size:Int))=a2 - (s.size:Int):=by rw [IntKind.wrap_i64];omega
   have hmk:=make_zeros m (by omega)
   have hls:((bytesOf s).map lessB).length=s.size:=by rw [List.length_map,HLEN.out]
   have hd:=HM.out
   rw [← HLEN.out] at hd
   have hV:=hd.done w.heap.size HB1.out.size (grownCap w1 s.size 0 5) (by rw [HLEN.out];exact grownCap_ge _ _ _ _) (by rw [HLEN.out];omega)
   have hF:=(Kd.V_at hV).2.2
   have HCD:=zA (Kd.F_now hF)
   have HDL:=zA hls
   have hDG:=HDG.out
   rw [hls,hm] at hDG
   have HDG2:=zA hDG
   have HM1:=zA hm
   have hmb:m≤1000000:=by omega
   have HL9:Aside0 ((List.replicate m (0:Int) ++ (bytesOf s).map lessB).length=m+s.size):=⟨by rw [List.length_append,List.length_replicate,HDL.out]⟩
   have hsb:s.size≤21:=HSZ.out
   clear hV hF hd hDG hls hm hb2 hb3 hs21 hbw
   go_wp2_with fail
   go_region_held3 (fun w'=>w'.cell? ⟨w.heap.size,0,none⟩=some (.int .i32 a0_0)∧w'.cell? ⟨w.heap.size,1,none⟩=some (.int .i32 a0_1)∧w'.cell? ⟨w.heap.size,2,none⟩=some (.int .i32 a0_2)∧w'.cell? ⟨w.heap.size,3,none⟩=some (.int .i32 a0_3)∧w'.cell? ⟨w.heap.size,4,none⟩=some (.int .i32 a0_4)∧w'.cell? ⟨w.heap.size,5,none⟩=some (.int .i32 a0_5)∧w'.cell? ⟨w.heap.size,6,none⟩=some (.int .i32 a0_6)) (go_keep) (first|(refine step_max0 (by rfl) _ _ (by rfl) _ (m:Int) (by rfl) (by have:=HM1.out;split <;> omega) ?_)|(refine step_append_rows (by rfl) _ _ (by rfl) wr.heap.size (.slice (some ⟨wr.heap.size,0,none⟩) m m) (List.replicate m 0) (by rfl) (rowS_made wr m (by omega)) _ ((bytesOf s).map lessB) _ s.size HDL.out (by rfl) (Kd.C_below HCD.out (below_made wr m)) (by simp only [List.length_replicate];rw [HDL.out];omega) (by simp) ?_;intro vt w2 hrow hbel;have hb12:=(below_made wr m).trans hbel;have HX2:=zA (blk_below (g:=w.heap.size) HX.out hb12);clear hcells;have hcells:=blk7 HX2.out;have HB2:=zA (HB.out.trans (hb12.mono HB.out.size));have HR2:=zA hrow;obtain ⟨At,ct,rfl,htl,hFt⟩:=RowS.F HR2.out;have HFT:=zA hFt;have HTL:=zA htl;clear hrow hbel hb12 hFt htl)|(have hq:=sym_Digits.calls k a0_0 a0_1 a0_2 a0_3 a0_4 a0_5 a0_6 At ct _ r _ (Kd.F_now HFT.out) HTL.out HDG2.out;refine goes_ Tryz.func50 (by kernel_rfl) rfl #[.agg #[.int .i32 a0_0,.int .i32 a0_1,.int .i32 a0_2,.int .i32 a0_3,.int .i32 a0_4,.int .i32 a0_5,.int .i32 a0_6],.slice At (List.replicate m 0 ++ (bytesOf s).map lessB).length ct] (by rfl) rfl rfl (by (try simp only [List.map_toArray,List.map_cons,List.map_nil]);first|done|rfl|(simp only [HLEN.out,List.length_append,List.length_replicate,List.length_map];rfl)) ?_;(with_reducible refine hq.mono ?_);clear hq;rintro e w3 ⟨v3,rfl,ho,hb3⟩;obtain ⟨A3,c3,rfl⟩:=Kd.R_slice ho;refine ⟨_,rfl,?_⟩;have HO3:=zA ho;have HX3:=zA (blk_below (g:=w.heap.size) HX2.out hb3);clear hcells;have hcells:=blk7 HX3.out;have HB3:=zA (HB2.out.trans (hb3.mono HB2.out.size));(try clear hmk);(try clear kc);(try clear hw1);(try clear hlt1);(try clear hlt);(try clear hk);(try clear hg);(try clear hsb);(try clear hmb);(try clear hu1);(try clear hn3);clear ho hb3;(try simp only [Act.put,List.setIfInBounds_toArray,List.set_cons_zero,List.set_cons_succ])))
   go_wp2_with fail
   go_ret
   exact ⟨_,rfl,Kd.R_lower HO3.out HB2.out.size,HB3.out⟩
 cases h
end
end Go.Proofs.YtklebhlanidloaaGreatDoor.PZ
end
