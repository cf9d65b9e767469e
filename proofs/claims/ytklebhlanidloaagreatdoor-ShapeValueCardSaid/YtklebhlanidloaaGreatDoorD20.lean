/- Texts of this seat, joined. Conditions: none beyond each statement's own. -/
import Derived.Test.YtklebhlanidloaaGreatDoorD19
import Derived.Test.YtklebhlanidloaaGreatDoorD18
set_option linter.all false
section
set_option maxRecDepth 100000
namespace Go.Proofs.YtklebhlanidloaaGreatDoor.PZ
open Go.RowKit Go.Proofs.YtklebhlanidloaaGreatDoorW.PrintWords Go.Proofs.YtklebhlanidloaaGreatDoorW.PrintLast
def patNo.T:Bool×List (List Nat×List Nat):=(true,[([],[]),([],[]),([],[]),([2],[2]),([1,3],[1,3]),([],[]),([5],[5]),([6],[6]),([0,0],[0]),([4,8,0,1,2,3,4,8],[4]),([7,9,0,1,2,3,4,5,6,7,8,9],[7])])
def patNo.B:List Nat:=[0,0,0,4,14,0,32,96,1,287,1023]
theorem patNo.tab:rtab .any (opsOf Tryz.f114 27)=patNo.T:=by kernel_rfl
theorem patNo.bits:waitsOk patNo.T.2 patNo.B=true:=by kernel_rfl
theorem placesL_j {l:List Int}:∀ (f:Nat)(h m n:Int)(gs:List Int)(i:Int)(r:Int×Int×Int×List Int×Int),placesL l f h m n gs i=some r→0≤i→i≤l.length+2→i≤r.2.2.2.2∧r.2.2.2.2≤l.length+2
  | 0,_,_,_,_,_,_,e,_,_=>by cases e
  | f+1,h,m,n,gs,i,r,e,h0,h1=>by
    have hin:∀ x,0≤x→atN l i=x→i<l.length:=fun x hx ha=>by
      unfold atN at ha
      split at ha <;> omega
    unfold placesL at e
    split at e
    · rename_i hc
      have:=hin 35 (by omega) hc.1
      have:=placesL_j f _ _ _ _ _ _ e (by omega) (by omega)
      omega
    · split at e
      · rename_i hc
        have:=hin 48 (by omega) hc
        have:=placesL_j f _ _ _ _ _ _ e (by omega) (by omega)
        omega
      · split at e
        · rename_i hc
          have:=hin 44 (by omega) hc.1
          split at e
          · cases e
          · have:=placesL_j f _ _ _ _ _ _ e (by omega) (by omega)
            omega
        · cases e
          exact ⟨Int.le_refl _,h1⟩
theorem placesO_j {s q:PS}{l:List Int}{i j:Int}(h:placesO s l i=some (q,j))(h0:0≤i)(h1:i≤l.length+2):i≤j∧j≤l.length+2:=by
 unfold placesO at h
 cases e:placesL l (l.length+3 - i.toNat) s.hash s.minInt 0 [] i with
 | none=>rw [e] at h;cases h
 | some r=>
  obtain ⟨hh,m,n,gs,j'⟩:=r
  rw [e] at h
  simp only [plFin] at h
  split at h
  · cases h;exact placesL_j _ _ _ _ _ _ _ e h0 h1
  cases h
theorem PSt.other {w W W1:World}{gp gr g:Nat}{s r:PS}{v u:V4}(h:PSt w W gp gr s v r u)(hb:But g W W1)(hg:w.heap.size≤g)(hp:gp≠g)(hr:gr≠g):PSt w W1 gp gr s v r u:=
  ⟨h.p.but hb hp,h.r.but hb hr,h.ne,h.hp,h.hr,hb.below _ _ h.b hg⟩
set_option maxHeartbeats 4000000 in
set_option maxRecDepth 100000 in
theorem number_c (s:PS)(v:V4)(A:Option Addr)(c:Nat)(l:List Int)(i:Int)(w:World)(hr:Kd.C (Kd.int .i32) w A l.length l)(hc:l.length≤c)
    (h0:0≤i) (hi:i≤l.length+2) (hl:l.length≤1000) (hh:0≤s.hash∧s.hash≤1000) (hm:0≤s.minInt∧s.minInt≤1000) :
    Calls Tryz.prog 114 #[s.val v,.slice A l.length c,.int .i64 i] w (GotP w (numberO s l i) v):=by
 have KA:=zA (fun (j:Int) (h:0≤j) W (hb:Below w.heap.size w W)=>at_c A c l j W (Kd.C_below hr hb) hc h)
 have KM:=zA (fun (j r:Int) (h:0≤j) (h2:j≤200000) (h3:0≤r) W (hb:Below w.heap.size w W)=>many_c A c l j r W (Kd.C_below hr hb) hc h h2 (by omega) h3)
 have KP:=zA (fun W (hb:Below w.heap.size w W)=>places_c s v A c l i W (Kd.C_below hr hb) hc h0 hi hl hh hm)
 have HML:=zA (fun j r=>manyN_len l j r)
 obtain ⟨N,hN⟩:∃ N,manyN l i 64=N:=⟨_,rfl⟩
 have hNl:N≤1000:=by have:=HML.out i 64;omega
 have K64:=zA (fun W (hb:Below w.heap.size w W)=>KM.out i 64 h0 (by omega) (by omega) W hb)
 rw [hN] at K64
 have HN:=zA hN
 clear hN hr hh hm
 go_enter Tryz.func114,Tryz.ntmps114
 go_upto_if 20 with (first|((with_reducible refine gate_dst (N:=3) rfl ?_);refine pat_box rfl rfl rfl s v rfl ?_;intro gp w1 hgp hbp hb1;have BX:=zA (And.intro hgp (And.intro hbp hb1));clear hgp hbp hb1)|((with_reducible refine gate_dst (N:=6) rfl ?_);refine pat_alloc rfl rfl rfl ?_;intro gr w2 hgr hbr hb2;have ST:=zA (PSt.start BX.out.1 BX.out.2.1 BX.out.2.2 hgr hbr hb2);clear BX hgr hbr hb2)|(go_at_call 131;(with_reducible refine (K64.out _ ST.out.b).mono ?_);rintro e w3 ⟨rfl,hb3⟩;replace ST:=zA (ST.out.below hb3);clear hb3))
 (try simp only [Act.put,sA,sB,sC])
 go_cut [2] (fun s2 wc=>∃ (q:PS) (j:Int),s2 = .int .i64 j∧0≤j∧j≤10000∧Aside0 (fracO s l i=some (q,j))∧Aside0 (PSt w wc gp gr q v PS.zero V4.nil))
 case first=>
  by_cases hn:0<N
  ·have d1:decide (0<N)=true:=zC hn
   obtain ⟨M,hM⟩:∃ M,manyN l (i+N) 35=M:=⟨_,rfl⟩
   have hMl:M≤1000:=by have:=HML.out (i+N) 35;omega
   have K35:=zA (fun W (hb:Below w.heap.size w W)=>KM.out (i+N) 35 (by omega) (by omega) (by omega) W hb)
   rw [hM] at K35
   have hf:fracO s l i=some ({ s with minSig:=(N:Int),maxSig:=(N:Int)+(M:Int) },i+(N:Int)+(M:Int)):=by
    unfold fracO;rw [HN.out,if_pos hn,hM]
   have HF:=zA hf
   clear hf hM
   go_wp2_with (first|(go_at_call 131;(with_reducible refine (K35.out _ ST.out.b).mono ?_);rintro e w4 ⟨rfl,hb4⟩;replace ST:=zA (ST.out.below hb4);clear hb4;have c11:World.cell? _ ⟨gp,11,none⟩=some (.int .i64 s.minSig):=ST.out.p.cell 11;have c12:World.cell? _ ⟨gp,12,none⟩=some (.int .i64 s.maxSig):=ST.out.p.cell 12;have f11:=ST.out.p.free 11;have f12:=ST.out.p.free 12)|((with_reducible refine gate_store (t:=3) (p:=27) rfl ?_);refine pat_field rfl rfl rfl gp 11 (.int .i64 (N:Int)) _ ({ s with minSig:=(N:Int) }) _ _ ST.out.p rfl (by first|(go_simp;done)|(go_simp;rfl)) ?_;intro w8 hw8 hbt8;replace ST:=zA (ST.out.put hw8 hbt8);clear hw8 hbt8;clear c11 c12 f11 f12;have c12:World.cell? _ ⟨gp,12,none⟩=some (.int .i64 s.maxSig):=ST.out.p.cell 12;have f12:=ST.out.p.free 12)|((with_reducible refine gate_store (t:=3) (p:=31) rfl ?_);refine pat_field rfl rfl rfl gp 12 (.int .i64 ((N:Int)+(M:Int))) _ ({ s with minSig:=(N:Int),maxSig:=(N:Int)+(M:Int) }) _ _ ST.out.p rfl (by first|(go_simp;done)|(go_simp;rfl)) ?_;intro w8 hw8 hbt8;replace ST:=zA (ST.out.put hw8 hbt8);clear hw8 hbt8;clear c12 f12))
   go_meet
   case rel=>exact ⟨_,_,rfl,by omega,by omega,HF,ST⟩
  have d1:decide (0<N)=false:=zD hn
  have hnf:fracO s l i=match placesO s l i with
   | none=>none
   | some (q,j)=>if atN l j=46 then (if manyN l (j+1) 48+manyN l (j+1+manyN l (j+1) 48) 35=0 then none else some ({ q with minFrac:=manyN l (j+1) 48,maxFrac:=manyN l (j+1) 48+manyN l (j+1+manyN l (j+1) 48) 35 },j+1+manyN l (j+1) 48+manyN l (j+1+manyN l (j+1) 48) 35)) else some (q,j):=by
   unfold fracO;rw [HN.out,if_neg hn];rfl
  cases hpo:placesO s l i with
  | none=>
   rw [hpo] at hnf KP
   have e:numberO s l i=none:=by unfold numberO;rw [hnf]
   rw [e]
   clear e hnf hpo
   go_wp2_with (first|(refine pat_load rfl rfl rfl gp rfl _ _ ST.out.p ?_)|(go_at_call 132;(with_reducible refine (KP.out _ ST.out.b).mono ?_);rintro e w5 ⟨⟨q,j,rfl⟩,hb5⟩;replace ST:=zA (ST.out.below hb5);clear hb5)|((with_reducible refine gate_dst (N:=11) rfl ?_);refine pat_alloc rfl rfl rfl ?_;intro gq w6 hgq hbq hb6;have HQ:=zA (And.intro hbq (And.intro (show gp≠gq by have:=ST.out.p.lt;omega) (And.intro (show gr≠gq by have:=ST.out.r.lt;omega) (show w.heap.size≤gq by have:=ST.out.b.size;omega))));replace ST:=zA (ST.out.below hb6);clear hgq hbq hb6)|(refine pat_store rfl rfl rfl gq rfl _ _ rfl _ _ HQ.out.1 ?_;intro w7 hw7 hb7;replace ST:=zA (ST.out.other hb7 HQ.out.2.2.2 HQ.out.2.1 HQ.out.2.2.1);have HQ2:=zA hw7;clear HQ hw7 hb7)|(refine pat_store rfl rfl rfl gr rfl _ _ rfl _ _ ST.out.r ?_;intro w9 hw9 hbt9;replace ST:=zA (ST.out.ret hw9 hbt9);clear hw9 hbt9))
   exact bodyPost_ret (pat_results rfl _ gr rfl _ _ ST.out.r) rfl (GotP.none ST.out.b)
  | some r=>
   obtain ⟨q,j⟩:=r
   rw [hpo] at hnf KP
   obtain ⟨hj0,hj1⟩:=placesO_j hpo h0 hi
   dsimp only at hnf
   have KJ:=zA (fun W (hb:Below w.heap.size w W)=>KA.out j (by omega) W hb)
   by_cases hdot:atN l j=46
   rotate_left
   ·rw [if_neg hdot] at hnf
    obtain ⟨x,hx⟩:∃ x,atN l j=x:=⟨_,rfl⟩
    rw [hx] at KJ hdot
    have d2:(x == 46)=false:=zF hdot
    have HF:=zA hnf
    clear hnf hdot hx hpo
    go_wp2_with (first|(refine pat_load rfl rfl rfl gp rfl _ _ ST.out.p ?_)|(go_at_call 132;(with_reducible refine (KP.out _ ST.out.b).mono ?_);rintro e w5 ⟨hq5,hb5⟩;obtain rfl:=hq5;replace ST:=zA (ST.out.below hb5);clear hb5)|((with_reducible refine gate_dst (N:=11) rfl ?_);refine pat_alloc rfl rfl rfl ?_;intro gq w6 hgq hbq hb6;have HQ:=zA (And.intro hbq (And.intro (show gp≠gq by have:=ST.out.p.lt;omega) (And.intro (show gr≠gq by have:=ST.out.r.lt;omega) (show w.heap.size≤gq by have:=ST.out.b.size;omega))));replace ST:=zA (ST.out.below hb6);clear hgq hbq hb6)|(refine pat_store rfl rfl rfl gq rfl _ _ rfl _ _ HQ.out.1 ?_;intro w7 hw7 hb7;replace ST:=zA (ST.out.other hb7 HQ.out.2.2.2 HQ.out.2.1 HQ.out.2.2.1);have HQ2:=zA hw7;clear HQ hw7 hb7)|(refine pat_load rfl rfl rfl gq rfl _ _ HQ2.out ?_)|(refine pat_store rfl rfl rfl gp rfl _ _ rfl _ _ ST.out.p ?_;intro w8 hw8 hb8;replace ST:=zA (ST.out.put hw8 hb8);clear hw8 hb8)|(go_at_call 88;(with_reducible refine (KJ.out _ ST.out.b).mono ?_);rintro e w9 ⟨rfl,hb9⟩;replace ST:=zA (ST.out.below hb9);clear hb9))
    go_meet
    case rel=>exact ⟨_,_,rfl,by omega,by omega,HF,ST⟩
   rw [if_pos hdot] at hnf
   rw [hdot] at KJ
   obtain ⟨a,ha⟩:∃ a,manyN l (j+1) 48=a:=⟨_,rfl⟩
   have hal:a≤1000:=by have:=HML.out (j+1) 48;omega
   have K48:=zA (fun W (hb:Below w.heap.size w W)=>KM.out (j+1) 48 (by omega) (by omega) (by omega) W hb)
   rw [ha] at hnf K48
   obtain ⟨b,hb_⟩:∃ b,manyN l (j+1+(a:Int)) 35=b:=⟨_,rfl⟩
   have hbl:b≤1000:=by have:=HML.out (j+1+(a:Int)) 35;omega
   have K35:=zA (fun W (hb:Below w.heap.size w W)=>KM.out (j+1+(a:Int)) 35 (by omega) (by omega) (by omega) W hb)
   rw [hb_] at hnf K35
   clear ha hb_ hdot hpo
   by_cases hab:a+b=0
   ·have d2:((a:Int)+(b:Int) == 0)=true:=zH (by omega)
    rw [if_pos hab] at hnf
    have e:numberO s l i=none:=by unfold numberO;rw [hnf]
    rw [e]
    clear e hnf hab
    go_wp2_with (first|(refine pat_load rfl rfl rfl gp rfl _ _ ST.out.p ?_)|(go_at_call 132;(with_reducible refine (KP.out _ ST.out.b).mono ?_);rintro e w5 ⟨hq5,hb5⟩;obtain rfl:=hq5;replace ST:=zA (ST.out.below hb5);clear hb5)|((with_reducible refine gate_dst (N:=11) rfl ?_);refine pat_alloc rfl rfl rfl ?_;intro gq w6 hgq hbq hb6;have HQ:=zA (And.intro hbq (And.intro (show gp≠gq by have:=ST.out.p.lt;omega) (And.intro (show gr≠gq by have:=ST.out.r.lt;omega) (show w.heap.size≤gq by have:=ST.out.b.size;omega))));replace ST:=zA (ST.out.below hb6);clear hgq hbq hb6)|(refine pat_store rfl rfl rfl gq rfl _ _ rfl _ _ HQ.out.1 ?_;intro w7 hw7 hb7;replace ST:=zA (ST.out.other hb7 HQ.out.2.2.2 HQ.out.2.1 HQ.out.2.2.1);have HQ2:=zA hw7;clear HQ hw7 hb7)|(refine pat_load rfl rfl rfl gq rfl _ _ HQ2.out ?_)|(refine pat_store rfl rfl rfl gp rfl _ _ rfl _ _ ST.out.p ?_;intro w8 hw8 hb8;replace ST:=zA (ST.out.put hw8 hb8);clear hw8 hb8)|(go_at_call 88;(with_reducible refine (KJ.out _ ST.out.b).mono ?_);rintro e w9 ⟨rfl,hb9⟩;replace ST:=zA (ST.out.below hb9);clear hb9)|(go_at_call 131;(with_reducible refine (K48.out _ ST.out.b).mono ?_);rintro e w10 ⟨rfl,hb10⟩;replace ST:=zA (ST.out.below hb10);clear hb10)|(go_at_call 131;(with_reducible refine (K35.out _ ST.out.b).mono ?_);rintro e w11 ⟨rfl,hb11⟩;replace ST:=zA (ST.out.below hb11);clear hb11;have c7:World.cell? _ ⟨gp,7,none⟩=some (.int .i64 q.minFrac):=ST.out.p.cell 7;have c8:World.cell? _ ⟨gp,8,none⟩=some (.int .i64 q.maxFrac):=ST.out.p.cell 8;have f7:=ST.out.p.free 7;have f8:=ST.out.p.free 8)|((with_reducible refine gate_store (t:=3) (p:=66) rfl ?_);refine pat_field rfl rfl rfl gp 7 (.int .i64 (a:Int)) _ ({ q with minFrac:=(a:Int) }) _ _ ST.out.p rfl (by first|(go_simp;done)|(go_simp;rfl)) ?_;intro w8 hw8 hbt8;replace ST:=zA (ST.out.put hw8 hbt8);clear hw8 hbt8;clear c7 c8 f7 f8;have c8:World.cell? _ ⟨gp,8,none⟩=some (.int .i64 q.maxFrac):=ST.out.p.cell 8;have f8:=ST.out.p.free 8)|((with_reducible refine gate_store (t:=3) (p:=70) rfl ?_);refine pat_field rfl rfl rfl gp 8 (.int .i64 ((a:Int)+(b:Int))) _ ({ q with minFrac:=(a:Int),maxFrac:=(a:Int)+(b:Int) }) _ _ ST.out.p rfl (by first|(go_simp;done)|(go_simp;rfl)) ?_;intro w8 hw8 hbt8;replace ST:=zA (ST.out.put hw8 hbt8);clear hw8 hbt8;clear c8 f8)|(refine pat_store rfl rfl rfl gr rfl _ _ rfl _ _ ST.out.r ?_;intro w9 hw9 hbt9;replace ST:=zA (ST.out.ret hw9 hbt9);clear hw9 hbt9))
    exact bodyPost_ret (pat_results rfl _ gr rfl _ _ ST.out.r) rfl (GotP.none ST.out.b)
   have d2:((a:Int)+(b:Int) == 0)=false:=zF (by omega)
   rw [if_neg hab] at hnf
   have HF:=zA hnf
   clear hnf hab
   go_wp2_with (first|(refine pat_load rfl rfl rfl gp rfl _ _ ST.out.p ?_)|(go_at_call 132;(with_reducible refine (KP.out _ ST.out.b).mono ?_);rintro e w5 ⟨hq5,hb5⟩;obtain rfl:=hq5;replace ST:=zA (ST.out.below hb5);clear hb5)|((with_reducible refine gate_dst (N:=11) rfl ?_);refine pat_alloc rfl rfl rfl ?_;intro gq w6 hgq hbq hb6;have HQ:=zA (And.intro hbq (And.intro (show gp≠gq by have:=ST.out.p.lt;omega) (And.intro (show gr≠gq by have:=ST.out.r.lt;omega) (show w.heap.size≤gq by have:=ST.out.b.size;omega))));replace ST:=zA (ST.out.below hb6);clear hgq hbq hb6)|(refine pat_store rfl rfl rfl gq rfl _ _ rfl _ _ HQ.out.1 ?_;intro w7 hw7 hb7;replace ST:=zA (ST.out.other hb7 HQ.out.2.2.2 HQ.out.2.1 HQ.out.2.2.1);have HQ2:=zA hw7;clear HQ hw7 hb7)|(refine pat_load rfl rfl rfl gq rfl _ _ HQ2.out ?_)|(refine pat_store rfl rfl rfl gp rfl _ _ rfl _ _ ST.out.p ?_;intro w8 hw8 hb8;replace ST:=zA (ST.out.put hw8 hb8);clear hw8 hb8)|(go_at_call 88;(with_reducible refine (KJ.out _ ST.out.b).mono ?_);rintro e w9 ⟨rfl,hb9⟩;replace ST:=zA (ST.out.below hb9);clear hb9)|(go_at_call 131;(with_reducible refine (K48.out _ ST.out.b).mono ?_);rintro e w10 ⟨rfl,hb10⟩;replace ST:=zA (ST.out.below hb10);clear hb10)|(go_at_call 131;(with_reducible refine (K35.out _ ST.out.b).mono ?_);rintro e w11 ⟨rfl,hb11⟩;replace ST:=zA (ST.out.below hb11);clear hb11;have c7:World.cell? _ ⟨gp,7,none⟩=some (.int .i64 q.minFrac):=ST.out.p.cell 7;have c8:World.cell? _ ⟨gp,8,none⟩=some (.int .i64 q.maxFrac):=ST.out.p.cell 8;have f7:=ST.out.p.free 7;have f8:=ST.out.p.free 8)|((with_reducible refine gate_store (t:=3) (p:=66) rfl ?_);refine pat_field rfl rfl rfl gp 7 (.int .i64 (a:Int)) _ ({ q with minFrac:=(a:Int) }) _ _ ST.out.p rfl (by first|(go_simp;done)|(go_simp;rfl)) ?_;intro w8 hw8 hbt8;replace ST:=zA (ST.out.put hw8 hbt8);clear hw8 hbt8;clear c7 c8 f7 f8;have c8:World.cell? _ ⟨gp,8,none⟩=some (.int .i64 q.maxFrac):=ST.out.p.cell 8;have f8:=ST.out.p.free 8)|((with_reducible refine gate_store (t:=3) (p:=70) rfl ?_);refine pat_field rfl rfl rfl gp 8 (.int .i64 ((a:Int)+(b:Int))) _ ({ q with minFrac:=(a:Int),maxFrac:=(a:Int)+(b:Int) }) _ _ ST.out.p rfl (by first|(go_simp;done)|(go_simp;rfl)) ?_;intro w8 hw8 hbt8;replace ST:=zA (ST.out.put hw8 hbt8);clear hw8 hbt8;clear c8 f8))
   go_meet
   case rel=>exact ⟨_,_,rfl,by omega,by omega,HF,ST⟩
 case rest=>
  clear K64 HN KP
  obtain ⟨q,j,rfl,hj0,hj1,HF,ST⟩:=hcut
  have NE0:=zA (show numberO s l i=expO q l j by unfold numberO;rw [HF.out])
  clear HF
  have KJ:=zA (fun W (hb:Below w.heap.size w W)=>KA.out j hj0 W hb)
  by_cases hE:atN l j=69
  rotate_left
  ·have e:expO q l j=some (q,j):=by unfold expO;rw [if_neg hE]
   have NE:=zA (NE0.out.trans e)
   obtain ⟨y,hy⟩:∃ y,atN l j=y:=⟨_,rfl⟩
   rw [hy] at KJ hE
   have d2:(y == 69)=false:=zF hE
   clear e hE hy NE0
   go_wp2_with (first|(go_at_call 88;(with_reducible refine (KJ.out _ ST.out.b).mono ?_);rintro e w9 ⟨rfl,hb9⟩;replace ST:=zA (ST.out.below hb9);clear hb9)|(refine pat_load rfl rfl rfl gp rfl _ _ ST.out.p ?_)|(refine pat_store rfl rfl rfl gr rfl _ _ rfl _ _ ST.out.r ?_;intro w9 hw9 hbt9;replace ST:=zA (ST.out.ret hw9 hbt9);clear hw9 hbt9))
   exact bodyPost_ret (pat_results rfl _ gr rfl _ _ ST.out.r) rfl (by rw [NE.out];exact GotP.some ST.out.b)
  rw [hE] at KJ
  have e:expO q l j=if atN l (j+1)=43 then (if 0<manyN l (j+1+1) 48 then some ({ q with plus:=true,exp:=manyN l (j+1+1) 48 },j+1+1+manyN l (j+1+1) 48) else none) else (if 0<manyN l (j+1) 48 then some ({ q with exp:=manyN l (j+1) 48 },j+1+manyN l (j+1) 48) else none):=by
   unfold expO;rw [if_pos hE]
  have NE:=zA (NE0.out.trans e)
  clear e hE NE0
  have KJ1:=zA (fun W (hb:Below w.heap.size w W)=>KA.out (j+1) (by omega) W hb)
  by_cases hp:atN l (j+1)=43
  ·have e:=NE.out
   rw [if_pos hp] at e
   rw [hp] at KJ1
   obtain ⟨x,hx⟩:∃ x,manyN l (j+1+1) 48=x:=⟨_,rfl⟩
   have hxl:x≤1000:=by have:=HML.out (j+1+1) 48;omega
   have K48:=zA (fun W (hb:Below w.heap.size w W)=>KM.out (j+1+1) 48 (by omega) (by omega) (by omega) W hb)
   rw [hx] at K48 e
   replace NE:=zA e
   clear hx hp e
   go_wp2_with (first|(go_at_call 88;(with_reducible refine (KJ.out _ ST.out.b).mono ?_);rintro e w9 ⟨rfl,hb9⟩;replace ST:=zA (ST.out.below hb9);clear hb9)|(go_at_call 88;(with_reducible refine (KJ1.out _ ST.out.b).mono ?_);rintro e w10 ⟨rfl,hb10⟩;replace ST:=zA (ST.out.below hb10);clear hb10;have c14:World.cell? _ ⟨gp,14,none⟩=some (.bool q.plus):=ST.out.p.cell 14;have f14:=ST.out.p.free 14)|((with_reducible refine gate_store (t:=4) (p:=95) rfl ?_);refine pat_field rfl rfl rfl gp 14 (.bool true) _ ({ q with plus:=true }) _ _ ST.out.p rfl (by first|(go_simp;done)|(go_simp;rfl)) ?_;intro w8 hw8 hbt8;replace ST:=zA (ST.out.put hw8 hbt8);clear hw8 hbt8;clear c14 f14)|(go_at_call 131;(with_reducible refine (K48.out _ ST.out.b).mono ?_);rintro e w11 ⟨rfl,hb11⟩;replace ST:=zA (ST.out.below hb11);clear hb11;have c13:World.cell? _ ⟨gp,13,none⟩=some (.int .i64 q.exp):=ST.out.p.cell 13;have f13:=ST.out.p.free 13)|((with_reducible refine gate_store (t:=3) (p:=101) rfl ?_);refine pat_field rfl rfl rfl gp 13 (.int .i64 (x:Int)) _ ({ q with plus:=true,exp:=(x:Int) }) _ _ ST.out.p rfl (by first|(go_simp;done)|(go_simp;rfl)) ?_;intro w8 hw8 hbt8;replace ST:=zA (ST.out.put hw8 hbt8);clear hw8 hbt8;clear c13 f13))
   have SD:=zA ST.out.drew
   refine start_ (n:=11) (S:=fun w'=>PBox gp { q with plus:=true,exp:=(x:Int) } v w') (ds:=[]) (bZ 11 0) (by kernel_rfl) rfl (by kernel_rfl) SD.out.p (fun hHeld=>?_)
   clear ST;have ST:=SD;clear SD
   refine with_tabW patNo.tab patNo.bits (fun HT_ HW_=>?_)
   refine p1 1 103 2 HT_ (v:=?_) ?_ (a':=?_) ?_ ?_
   rotate_left
   ·intro w';go_simp;with_reducible rfl
   rotate_left
   ·simp only [Act.put,sA,sB,sC,i64_w,i32_w];rfl
   refine p1 2 104 6 HT_ (v:=?_) ?_ (a':=?_) ?_ ?_
   rotate_left
   ·intro w';go_simp;with_reducible rfl
   rotate_left
   ·simp only [Act.put,sA,sB,sC,i64_w,i32_w];rfl
   refine p1 5 107 38 HT_ (v:=?_) ?_ (a':=?_) ?_ ?_
   rotate_left
   ·intro w';go_simp;with_reducible rfl
   rotate_left
   ·simp only [Act.put,sA,sB,sC,i64_w,i32_w];rfl
   refine p2 0 102 39 HT_ HW_ (v:=?_) ?_ hHeld (a':=?_) ?_ ?_
   rotate_left
   ·intro w' hs;refine (pat_load_run (by rfl) gp (by rfl) _ _ hs).trans ?_;with_reducible rfl
   rotate_left
   ·simp only [Act.put,sA,sB,sC,i64_w,i32_w];rfl
   refine p2 3 105 47 HT_ HW_ (v:=?_) ?_ hHeld (a':=?_) ?_ ?_
   rotate_left
   ·intro w' hs;have q:World.cell? w' ⟨gp,13,none⟩=some (.int .i64 (x:Int)):=hs.cell 13;clear hs;go_simp;with_reducible rfl
   rotate_left
   ·simp only [Act.put,sA,sB,sC,i64_w,i32_w];rfl
   refine p2 6 108 111 HT_ HW_ (v:=?_) ?_ hHeld (a':=?_) ?_ ?_
   rotate_left
   ·intro w' hs;have q:World.cell? w' ⟨gp,13,none⟩=some (.int .i64 (x:Int)):=hs.cell 13;clear hs;go_simp;with_reducible rfl
   rotate_left
   ·simp only [Act.put,sA,sB,sC,i64_w,i32_w];rfl
   refine p1 4 106 127 HT_ (v:=?_) ?_ (a':=?_) ?_ ?_
   rotate_left
   ·intro w';go_simp;with_reducible rfl
   rotate_left
   ·simp only [Act.put,sA,sB,sC,i64_w,i32_w];rfl
   refine p1 7 109 255 HT_ (v:=?_) ?_ (a':=?_) ?_ ?_
   rotate_left
   ·intro w';go_simp;with_reducible rfl
   rotate_left
   ·simp only [Act.put,sA,sB,sC,i64_w,i32_w];rfl
   refine one_ (i:=8) (N:=none) (bZ 11 511) rfl rfl (one_of HT_.out (by kernel_rfl)) (by decide) (fun K hK=>?_)
   refine pat_store_step (by rfl) rfl rfl gr rfl _ _ rfl _ _ ST.out.r ?_
   intro w7 hw7 hb7
   replace ST:=zA (ST.out.ret hw7 hb7)
   clear hw7 hb7 hHeld
   refine hK.out _ _ ST.out.p (fun hHeld=>?_)
   clear hK K
   refine p1 9 7 1023 HT_ (v:=?_) ?_ (a':=?_) ?_ ?_
   rotate_left
   ·intro w';go_simp;with_reducible rfl
   rotate_left
   ·simp only [Act.put,sA,sB,sC,i64_w,i32_w];rfl
   refine p1 10 8 2047 HT_ (v:=?_) ?_ (a':=?_) ?_ ?_
   rotate_left
   ·intro w';go_simp;with_reducible rfl
   rotate_left
   ·simp only [Act.put,sA,sB,sC,i64_w,i32_w];rfl
   refine done_ (done_of HT_.out (by kernel_rfl)) ?_
   go_wp2
   refine bodyPost_ret (pat_results rfl _ gr rfl _ _ ST.out.r) rfl ?_
   rw [NE.out]
   have hwm:wrap64 (j+1+1+(x:Int))=j+1+1+(x:Int):=w64 _ (by omega) (by omega)
   by_cases hs:0<x
   ·rw [if_pos hs]
    refine ⟨?_,ST.out.b⟩
    show Ending.returned _=_
    simp [hs,hwm]
   rw [if_neg hs]
   refine ⟨⟨({ q with plus:=true,exp:=(x:Int) }:PS),j+1+1+(x:Int),?_⟩,ST.out.b⟩
   simp [hs,hwm]
  have e:=NE.out
  rw [if_neg hp] at e
  obtain ⟨y,hy⟩:∃ y,atN l (j+1)=y:=⟨_,rfl⟩
  rw [hy] at KJ1 hp
  have d2:(y == 43)=false:=zF hp
  obtain ⟨x,hx⟩:∃ x,manyN l (j+1) 48=x:=⟨_,rfl⟩
  have hxl:x≤1000:=by have:=HML.out (j+1) 48;omega
  have K48:=zA (fun W (hb:Below w.heap.size w W)=>KM.out (j+1) 48 (by omega) (by omega) (by omega) W hb)
  rw [hx] at K48 e
  replace NE:=zA e
  clear hx hp hy e
  go_wp2_with (first|(go_at_call 88;(with_reducible refine (KJ.out _ ST.out.b).mono ?_);rintro e w9 ⟨rfl,hb9⟩;replace ST:=zA (ST.out.below hb9);clear hb9)|(go_at_call 88;(with_reducible refine (KJ1.out _ ST.out.b).mono ?_);rintro e w10 ⟨rfl,hb10⟩;replace ST:=zA (ST.out.below hb10);clear hb10)|(go_at_call 131;(with_reducible refine (K48.out _ ST.out.b).mono ?_);rintro e w11 ⟨rfl,hb11⟩;replace ST:=zA (ST.out.below hb11);clear hb11;have c13:World.cell? _ ⟨gp,13,none⟩=some (.int .i64 q.exp):=ST.out.p.cell 13;have f13:=ST.out.p.free 13)|((with_reducible refine gate_store (t:=3) (p:=101) rfl ?_);refine pat_field rfl rfl rfl gp 13 (.int .i64 (x:Int)) _ ({ q with exp:=(x:Int) }) _ _ ST.out.p rfl (by first|(go_simp;done)|(go_simp;rfl)) ?_;intro w8 hw8 hbt8;replace ST:=zA (ST.out.put hw8 hbt8);clear hw8 hbt8;clear c13 f13))
  have SD:=zA ST.out.drew
  refine start_ (n:=11) (S:=fun w'=>PBox gp { q with exp:=(x:Int) } v w') (ds:=[]) (bZ 11 0) (by kernel_rfl) rfl (by kernel_rfl) SD.out.p (fun hHeld=>?_)
  clear ST;have ST:=SD;clear SD
  refine with_tabW patNo.tab patNo.bits (fun HT_ HW_=>?_)
  refine p1 1 103 2 HT_ (v:=?_) ?_ (a':=?_) ?_ ?_
  rotate_left
  ·intro w';go_simp;with_reducible rfl
  rotate_left
  ·simp only [Act.put,sA,sB,sC,i64_w,i32_w];rfl
  refine p1 2 104 6 HT_ (v:=?_) ?_ (a':=?_) ?_ ?_
  rotate_left
  ·intro w';go_simp;with_reducible rfl
  rotate_left
  ·simp only [Act.put,sA,sB,sC,i64_w,i32_w];rfl
  refine p1 5 107 38 HT_ (v:=?_) ?_ (a':=?_) ?_ ?_
  rotate_left
  ·intro w';go_simp;with_reducible rfl
  rotate_left
  ·simp only [Act.put,sA,sB,sC,i64_w,i32_w];rfl
  refine p2 0 102 39 HT_ HW_ (v:=?_) ?_ hHeld (a':=?_) ?_ ?_
  rotate_left
  ·intro w' hs;refine (pat_load_run (by rfl) gp (by rfl) _ _ hs).trans ?_;with_reducible rfl
  rotate_left
  ·simp only [Act.put,sA,sB,sC,i64_w,i32_w];rfl
  refine p2 3 105 47 HT_ HW_ (v:=?_) ?_ hHeld (a':=?_) ?_ ?_
  rotate_left
  ·intro w' hs;have q:World.cell? w' ⟨gp,13,none⟩=some (.int .i64 (x:Int)):=hs.cell 13;clear hs;go_simp;with_reducible rfl
  rotate_left
  ·simp only [Act.put,sA,sB,sC,i64_w,i32_w];rfl
  refine p2 6 108 111 HT_ HW_ (v:=?_) ?_ hHeld (a':=?_) ?_ ?_
  rotate_left
  ·intro w' hs;have q:World.cell? w' ⟨gp,13,none⟩=some (.int .i64 (x:Int)):=hs.cell 13;clear hs;go_simp;with_reducible rfl
  rotate_left
  ·simp only [Act.put,sA,sB,sC,i64_w,i32_w];rfl
  refine p1 4 106 127 HT_ (v:=?_) ?_ (a':=?_) ?_ ?_
  rotate_left
  ·intro w';go_simp;with_reducible rfl
  rotate_left
  ·simp only [Act.put,sA,sB,sC,i64_w,i32_w];rfl
  refine p1 7 109 255 HT_ (v:=?_) ?_ (a':=?_) ?_ ?_
  rotate_left
  ·intro w';go_simp;with_reducible rfl
  rotate_left
  ·simp only [Act.put,sA,sB,sC,i64_w,i32_w];rfl
  refine one_ (i:=8) (N:=none) (bZ 11 511) rfl rfl (one_of HT_.out (by kernel_rfl)) (by decide) (fun K hK=>?_)
  refine pat_store_step (by rfl) rfl rfl gr rfl _ _ rfl _ _ ST.out.r ?_
  intro w7 hw7 hb7
  replace ST:=zA (ST.out.ret hw7 hb7)
  clear hw7 hb7 hHeld
  refine hK.out _ _ ST.out.p (fun hHeld=>?_)
  clear hK K
  refine p1 9 7 1023 HT_ (v:=?_) ?_ (a':=?_) ?_ ?_
  rotate_left
  ·intro w';go_simp;with_reducible rfl
  rotate_left
  ·simp only [Act.put,sA,sB,sC,i64_w,i32_w];rfl
  refine p1 10 8 2047 HT_ (v:=?_) ?_ (a':=?_) ?_ ?_
  rotate_left
  ·intro w';go_simp;with_reducible rfl
  rotate_left
  ·simp only [Act.put,sA,sB,sC,i64_w,i32_w];rfl
  refine done_ (done_of HT_.out (by kernel_rfl)) ?_
  go_wp2
  refine bodyPost_ret (pat_results rfl _ gr rfl _ _ ST.out.r) rfl ?_
  rw [NE.out]
  have hwm:wrap64 (j+1+(x:Int))=j+1+(x:Int):=w64 _ (by omega) (by omega)
  by_cases hs:0<x
  ·rw [if_pos hs]
   refine ⟨?_,ST.out.b⟩
   show Ending.returned _=_
   simp [hs,hwm]
  rw [if_neg hs]
  refine ⟨⟨({ q with exp:=(x:Int) }:PS),j+1+(x:Int),?_⟩,ST.out.b⟩
  simp [hs,hwm]
structure RDec (l:List Int)(e:Int):Prop where
  figs:Figs l
  tail:RightTail l e
theorem rdec_of {l:List Int}{e:Int}(hw:∀ b_ ∈ l,(Lit.int .u8 b_).wf=true)(h:Right l e):RDec l e:=by
 refine ⟨fun d hd=>⟨(wf_u8 (hw d hd)).1,?_⟩,h.2⟩
 obtain ⟨i,hi,rfl⟩:=List.mem_iff_getElem.1 hd
 have:=h.1 i hi
 simpa [rd,List.getD_eq_getElem?_getD,List.getElem?_eq_getElem hi] using this
theorem RDec.right {l:List Int}{e:Int}(h:RDec l e):Right l e:=⟨fun i _=>(rd_figs h.figs i).2,h.tail⟩
theorem RDec.len {l:List Int}{e:Int}(h:RDec l e):l.length≤1000:=by rcases h.tail with h|h <;> omega
theorem RDec.exp {l:List Int}{e:Int}(h:RDec l e) : -1000≤e∧e≤1000:=by rcases h.tail with h|h <;> omega
theorem RDec.nil:RDec [] 0:=⟨Figs.nil,.inl ⟨rfl,rfl⟩⟩
theorem RDec.first {l:List Int}{e:Int}(h:RDec l e)(hl:0<l.length):0<rd l 0:=by rcases h.tail with h|h <;> omega
theorem RDec.last {l:List Int}{e:Int}(h:RDec l e)(hl:0<l.length):0<rd l ((l.length:Int) - 1):=by rcases h.tail with h|h <;> omega
theorem RDec.nought {l:List Int}{e:Int}(h:RDec l e)(hl:l.length=0):e=0:=by rcases h.tail with h|h <;> omega
theorem right_ev (g:Bool)(l:List Int)(e:Int)(hm:l.length≤9223372036854775807):∃ t,Ev (fun k=>exergueref05_Right.f k g l e) t∧(t=true ↔ Right l e):=by
 obtain ⟨t,k,hk,hi⟩:=right_many g l e hm
 exact ⟨t,⟨k,fun j hj=>hk j hj⟩,hi⟩
theorem right_cases (g:Bool){l:List Int}{e:Int}(hm:l.length≤maxLen)(hw:∀ b_ ∈ l,(Lit.int .u8 b_).wf=true) :
    (Ev (fun k=>exergueref05_Right.f k g l e) true∧RDec l e)∨Ev (fun k=>exergueref05_Right.f k g l e) false:=by
 obtain ⟨t,ht,hi⟩:=right_ev g l e (len_max hm)
 cases t with
 | true=>exact .inl ⟨ht,rdec_of hw (hi.1 rfl)⟩
 | false=>exact .inr ht
def mag (l:List Int)(e:Int):Int:=mx (l.length:Int) 1+e - 1
theorem mag_pos {l:List Int}(hl:0<l.length)(e:Int):mag l e=l.length+e - 1:=by unfold mag mx;split <;> omega
theorem mag_e (g:Bool)(l:List Int)(e:Int)(hl:l.length≤100000)(he : -100000≤e∧e≤100000):dec_Mag.f g l e=some (mag l e):=by
 unfold dec_Mag.f mag
 have hm:0≤mx (l.length:Int) 1∧mx (l.length:Int) 1≤100000:=by unfold mx;split <;> omega
 generalize mx (l.length:Int) 1=m at hm ⊢
 rw [w64 (m+e) (by omega) (by omega),w64 _ (by omega) (by omega)]
theorem same_e (ga gb:Bool)(a b:List Int)(ea eb:Int)(hm:a.length≤9223372036854775807):Ev (fun k=>exergueref05_Same.f k ga a ea gb b eb) (decide (ga=gb∧a=b∧ea=eb)):=by
 unfold exergueref05_Same.f
 refine Ev.bind (row_e a b hm) ?_
 by_cases h1:a=b
 ·simp only [h1,decide_true,if_true]
  by_cases h2:ga=gb
  ·simp only [h2,beq_self_eq_true,if_true,true_and]
   exact Ev.congr (fun _=>by rw [show (ea == eb)=decide (ea=eb) by rw [Bool.eq_iff_iff];simp]) (Ev.now _)
  have h3:(ga == gb)=false:=by simpa using h2
  simp only [h3,h2,decide_false,Bool.false_eq_true,if_false,false_and]
  exact Ev.now _
 simp only [h1,decide_false,Bool.false_eq_true,if_false,false_and,and_false]
 exact Ev.now _
theorem same_self (g:Bool)(a:List Int)(e:Int)(hm:a.length≤9223372036854775807):Ev (fun k=>exergueref05_Same.f k g a e g a e) true:=by
 have:=same_e g g a a e e hm
 simpa using this
theorem valN_inj {a b:List Int}{ea eb:Int}(ha:RDec a ea)(hb:RDec b eb)(ha0:0<a.length)(hb0:0<b.length)(h:valN a ea=valN b eb):a=b∧ea=eb:=by
 have la:=ha.len
 have lb:=hb.len
 have xa:=ha.exp
 have xb:=hb.exp
 have va:=valN_bounds ha.figs ha0 (ha.first ha0) ea (by omega)
 have vb:=valN_bounds hb.figs hb0 (hb.first hb0) eb (by omega)
 have l1:=T10_lt (show T10 (a.length+ea+2999).toNat<T10 (b.length+eb+3000).toNat by omega)
 have l2:=T10_lt (show T10 (b.length+eb+2999).toNat<T10 (a.length+ea+3000).toNat by omega)
 have hs:(a.length:Int)+ea=b.length+eb:=by omega
 obtain ⟨N,hNa,hNb,hN⟩:∃ N:Nat,a.length≤N∧b.length≤N∧N≤1000:=⟨max a.length b.length,by omega,by omega,by omega⟩
 have pa:=valN_pad ea N hNa (by omega)
 have pb:=valN_pad eb N hNb (by omega)
 rw [hs] at pa
 have e1:num (pad a N)=num (pad b N):=Int.eq_of_mul_eq_mul_right (Int.ne_of_gt (T10_pos _)) (by rw [← pa,← pb];exact h)
 have e2:pad a N=pad b N:=num_inj (pad_figs ha.figs N) (pad_figs hb.figs N) (by rw [pad_length _ _ hNa,pad_length _ _ hNb]) e1
 have e3:∀ k:Nat,rd a k=rd b k:=fun k=>by rw [← pad_rd a N k,e2,pad_rd]
 have hl:a.length=b.length:=by
  rcases Nat.lt_trichotomy a.length b.length with g|g|g
  ·have:=hb.last hb0
   have e:(b.length:Int) - 1=((b.length - 1:Nat):Int):=by omega
   rw [e,← e3,rd_out a _ (by omega)] at this
   omega
  · exact g
  have:=ha.last ha0
  have e:(a.length:Int) - 1=((a.length - 1:Nat):Int):=by omega
  rw [e,e3,rd_out b _ (by omega)] at this
  omega
 refine ⟨?_,by omega⟩
 unfold pad at e2
 exact (List.append_inj e2 hl).1
theorem RDec.val_zero {l:List Int}{e:Int}(h:RDec l e)(g:Bool):val g l e=0 ↔ l=[]:=by
 constructor
 ·intro hv
  apply Classical.byContradiction
  intro hn
  have h0:0<l.length:=List.length_pos_iff.2 hn
  have:=valN_pos h.figs h0 (h.first h0) e
  unfold val at hv
  split at hv <;> omega
 rintro rfl
 exact val_nil g e
theorem RDec.val_eq {ga gb:Bool}{a b:List Int}{ea eb:Int}(ha:RDec a ea)(hb:RDec b eb):val ga a ea=val gb b eb ↔ ((ga=gb∧a=b∧ea=eb)∨(a=[]∧b=[])):=by
 constructor
 ·intro h
  by_cases h0:a=[]
  ·have:=(ha.val_zero ga).2 h0
   exact .inr ⟨h0,(hb.val_zero gb).1 (by omega)⟩
  by_cases h1:b=[]
  ·have:=(hb.val_zero gb).2 h1
   exact absurd ((ha.val_zero ga).1 (by omega)) h0
  have a0:0<a.length:=List.length_pos_iff.2 h0
  have b0:0<b.length:=List.length_pos_iff.2 h1
  have pa:=valN_pos ha.figs a0 (ha.first a0) ea
  have pb:=valN_pos hb.figs b0 (hb.first b0) eb
  unfold val at h
  cases ga <;> cases gb <;> simp only [Bool.false_eq_true,if_false,if_true] at h
  · exact .inl ⟨rfl,valN_inj ha hb a0 b0 h⟩
  · omega
  · omega
  exact .inl ⟨rfl,valN_inj ha hb a0 b0 (by omega)⟩
 rintro (⟨rfl,rfl,rfl⟩|⟨rfl,rfl⟩)
 · rfl
 rw [val_nil,val_nil]
end Go.Proofs.YtklebhlanidloaaGreatDoor.PZ
end
