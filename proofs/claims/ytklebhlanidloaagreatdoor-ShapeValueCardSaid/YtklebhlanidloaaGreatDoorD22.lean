/- Texts of this seat, joined. Conditions: none beyond each statement's own. -/
import Derived.Test.YtklebhlanidloaaGreatDoorD21
set_option linter.all false
section
set_option maxRecDepth 100000
namespace Go.Proofs.YtklebhlanidloaaGreatDoor.PZ
open Go.RowKit Go.Proofs.YtklebhlanidloaaGreatDoorW.PrintWords Go.Proofs.YtklebhlanidloaaGreatDoorW.PrintLast
def sepB (s:PS)(k:Int):Bool:=decide (0<s.g1) && (decide (k=s.g1) || (decide (s.g1<k) && (decide (0<s.g2) && decide ((k - s.g1) % s.g2=0))))
def numL (s:PS):Nat→ByteArray
  | 0=>⟨#[]⟩
  | n+1=>(if (n:Int)<s.minInt then ⟨#[48]⟩ else ⟨#[35]⟩) ++ (if sepB s n=true then ⟨#[44]⟩ ++ numL s n else numL s n)
theorem numL_size (s:PS)(n:Nat):(numL s n).size≤2 * n:=by
 induction n with
 | zero=>simp [numL,ByteArray.size]
 | succ n ih=>
  have h1:∀ t:ByteArray,((if (n:Int)<s.minInt then (⟨#[48]⟩:ByteArray) else ⟨#[35]⟩) ++ t).size=t.size+1:=fun t=>by
   rw [ByteArray.size_append]
   split
   · show 1+_=_;omega
   show 1+_=_;omega
  unfold numL
  rw [h1]
  split
  · rw [ByteArray.size_append];show 1+_+1≤_;omega
  omega
def sigS (s:PS):ByteArray:=(tmsS ⟨#[64]⟩ s.minSig.toNat ++ tmsS ⟨#[35]⟩ (s.maxSig - s.minSig).toNat) ++ numL s (s.hash+s.minInt).toNat
def fracS (s:PS):ByteArray:=if 0<s.maxFrac then ((sigS s ++ ⟨#[46]⟩) ++ tmsS ⟨#[48]⟩ s.minFrac.toNat) ++ tmsS ⟨#[35]⟩ (s.maxFrac - s.minFrac).toNat else sigS s
def numS (s:PS):ByteArray:=if 0<s.exp then (if s.plus=true then (fracS s ++ ⟨#[69]⟩) ++ ⟨#[43]⟩ else fracS s ++ ⟨#[69]⟩) ++ tmsS ⟨#[48]⟩ s.exp.toNat else fracS s
structure PS.nums (s:PS):Prop where
  hash:0≤s.hash∧s.hash≤40
  minInt:0≤s.minInt∧s.minInt≤40
  minFrac:0≤s.minFrac∧s.minFrac≤40
  maxFrac:0≤s.maxFrac∧s.maxFrac≤40
  g1:0≤s.g1∧s.g1≤40
  g2:0≤s.g2∧s.g2≤40
  minSig:0≤s.minSig∧s.minSig≤40
  maxSig:0≤s.maxSig∧s.maxSig≤40
  exp:0≤s.exp∧s.exp≤40
theorem times_q (x:ByteArray)(n:Int)(w:World)(hs:x.size≤1)(hn:n≤1000):Calls Tryz.prog 117 #[.string x,.int .i64 n] w fun e w'=>e = .returned (.string (tmsS x n.toNat))∧∃ m,w'=w.drewN m:=by
 obtain ⟨k,hk⟩:=(times_ev x n hs hn).rounds
 exact (exergueref10_times.calls k x n _ w hk).mono fun _ _ h=>⟨h.1,h.2.out⟩
theorem quiet_addQ {P:Program}{f:FuncId}{args:Array Value}{w:World}{a n:Nat}{v:Value}
    (h:Calls P f args (w.drewN (a+n)) fun e w'=>e = .returned v∧∃ m,w'=(w.drewN (a+n)).drewN m) :
    Calls P f args (w.drewN (a+n)) fun e w''=>e = .returned v∧∃ m,w''=w.drewN (a+m):=
  h.mono fun _ _ ⟨he,m,hm⟩=>⟨he,n+m,by rw [hm,World.drewN_drewN,Nat.add_assoc]⟩
structure P1 (w W:World)(gp:Nat)(s:PS)(v:V4):Prop where
  p:PBox gp s v W
  hp:w.heap.size≤gp
  b:Below w.heap.size w W
theorem sz3 {a b c:ByteArray}(ha:a.size≤100)(hb:b.size≤100)(hc:c.size≤200):((a ++ b) ++ c).size≤400:=by rw [ByteArray.size_append,ByteArray.size_append];omega
theorem P1.start {w W:World}{gp:Nat}{s:PS}{v:V4}(hg:gp=w.heap.size)(hp:PBox gp s v W)(hb:Below w.heap.size w W):P1 w W gp s v:=⟨hp,by omega,hb⟩
theorem P1.below {w W W1:World}{gp:Nat}{s:PS}{v:V4}(h:P1 w W gp s v)(hb:Below W.heap.size W W1):P1 w W1 gp s v:=⟨h.p.below hb,h.hp,h.b.trans (hb.mono h.b.size)⟩
theorem P1.drewN {w W:World}{gp:Nat}{s:PS}{v:V4}(h:P1 w W gp s v)(n:Nat):P1 w (W.drewN n) gp s v:=h.below (pw_below_drewN (Below.refl _ _) n)
set_option maxHeartbeats 1000000 in
set_option maxRecDepth 100000 in
theorem padded_c (s:PS)(v:V4)(wh:Int)(w:World):Calls Tryz.prog 90 #[s.val v,.int .i64 wh] w fun e w'=>e = .returned (.string (if s.padAt=wh then ⟨#[42]⟩ ++ textV s.pad else ⟨#[]⟩))∧Below w.heap.size w w':=by
 obtain ⟨htx,ht4⟩:=ptext_f s.pad
 have KT:=zA (fun W=>exergueref10_text.calls s.pad (textV s.pad) W htx)
 clear htx
 by_cases h:s.padAt=wh
 ·have d:(s.padAt == wh)=true:=zH h
  rw [if_pos h]
  clear h
  go_enter Tryz.func90,Tryz.ntmps90
  go_wp2_with (first|((with_reducible refine gate_dst (N:=2) rfl ?_);refine pat_box rfl rfl rfl s v rfl ?_;intro gp w1 hgp hbp hb1;have ST:=zA (P1.start hgp hbp hb1);clear hgp hbp hb1;have c15:World.cell? _ ⟨gp,15,none⟩=some (.int .i32 s.pad):=ST.out.p.cell 15;have c16:World.cell? _ ⟨gp,16,none⟩=some (.int .i64 s.padAt):=ST.out.p.cell 16)|(go_at_call 115;(with_reducible refine (KT.out _).mono ?_);rintro e w3 ⟨rfl,hb3⟩;replace ST:=zA (ST.out.below hb3);clear hb3))
  go_ret
  exact ⟨rfl,ST.out.b⟩
 have d:(s.padAt == wh)=false:=zF h
 rw [if_neg h]
 clear h
 go_enter Tryz.func90,Tryz.ntmps90
 go_wp2_with (first|((with_reducible refine gate_dst (N:=2) rfl ?_);refine pat_box rfl rfl rfl s v rfl ?_;intro gp w1 hgp hbp hb1;have ST:=zA (P1.start hgp hbp hb1);clear hgp hbp hb1;have c15:World.cell? _ ⟨gp,15,none⟩=some (.int .i32 s.pad):=ST.out.p.cell 15;have c16:World.cell? _ ⟨gp,16,none⟩=some (.int .i64 s.padAt):=ST.out.p.cell 16))
 go_ret
 exact ⟨rfl,ST.out.b⟩
set_option maxHeartbeats 4000000 in
set_option maxRecDepth 100000 in
theorem numberS_c (s:PS)(v:V4)(w:World)(hs:s.nums):Calls Tryz.prog 92 #[s.val v] w fun e w'=>e = .returned (.string (numS s))∧Below w.heap.size w w':=by
 obtain ⟨n1,n2,n3,n4,n5,n6,n7,n8,n9⟩:=hs
 obtain ⟨N,hN⟩:=Int.eq_ofNat_of_zero_le (show 0≤s.hash+s.minInt by omega)
 have KT:=zA times_q
 have HL:=zA (numL_size s)
 have HTZ:=zA tmsS_size
 have HN:=zA hN
 clear hN
 go_enter Tryz.func92,Tryz.ntmps92
 go_wp2_with (first|((with_reducible refine gate_dst (N:=1) rfl ?_);refine pat_box rfl rfl rfl s v rfl ?_;intro gp w1 hgp hbp hb1;have ST:=zA (P1.start hgp hbp hb1);clear hgp hbp hb1))
 go_loopw [3,4] (fun s3 s4 wr=>∃ k:Nat,k≤N∧s4 = .int .i64 k∧s3 = .string (numL s k)∧Aside0 (P1 w wr gp s v)) (fun _ s4 _=>N - (intOf s4).toNat)
 case atStart=>exact ⟨0,Nat.zero_le _,rfl,rfl,ST⟩
 case round=>
  clear ST
  obtain ⟨k,hk,rfl,rfl,ST⟩:=hrel
  have hkN:(N:Int)=s.hash+s.minInt:=HN.out.symm
  have hz:=HL.out k
  have c5:World.cell? _ ⟨gp,5,none⟩=some (.int .i64 s.hash):=ST.out.p.cell 5;have c6:World.cell? _ ⟨gp,6,none⟩=some (.int .i64 s.minInt):=ST.out.p.cell 6;have c7:World.cell? _ ⟨gp,7,none⟩=some (.int .i64 s.minFrac):=ST.out.p.cell 7;have c8:World.cell? _ ⟨gp,8,none⟩=some (.int .i64 s.maxFrac):=ST.out.p.cell 8;have c9:World.cell? _ ⟨gp,9,none⟩=some (.int .i64 s.g1):=ST.out.p.cell 9;have c10:World.cell? _ ⟨gp,10,none⟩=some (.int .i64 s.g2):=ST.out.p.cell 10;have c11:World.cell? _ ⟨gp,11,none⟩=some (.int .i64 s.minSig):=ST.out.p.cell 11;have c12:World.cell? _ ⟨gp,12,none⟩=some (.int .i64 s.maxSig):=ST.out.p.cell 12;have c13:World.cell? _ ⟨gp,13,none⟩=some (.int .i64 s.exp):=ST.out.p.cell 13;have c14:World.cell? _ ⟨gp,14,none⟩=some (.bool s.plus):=ST.out.p.cell 14
  by_cases hlt:k<N
  rotate_left
  ·obtain rfl:k=N:=by omega
   have hlt2:¬ (k:Int)<s.hash+s.minInt:=by omega
   have hsig:sigS s=(tmsS ⟨#[64]⟩ s.minSig.toNat ++ tmsS ⟨#[35]⟩ (s.maxSig - s.minSig).toNat) ++ numL s k:=by unfold sigS;rw [← hkN,Int.toNat_natCast]
   have hnum:numS s=if 0<s.exp then (if s.plus=true then (fracS s ++ ⟨#[69]⟩) ++ ⟨#[43]⟩ else fracS s ++ ⟨#[69]⟩) ++ tmsS ⟨#[48]⟩ s.exp.toNat else fracS s:=rfl
   have hfr:fracS s=if 0<s.maxFrac then ((sigS s ++ ⟨#[46]⟩) ++ tmsS ⟨#[48]⟩ s.minFrac.toNat) ++ tmsS ⟨#[35]⟩ (s.maxFrac - s.minFrac).toNat else sigS s:=rfl
   rw [hfr,hsig] at hnum
   clear hfr hsig
   have one:∀ b:UInt8,(⟨#[b]⟩:ByteArray).size=1:=fun _=>rfl
   have z1:(tmsS ⟨#[64]⟩ s.minSig.toNat).size≤100:=by rw [HTZ.out,one];omega
   have z2:(tmsS ⟨#[35]⟩ (s.maxSig - s.minSig).toNat).size≤100:=by rw [HTZ.out,one];omega
   have z3:(tmsS ⟨#[48]⟩ s.minFrac.toNat).size≤100:=by rw [HTZ.out,one];omega
   have z4:(tmsS ⟨#[35]⟩ (s.maxFrac - s.minFrac).toNat).size≤100:=by rw [HTZ.out,one];omega
   have z5:(tmsS ⟨#[48]⟩ s.exp.toNat).size≤100:=by rw [HTZ.out,one];omega
   have z0:(numL s k).size≤200:=by omega
   clear one HTZ HL hz hkN
   generalize numL s k=T at *
   have w1_:IntKind.i64.wrap (s.maxSig - s.minSig)=s.maxSig - s.minSig:=by rw [IntKind.wrap_i64];omega
   have w2_:IntKind.i64.wrap (s.maxFrac - s.minFrac)=s.maxFrac - s.minFrac:=by rw [IntKind.wrap_i64];omega
   have SZ:=zA (sz3 z1 z2 z0)
   by_cases p1:0<s.maxFrac
   ·have b1:=zC p1
    rw [if_pos p1] at hnum
    by_cases p2:0<s.exp
    rotate_left
    ·have b2:=zD p2
     rw [if_neg p2] at hnum
     have HNUM:=zA hnum
     clear hnum
     go_wp2
     go_quiet ((go_at_call 117;exact quiet_addP (KT.out _ _ _ (Nat.le_refl 1) (by omega))))
     go_wp2
     go_quiet ((go_at_call 117;exact quiet_addQ (KT.out _ _ _ (Nat.le_refl 1) (by omega))))
     go_wp2
     go_ret
     exact ⟨by rw [HNUM.out];rfl,pw_below_drewN ST.out.b _⟩
    have b2:=zC p2
    rw [if_pos p2] at hnum
    cases p3:s.plus with
    | true=>
     rw [p3] at hnum c14
     simp only [if_true,Bool.false_eq_true,if_false] at hnum
     have HNUM:=zA hnum
     clear hnum
     go_wp2
     go_quiet ((go_at_call 117;exact quiet_addP (KT.out _ _ _ (Nat.le_refl 1) (by omega))))
     go_wp2
     go_quiet ((go_at_call 117;exact quiet_addQ (KT.out _ _ _ (Nat.le_refl 1) (by omega))))
     go_wp2_with (go_at_call 117;refine (KT.out ⟨#[48]⟩ s.exp _ (Nat.le_refl 1) (by omega)).mono ?_;rintro e w5 ⟨rfl,n5,rfl⟩)
     go_ret
     exact ⟨by rw [HNUM.out];rfl,by first|exact pw_below_drewN ST.out.b _|exact pw_below_drewN (pw_below_drewN ST.out.b _) _⟩
    | false=>
     rw [p3] at hnum c14
     simp only [if_true,Bool.false_eq_true,if_false] at hnum
     have HNUM:=zA hnum
     clear hnum
     go_wp2
     go_quiet ((go_at_call 117;exact quiet_addP (KT.out _ _ _ (Nat.le_refl 1) (by omega))))
     go_wp2
     go_quiet ((go_at_call 117;exact quiet_addQ (KT.out _ _ _ (Nat.le_refl 1) (by omega))))
     go_wp2_with (go_at_call 117;refine (KT.out ⟨#[48]⟩ s.exp _ (Nat.le_refl 1) (by omega)).mono ?_;rintro e w5 ⟨rfl,n5,rfl⟩)
     go_ret
     exact ⟨by rw [HNUM.out];rfl,by first|exact pw_below_drewN ST.out.b _|exact pw_below_drewN (pw_below_drewN ST.out.b _) _⟩
   have b1:=zD p1
   rw [if_neg p1] at hnum
   by_cases p2:0<s.exp
   rotate_left
   ·have b2:=zD p2
    rw [if_neg p2] at hnum
    have HNUM:=zA hnum
    clear hnum
    go_wp2
    go_quiet ((go_at_call 117;exact quiet_addP (KT.out _ _ _ (Nat.le_refl 1) (by omega))))
    go_wp2
    go_ret
    exact ⟨by rw [HNUM.out];rfl,pw_below_drewN ST.out.b _⟩
   have b2:=zC p2
   rw [if_pos p2] at hnum
   cases p3:s.plus with
   | true=>
    rw [p3] at hnum c14
    simp only [if_true,Bool.false_eq_true,if_false] at hnum
    have HNUM:=zA hnum
    clear hnum
    go_wp2
    go_quiet ((go_at_call 117;exact quiet_addP (KT.out _ _ _ (Nat.le_refl 1) (by omega))))
    go_wp2_with (go_at_call 117;refine (KT.out ⟨#[48]⟩ s.exp _ (Nat.le_refl 1) (by omega)).mono ?_;rintro e w5 ⟨rfl,n5,rfl⟩)
    go_ret
    exact ⟨by rw [HNUM.out];rfl,by first|exact pw_below_drewN ST.out.b _|exact pw_below_drewN (pw_below_drewN ST.out.b _) _⟩
   | false=>
    rw [p3] at hnum c14
    simp only [if_true,Bool.false_eq_true,if_false] at hnum
    have HNUM:=zA hnum
    clear hnum
    go_wp2
    go_quiet ((go_at_call 117;exact quiet_addP (KT.out _ _ _ (Nat.le_refl 1) (by omega))))
    go_wp2_with (go_at_call 117;refine (KT.out ⟨#[48]⟩ s.exp _ (Nat.le_refl 1) (by omega)).mono ?_;rintro e w5 ⟨rfl,n5,rfl⟩)
    go_ret
    exact ⟨by rw [HNUM.out];rfl,by first|exact pw_below_drewN ST.out.b _|exact pw_below_drewN (pw_below_drewN ST.out.b _) _⟩
  have hlt2:(k:Int)<s.hash+s.minInt:=by omega
  have hz2:(numL s k).size≤200:=by omega
  have hsz:∀ x:ByteArray,(⟨#[44]⟩ ++ x:ByteArray).size=1+x.size:=fun x=>ByteArray.size_append
  have hz3:(⟨#[44]⟩ ++ numL s k:ByteArray).size≤201:=by rw [hsz];omega
  clear hsz hz
  have hn1:sepB s k=true→(k:Int)<s.minInt→numL s (k+1)=⟨#[48]⟩ ++ (⟨#[44]⟩ ++ numL s k):=fun a b=>by rw [numL,if_pos b,if_pos a]
  have hn2:sepB s k=true→¬ (k:Int)<s.minInt→numL s (k+1)=⟨#[35]⟩ ++ (⟨#[44]⟩ ++ numL s k):=fun a b=>by rw [numL,if_neg b,if_pos a]
  have hn3:sepB s k=false→(k:Int)<s.minInt→numL s (k+1)=⟨#[48]⟩ ++ numL s k:=fun a b=>by rw [numL,if_pos b,if_neg (by rw [a];decide)]
  have hn4:sepB s k=false→¬ (k:Int)<s.minInt→numL s (k+1)=⟨#[35]⟩ ++ numL s k:=fun a b=>by rw [numL,if_neg b,if_neg (by rw [a];decide)]
  have H1:=zA hn1
  have H2:=zA hn2
  have H3:=zA hn3
  have H4:=zA hn4
  have HSE:=zA (show sepB s k=(decide (0<s.g1) && (decide ((k:Int)=s.g1) || (decide (s.g1<k) && (decide (0<s.g2) && decide (((k:Int) - s.g1) % s.g2=0))))) from rfl)
  clear hn1 hn2 hn3 hn4
  generalize numL s k=t at *
  by_cases p1:0<s.g1
  rotate_left
  ·have b1:=zD p1
   have hse:sepB s k=false:=by rw [HSE.out,b1];rfl
   have HS:=zA hse
   clear hse HSE
   by_cases q:(k:Int)<s.minInt
   ·have bq:=zC q
    have HE:=zA (H3.out HS.out q)
    clear H1 H2 H3 H4 HS q
    go_wp2
    go_roundw
    case rel=>exact ⟨k+1,by omega,by go_num,by rw [HE.out],ST⟩
    case measure=>simp [intOf];omega
   have bq:=zD q
   have HE:=zA (H4.out HS.out q)
   clear H1 H2 H3 H4 HS q
   go_wp2
   go_roundw
   case rel=>exact ⟨k+1,by omega,by go_num,by rw [HE.out],ST⟩
   case measure=>simp [intOf];omega
  have b1:=zC p1
  by_cases p2:(k:Int)=s.g1
  ·have b2:((k:Int) == s.g1)=true:=zH p2
   have hse:sepB s k=true:=by rw [HSE.out,b1,zC p2];rfl
   have HS:=zA hse
   clear hse HSE p2
   by_cases q:(k:Int)<s.minInt
   ·have bq:=zC q
    have HE:=zA (H1.out HS.out q)
    clear H1 H2 H3 H4 HS q
    go_wp2
    go_roundw
    case rel=>exact ⟨k+1,by omega,by go_num,by rw [HE.out],ST⟩
    case measure=>simp [intOf];omega
   have bq:=zD q
   have HE:=zA (H2.out HS.out q)
   clear H1 H2 H3 H4 HS q
   go_wp2
   go_roundw
   case rel=>exact ⟨k+1,by omega,by go_num,by rw [HE.out],ST⟩
   case measure=>simp [intOf];omega
  have b2:((k:Int) == s.g1)=false:=zF p2
  by_cases p3:s.g1<(k:Int)
  rotate_left
  ·have b3:=zD p3
   have hse:sepB s k=false:=by rw [HSE.out,b1,b3,zD p2];rfl
   have HS:=zA hse
   clear hse HSE
   by_cases q:(k:Int)<s.minInt
   ·have bq:=zC q
    have HE:=zA (H3.out HS.out q)
    clear H1 H2 H3 H4 HS q
    go_wp2
    go_roundw
    case rel=>exact ⟨k+1,by omega,by go_num,by rw [HE.out],ST⟩
    case measure=>simp [intOf];omega
   have bq:=zD q
   have HE:=zA (H4.out HS.out q)
   clear H1 H2 H3 H4 HS q
   go_wp2
   go_roundw
   case rel=>exact ⟨k+1,by omega,by go_num,by rw [HE.out],ST⟩
   case measure=>simp [intOf];omega
  have b3:=zC p3
  by_cases p4:0<s.g2
  rotate_left
  ·have b4:=zD p4
   have hse:sepB s k=false:=by rw [HSE.out,b1,b3,b4,zD p2];rfl
   have HS:=zA hse
   clear hse HSE
   by_cases q:(k:Int)<s.minInt
   ·have bq:=zC q
    have HE:=zA (H3.out HS.out q)
    clear H1 H2 H3 H4 HS q
    go_wp2
    go_roundw
    case rel=>exact ⟨k+1,by omega,by go_num,by rw [HE.out],ST⟩
    case measure=>simp [intOf];omega
   have bq:=zD q
   have HE:=zA (H4.out HS.out q)
   clear H1 H2 H3 H4 HS q
   go_wp2
   go_roundw
   case rel=>exact ⟨k+1,by omega,by go_num,by rw [HE.out],ST⟩
   case measure=>simp [intOf];omega
  have b4:=zC p4
  by_cases p5:((k:Int) - s.g1) % s.g2=0
  ·have b5:(((k:Int) - s.g1) % s.g2 == 0)=true:=zH p5
   have hse:sepB s k=true:=by rw [HSE.out,b1,b3,b4,zC p5,zD p2];rfl
   have HS:=zA hse
   clear hse HSE p5
   by_cases q:(k:Int)<s.minInt
   ·have bq:=zC q
    have HE:=zA (H1.out HS.out q)
    clear H1 H2 H3 H4 HS q
    go_wp2
    go_roundw
    case rel=>exact ⟨k+1,by omega,by go_num,by rw [HE.out],ST⟩
    case measure=>simp [intOf];omega
   have bq:=zD q
   have HE:=zA (H2.out HS.out q)
   clear H1 H2 H3 H4 HS q
   go_wp2
   go_roundw
   case rel=>exact ⟨k+1,by omega,by go_num,by rw [HE.out],ST⟩
   case measure=>simp [intOf];omega
  have b5:(((k:Int) - s.g1) % s.g2 == 0)=false:=zF p5
  have hse:sepB s k=false:=by rw [HSE.out,b1,b3,b4,zD p5,zD p2];rfl
  have HS:=zA hse
  clear hse HSE p5
  by_cases q:(k:Int)<s.minInt
  ·have bq:=zC q
   have HE:=zA (H3.out HS.out q)
   clear H1 H2 H3 H4 HS q
   go_wp2
   go_roundw
   case rel=>exact ⟨k+1,by omega,by go_num,by rw [HE.out],ST⟩
   case measure=>simp [intOf];omega
  have bq:=zD q
  have HE:=zA (H4.out HS.out q)
  clear H1 H2 H3 H4 HS q
  go_wp2
  go_roundw
  case rel=>exact ⟨k+1,by omega,by go_num,by rw [HE.out],ST⟩
  case measure=>simp [intOf];omega
theorem tails_l0 (l:List Int)(i m:Nat)(hl:l.length≤100000)(him:i+m<l.length):∀ (d x:Nat)(n:Int),x+d=m+1→1≤x→∃ r,Ev (fun k=>exergueref01_tails.l0 k l i m n x) r:=by
 intro d
 induction d with
 | zero=>
  intro x n hx h1
  refine ⟨n,Ev_shift ?_⟩
  simp only [exergueref01_tails.l0,if_neg (show ¬ (x:Int)≤(m:Int) by omega)]
  exact Ev.now _
 | succ d ih=>
  intro x n hx h1
  have e:wrap64 ((i:Int)+(x:Int))=((i+x:Nat):Int):=by rw [w64 _ (by omega) (by omega)];omega
  have e2:wrap64 ((x:Int)+1)=((x+1:Nat):Int):=by rw [w64 _ (by omega) (by omega)];omega
  have p0:(0:Int)≤((i+x:Nat):Int):=by omega
  have p1:((i+x:Nat):Int)<(l.length:Int):=by omega
  by_cases c1:wrap64 (rd l ((i+x:Nat):Int))<128
  ·refine ⟨-1,Ev_shift ?_⟩
   simp only [exergueref01_tails.l0,if_pos (show (x:Int)≤(m:Int) by omega),e,if_pos p0,if_pos p1,if_pos c1]
   exact Ev.now _
  by_cases c2:wrap64 (rd l ((i+x:Nat):Int))>191
  ·refine ⟨-1,Ev_shift ?_⟩
   simp only [exergueref01_tails.l0,if_pos (show (x:Int)≤(m:Int) by omega),e,if_pos p0,if_pos p1,if_neg c1,if_pos c2]
   exact Ev.now _
  obtain ⟨r,hr⟩:=ih (x+1) (wrap64 ((wrap64 ((wrap64 (n * 64))+(wrap64 (rd l ((i+x:Nat):Int))))) - 128)) (by omega) (by omega)
  refine ⟨r,Ev_shift ?_⟩
  simp only [exergueref01_tails.l0,if_pos (show (x:Int)≤(m:Int) by omega),e,if_pos p0,if_pos p1,if_neg c1,if_neg c2,e2]
  exact hr
theorem tails_ex (l:List Int)(i m:Nat)(n:Int)(hl:l.length≤100000)(hi:i<l.length)(hm:m≤3):∃ r,Ev (fun k=>exergueref01_tails.f k l i m n) r:=by
 have e:wrap64 ((i:Int)+(m:Int))=((i+m:Nat):Int):=by rw [w64 _ (by omega) (by omega)];omega
 unfold exergueref01_tails.f
 by_cases h:((i+m:Nat):Int)≥(l.length:Int)
 ·simp only [e,if_pos h]
  exact ⟨_,Ev.now _⟩
 simp only [e,if_neg h]
 exact tails_l0 l i m hl (by omega) m 1 n (by omega) (Nat.le_refl _)
def RuneOk (n:Int):Prop:=n<0∨exergueref01_Is.f (wrap32 n)=some true
theorem one_ex (l:List Int)(i:Nat)(hl:l.length≤100000)(hi:i<l.length):∃ r,Ev (fun k=>exergueref01_one.f k l i) r∧RuneOk r:=by
 have j5:∀ (c n least:Int) (b:Bool),∃ r,Ev (fun k=>exergueref01_one.j5 k l i c n least b) r∧RuneOk r:=by
  intro c n least b
  cases b with
  | true=>
   obtain ⟨t,ht⟩:=tails_ex l i 3 (wrap64 (c - 240)) hl hi (by omega)
   obtain ⟨b,hb⟩:=is_ex (wrap32 t)
   by_cases h:t<65536
   ·refine ⟨-1,Ev_shift ?_,.inl (by omega)⟩
    simp only [exergueref01_one.j5,if_true]
    refine Ev.bind ht ?_
    simp only [hb,Option.bind_some,if_pos h]
    exact Ev.now _
   cases b with
   | true=>
    refine ⟨t,Ev_shift ?_,.inr hb⟩
    simp only [exergueref01_one.j5,if_true]
    refine Ev.bind ht ?_
    simp only [hb,Option.bind_some,if_neg h,if_true]
    exact Ev.now _
   | false=>
    refine ⟨-1,Ev_shift ?_,.inl (by omega)⟩
    simp only [exergueref01_one.j5,if_true]
    refine Ev.bind ht ?_
    simp only [hb,Option.bind_some,if_neg h,Bool.false_eq_true,if_false]
    exact Ev.now _
  | false=>
   obtain ⟨b,hb⟩:=is_ex (wrap32 n)
   by_cases h:n<least
   ·refine ⟨-1,Ev_shift ?_,.inl (by omega)⟩
    simp only [exergueref01_one.j5,Bool.false_eq_true,if_false,hb,Option.bind_some,if_pos h]
    exact Ev.now _
   cases b with
   | true=>
    refine ⟨n,Ev_shift ?_,.inr hb⟩
    simp only [exergueref01_one.j5,Bool.false_eq_true,if_false,hb,Option.bind_some,if_neg h,if_true]
    exact Ev.now _
   | false=>
    refine ⟨-1,Ev_shift ?_,.inl (by omega)⟩
    simp only [exergueref01_one.j5,Bool.false_eq_true,if_false,hb,Option.bind_some,if_neg h]
    exact Ev.now _
 have j4:∀ (c n least:Int),∃ r,Ev (fun k=>exergueref01_one.j4 k l i c n least) r∧RuneOk r:=by
  intro c n least
  by_cases h:c≥240
  ·obtain ⟨r,hr,ho⟩:=j5 c n least (decide (c<248))
   exact ⟨r,Ev_shift (by simp only [exergueref01_one.j4,if_pos h];exact hr),ho⟩
  obtain ⟨r,hr,ho⟩:=j5 c n least false
  exact ⟨r,Ev_shift (by simp only [exergueref01_one.j4,if_neg h];exact hr),ho⟩
 have j3:∀ (c n least:Int) (b:Bool),∃ r,Ev (fun k=>exergueref01_one.j3 k l i c n least b) r∧RuneOk r:=by
  intro c n least b
  cases b with
  | true=>
   obtain ⟨t,ht⟩:=tails_ex l i 2 (wrap64 (c - 224)) hl hi (by omega)
   obtain ⟨r,hr,ho⟩:=j4 c t 2048
   refine ⟨r,Ev_shift ?_,ho⟩
   simp only [exergueref01_one.j3,if_true]
   exact Ev.bind ht hr
  | false=>
   obtain ⟨r,hr,ho⟩:=j4 c n least
   exact ⟨r,Ev_shift (by simp only [exergueref01_one.j3,Bool.false_eq_true,if_false];exact hr),ho⟩
 have j2:∀ (c n least:Int),∃ r,Ev (fun k=>exergueref01_one.j2 k l i c n least) r∧RuneOk r:=by
  intro c n least
  by_cases h:c≥224
  ·obtain ⟨r,hr,ho⟩:=j3 c n least (decide (c<240))
   exact ⟨r,Ev_shift (by simp only [exergueref01_one.j2,if_pos h];exact hr),ho⟩
  obtain ⟨r,hr,ho⟩:=j3 c n least false
  exact ⟨r,Ev_shift (by simp only [exergueref01_one.j2,if_neg h];exact hr),ho⟩
 have j1:∀ (c n least:Int) (b:Bool),∃ r,Ev (fun k=>exergueref01_one.j1 k l i c n least b) r∧RuneOk r:=by
  intro c n least b
  cases b with
  | true=>
   obtain ⟨t,ht⟩:=tails_ex l i 1 (wrap64 (c - 192)) hl hi (by omega)
   obtain ⟨r,hr,ho⟩:=j2 c t 128
   refine ⟨r,Ev_shift ?_,ho⟩
   simp only [exergueref01_one.j1,if_true]
   exact Ev.bind ht hr
  | false=>
   obtain ⟨r,hr,ho⟩:=j2 c n least
   exact ⟨r,Ev_shift (by simp only [exergueref01_one.j1,Bool.false_eq_true,if_false];exact hr),ho⟩
 have j0:∀ (c n least:Int),∃ r,Ev (fun k=>exergueref01_one.j0 k l i c n least) r∧RuneOk r:=by
  intro c n least
  by_cases h:c≥192
  ·obtain ⟨r,hr,ho⟩:=j1 c n least (decide (c<224))
   exact ⟨r,Ev_shift (by simp only [exergueref01_one.j0,if_pos h];exact hr),ho⟩
  obtain ⟨r,hr,ho⟩:=j1 c n least false
  exact ⟨r,Ev_shift (by simp only [exergueref01_one.j0,if_neg h];exact hr),ho⟩
 unfold exergueref01_one.f
 simp only [if_pos (show (0:Int)≤(i:Int) by omega),if_pos (show (i:Int)<(l.length:Int) by omega)]
 by_cases h:wrap64 (rd l i)<128
 · simp only [if_pos h];exact j0 _ _ _
 simp only [if_neg h];exact j0 _ _ _
theorem decode_l0 (l:List Int)(hl:l.length≤100000):∀ (d i:Nat)(out:List Int),l.length+4≤i+d→out.length≤i→i≤l.length+4→∃ r,Ev (fun k=>exergueref01_Decode.l0 k l out i) r:=by
 intro d
 induction d with
 | zero=>
  intro i out h1 h2 h3
  refine ⟨(out,0,0),Ev_shift ?_⟩
  simp only [exergueref01_Decode.l0,if_neg (show ¬ (i:Int)<(l.length:Int) by omega)]
  exact Ev.now _
 | succ d ih=>
  intro i out h1 h2 h3
  by_cases hi:i<l.length
  rotate_left
  ·refine ⟨(out,0,0),Ev_shift ?_⟩
   simp only [exergueref01_Decode.l0,if_neg (show ¬ (i:Int)<(l.length:Int) by omega)]
   exact Ev.now _
  obtain ⟨n,hn,ho⟩:=one_ex l i hl hi
  by_cases c:n<0
  ·refine ⟨([],(i:Int),3),Ev_shift ?_⟩
   simp only [exergueref01_Decode.l0,if_pos (show (i:Int)<(l.length:Int) by omega)]
   refine Ev.bind hn ?_
   simp only [if_pos c]
   exact Ev.now _
  obtain ⟨z,hz,z0,z4,z1⟩:=size_ex (wrap32 n)
  have z1':=z1 (by rcases ho with h|h;exact absurd h c;exact h)
  obtain ⟨z,rfl⟩:=Int.eq_ofNat_of_zero_le z0
  obtain ⟨r,hr⟩:=ih (i+z) (out ++ [wrap32 n]) (by omega) (by simp;omega) (by omega)
  refine ⟨r,Ev_shift ?_⟩
  have e:wrap64 ((i:Int)+(z:Int))=((i+z:Nat):Int):=by rw [w64 _ (by omega) (by omega)];omega
  simp only [exergueref01_Decode.l0,if_pos (show (i:Int)<(l.length:Int) by omega)]
  refine Ev.bind hn ?_
  simp only [if_neg c,if_pos (show out.length<35184372088832 by omega),hz,Option.bind_some,e]
  exact hr
noncomputable def decodeV (l:List Int):List Int×Int×Int:=evOf fun k=>exergueref01_Decode.f k l
theorem decode_ev (l:List Int)(hl:l.length≤100000):Ev (fun k=>exergueref01_Decode.f k l) (decodeV l):=evOf_ev (decode_l0 l hl (l.length+4) 0 [] (by omega) (by simp) (by omega))
def PS.small (s:PS):Prop:=(0≤s.hash∧s.hash≤5000)∧(0≤s.minInt∧s.minInt≤5000)
theorem placesL_small {l:List Int}:∀ (f:Nat)(h m n:Int)(gs:List Int)(i:Int)(r:Int×Int×Int×List Int×Int),placesL l f h m n gs i=some r→h≤r.1∧r.1≤h+f∧m≤r.2.1∧r.2.1≤m+f
  | 0,_,_,_,_,_,_,e=>by cases e
  | f+1,h,m,n,gs,i,r,e=>by
    unfold placesL at e
    split at e
    · have:=placesL_small f _ _ _ _ _ _ e;omega
    · split at e
      · have:=placesL_small f _ _ _ _ _ _ e;omega
      · split at e
        · split at e
          · cases e
          · have:=placesL_small f _ _ _ _ _ _ e;omega
        · cases e;dsimp only;omega
theorem numberO_small {s q:PS}{l:List Int}{i j:Int}(hl:l.length≤1000)(h:numberO s l i=some (q,j))(hh:s.hash=0)(hm:s.minInt=0):q.small:=by
 have hf:∀ q j,fracO s l i=some (q,j)→q.small:=by
  intro q j e
  unfold fracO at e
  split at e
  · cases e;exact ⟨by dsimp only;omega,by dsimp only;omega⟩
  cases ep:placesO s l i with
  | none=>rw [ep] at e;cases e
  | some r=>
   obtain ⟨q',j'⟩:=r
   rw [ep] at e
   have hp:q'.small:=by
    unfold placesO at ep
    cases el:placesL l (l.length+3 - i.toNat) s.hash s.minInt 0 [] i with
    | none=>rw [el] at ep;cases ep
    | some r=>
     obtain ⟨hh',m,n,gs,j''⟩:=r
     rw [el] at ep
     simp only [plFin] at ep
     have:=placesL_small _ _ _ _ _ _ _ el
     dsimp only at this
     split at ep
     · cases ep;exact ⟨by dsimp only;omega,by dsimp only;omega⟩
     cases ep
   dsimp only at e
   split at e
   ·split at e
    · cases e
    cases e;exact hp
   cases e;exact hp
 unfold numberO at h
 cases e:fracO s l i with
 | none=>rw [e] at h;cases h
 | some r=>
  obtain ⟨q',j'⟩:=r
  rw [e] at h
  have hq:=hf _ _ e
  dsimp only at h
  unfold expO at h
  repeat' split at h
  all_goals (cases h;try exact hq)
theorem padO_small {s q:PS}{l:List Int}{i w j:Int}(h:padO s l i w=some (q,j))(hs:s.small):q.small:=by
 obtain ⟨e1,e2,_⟩:=padO_in h
 unfold PS.small
 rw [e1,e2]
 exact hs
structure FirstOk (l:List Int)(x:PS)(f tt n:Int):Prop where
  ok:x.ok
  small:x.small
  f0:0≤f
  ft:f≤tt
  tl:tt≤l.length
  n0:0≤n
  nl:n≤l.length+2
theorem firstO_ok {l:List Int}{x:PS}{pre suf:List S114}{f tt n:Int}(hl:l.length≤1000)(h:firstO l=some (x,pre,suf,f,tt,n)):FirstOk l x f tt n:=by
 unfold firstO at h
 cases h1:padO PS.zero l 0 1 with
 | none=>rw [h1] at h;cases h
 | some r1=>
  obtain ⟨p,i⟩:=r1
  obtain ⟨z1,z2,hi⟩:=padO_in h1
  rw [h1] at h
  dsimp only at h
  have hz:PS.zero.ok:=⟨Int.le_refl _,fun h=>absurd h (by decide)⟩
  have o1:=padO_ok h1 hz
  split at h
  · cases h
  obtain ⟨_,hj0,hj1,_⟩:=affix_ev l i (by omega) (by omega)
  cases h2:padO p l (affixV l i).2.1 2 with
  | none=>rw [h2] at h;cases h
  | some r2=>
   obtain ⟨q,f'⟩:=r2
   obtain ⟨z3,z4,hf⟩:=padO_in h2
   have o2:=padO_ok h2 o1
   rw [h2] at h
   dsimp only at h
   have q1:q.hash=0:=by rw [z3,z1];rfl
   have q2:q.minInt=0:=by rw [z4,z2];rfl
   cases h3:numberO q l f' with
   | none=>rw [h3] at h;cases h
   | some r3=>
    obtain ⟨r,t'⟩:=r3
    obtain ⟨ht0,ht1⟩:=numberO_in h3 (by omega) q1 q2
    have o3:=numberO_ok h3 o2
    have s3:=numberO_small hl h3 q1 q2
    rw [h3] at h
    dsimp only at h
    cases h4:padO r l t' 3 with
    | none=>rw [h4] at h;cases h
    | some r4=>
     obtain ⟨s,k⟩:=r4
     obtain ⟨_,_,hk⟩:=padO_in h4
     have o4:=padO_ok h4 o3
     have s4:=padO_small h4 s3
     rw [h4] at h
     dsimp only at h
     split at h
     · cases h
     obtain ⟨_,hm0,hm1,_⟩:=affix_ev l k (by omega) (by omega)
     cases h5:padO s l (affixV l k).2.1 4 with
     | none=>rw [h5] at h;cases h
     | some r5=>
      obtain ⟨x',n'⟩:=r5
      obtain ⟨_,_,hn⟩:=padO_in h5
      rw [h5] at h
      cases h
      exact ⟨padO_ok h5 o4,padO_small h5 s4,by omega,ht0,ht1,by omega,by omega⟩
noncomputable def finO (l:List Int)(t:PS)(l0 l1 l2 l3:List S114)(m:Int):Option (PS×List S114×List S114×List S114×List S114):=
  if m<l.length then none else if 40<t.hash+t.minInt then none else if 40<t.maxFrac then none else if 40<t.maxSig then none else if 40<t.exp then none else some (t,l0,l1,l2,l3)
noncomputable def parseO (b:List Int):Option (PS×List S114×List S114×List S114×List S114):=
  if (decodeV b).2.2≠0 then none else if 120<(decodeV b).1.length then none else match firstO (decodeV b).1 with
    | none=>none
    | some (t,pre,suf,f,tt,n)=>if atN (decodeV b).1 n=59 then (match secondO (decodeV b).1 (n+1) f tt with
        | none=>none
        | some (np,ns,m)=>finO (decodeV b).1 { t with neg:=true } pre suf np ns m)
      else finO (decodeV b).1 t pre suf [] [] n
theorem finO_ok {l:List Int}{t q:PS}{l0 l1 l2 l3 m0 m1 m2 m3:List S114}{m:Int}(h:finO l t l0 l1 l2 l3 m=some (q,m0,m1,m2,m3))(ht:t.ok):q.ok:=by
 unfold finO at h
 repeat' split at h
 all_goals (cases h;try exact ht)
theorem parseO_ok {b:List Int}{q:PS}{m0 m1 m2 m3:List S114}(h:parseO b=some (q,m0,m1,m2,m3)):q.ok:=by
 unfold parseO at h
 split at h
 · cases h
 split at h
 · cases h
 rename_i hlen
 cases h1:firstO (decodeV b).1 with
 | none=>rw [h1] at h;cases h
 | some r=>
  obtain ⟨t,pre,suf,f,tt,n⟩:=r
  have o:=firstO_ok (by omega) h1
  rw [h1] at h
  dsimp only at h
  split at h
  ·cases h2:secondO (decodeV b).1 (n+1) f tt with
   | none=>rw [h2] at h;cases h
   | some r2=>
    obtain ⟨np,ns,m⟩:=r2
    rw [h2] at h
    exact finO_ok h o.ok
  exact finO_ok h o.ok
end Go.Proofs.YtklebhlanidloaaGreatDoor.PZ
end
