/- Texts of this seat, joined. Conditions: none beyond each statement's own. -/
import Derived.Test.YtklebhlanidloaaGreatDoorD23
set_option linter.all false
section
set_option maxRecDepth 100000
namespace Go.Proofs.YtklebhlanidloaaGreatDoor.PZ
open Go.RowKit Go.Proofs.YtklebhlanidloaaGreatDoorW.PrintWords Go.Proofs.YtklebhlanidloaaGreatDoorW.PrintLast
theorem toks_c (x y:SV)(a b:List S114)(w:World)(ha:RowT w x a)(hb:RowT w y b)(hl:a.length≤100000):Calls Tryz.prog 93 #[.slice x.a x.n x.c,.slice y.a y.n y.c] w fun e w'=>e = .returned (.bool (toksV a b))∧Below w.heap.size w w':=by
 obtain ⟨k,hk⟩:=(toks_ev a b hl).rounds
 obtain ⟨h1,h2,h3⟩:=ha
 obtain ⟨g1,g2,g3⟩:=hb
 rw [h1,g1]
 rw [h1] at h2
 rw [g1] at g2
 exact (exergueref10_Toks.calls k x.a x.c a y.a y.c b _ w h3 h2 g3 g2 hk).mono fun _ _ h=>⟨h.1,h.2.below⟩
structure P2 (w W:World)(gp gq:Nat)(s t:PS)(v u:V4):Prop where
  p:PBox gp s v W
  q:PBox gq t u W
  b:Below w.heap.size w W
theorem P2.start {w W W1:World}{gp gq:Nat}{s t:PS}{v u:V4}(h:P1 w W gp s v)(h1:PBox gq t u W1)(hb:Below W.heap.size W W1):P2 w W1 gp gq s t v u:=⟨h.p.below hb,h1,h.b.trans (hb.mono h.b.size)⟩
theorem P2.below {w W W1:World}{gp gq:Nat}{s t:PS}{v u:V4}(h:P2 w W gp gq s t v u)(hb:Below W.heap.size W W1):P2 w W1 gp gq s t v u:=⟨h.p.below hb,h.q.below hb,h.b.trans (hb.mono h.b.size)⟩
def numsB1 (s t:PS):Bool:=(s.neg == t.neg) && ((s.pad == t.pad) && ((s.padAt == t.padAt) && (s.plus == t.plus)))
def numsB2 (s t:PS):Bool:=(s.hash == t.hash) && ((s.minInt == t.minInt) && ((s.g1 == t.g1) && (s.g2 == t.g2)))
def numsB3 (s t:PS):Bool:=(s.minFrac == t.minFrac) && ((s.maxFrac == t.maxFrac) && ((s.minSig == t.minSig) && ((s.maxSig == t.maxSig) && (s.exp == t.exp))))
def numsB (s t:PS):Bool:=numsB1 s t && (numsB2 s t && numsB3 s t)
theorem bool_a (X Y a b:Bool)(h:(X && (Y && a))=false):(X && (Y && (a && b)))=false:=by cases X <;> cases Y <;> cases a <;> simp_all
theorem bool_b (X Y a b:Bool)(h:(X && (Y && a))=true):(X && (Y && (a && b)))=b:=by cases X <;> cases Y <;> cases a <;> simp_all
set_option maxHeartbeats 8000000 in
set_option maxRecDepth 100000 in
theorem same_c (s t:PS)(v u:V4)(a0 a1 a2 a3 b0 b1 b2 b3:List S114)(w:World)(h0:RowT w v.v0 a0)(h1:RowT w v.v1 a1)(h2:RowT w v.v2 a2)(h3:RowT w v.v3 a3)(g0:RowT w u.v0 b0)(g1:RowT w u.v1 b1)(g2:RowT w u.v2 b2)(g3:RowT w u.v3 b3)(k0:a0.length≤300)(k1:a1.length≤300)(k2:a2.length≤300)(k3:a3.length≤300) :
    Calls Tryz.prog 68 #[s.val v,t.val u] w fun e w'=>e = .returned (.bool ((toksV a0 b0 && toksV a1 b1) && ((toksV a2 b2 && toksV a3 b3) && numsB s t)))∧Below w.heap.size w w':=by
 have K0:=zA (fun W hb=>toks_c v.v0 u.v0 a0 b0 W (h0.below hb) (g0.below hb) (by omega))
 have K1:=zA (fun W hb=>toks_c v.v1 u.v1 a1 b1 W (h1.below hb) (g1.below hb) (by omega))
 have K2:=zA (fun W hb=>toks_c v.v2 u.v2 a2 b2 W (h2.below hb) (g2.below hb) (by omega))
 have K3:=zA (fun W hb=>toks_c v.v3 u.v3 a3 b3 W (h3.below hb) (g3.below hb) (by omega))
 clear h0 h1 h2 h3 g0 g1 g2 g3
 generalize toksV a0 b0=T0 at *
 generalize toksV a1 b1=T1 at *
 generalize toksV a2 b2=T2 at *
 generalize toksV a3 b3=T3 at *
 obtain ⟨X,hX⟩:∃ X,(T0 && T1)=X:=⟨_,rfl⟩
 obtain ⟨Y,hY⟩:∃ Y,(T2 && T3)=Y:=⟨_,rfl⟩
 rw [hX,hY]
 have HX:=zA hX
 have HY:=zA hY
 clear hX hY
 go_enter Tryz.func68,Tryz.ntmps68
 go_upto_region 1 with (first|((with_reducible refine gate_dst (N:=2) rfl ?_);refine pat_box rfl rfl rfl s v rfl ?_;intro gp w1 hgp hbp hb1;have S1:=zA (P1.start hgp hbp hb1);clear hgp hbp hb1)|((with_reducible refine gate_dst (N:=3) rfl ?_);refine pat_box rfl rfl rfl t u rfl ?_;intro gq w2 hgq hbq hb2;have ST:=zA (P2.start S1.out hbq hb2);clear S1 hgq hbq hb2))
 go_cut [5] (fun s5 wc=>s5 = .bool X∧Aside0 (P2 w wc gp gq s t v u))
 case first=>
  cases T0 with
  | false=>
   have c0:World.cell? _ ⟨gp,0,none⟩=some (.slice v.v0.a v.v0.n v.v0.c):=ST.out.p.cell 0;have d0:World.cell? _ ⟨gq,0,none⟩=some (.slice u.v0.a u.v0.n u.v0.c):=ST.out.q.cell 0;have c1:World.cell? _ ⟨gp,1,none⟩=some (.slice v.v1.a v.v1.n v.v1.c):=ST.out.p.cell 1;have d1:World.cell? _ ⟨gq,1,none⟩=some (.slice u.v1.a u.v1.n u.v1.c):=ST.out.q.cell 1
   go_wp2_with (first|(go_at_call 93;(with_reducible refine (K0.out _ ST.out.b).mono ?_);rintro e w5 ⟨rfl,hb5⟩;replace ST:=zA (ST.out.below hb5);clear hb5;(try clear c0 d0 c1 d1);have c0:World.cell? _ ⟨gp,0,none⟩=some (.slice v.v0.a v.v0.n v.v0.c):=ST.out.p.cell 0;have d0:World.cell? _ ⟨gq,0,none⟩=some (.slice u.v0.a u.v0.n u.v0.c):=ST.out.q.cell 0;have c1:World.cell? _ ⟨gp,1,none⟩=some (.slice v.v1.a v.v1.n v.v1.c):=ST.out.p.cell 1;have d1:World.cell? _ ⟨gq,1,none⟩=some (.slice u.v1.a u.v1.n u.v1.c):=ST.out.q.cell 1))
   go_meet
   case rel=>exact ⟨by rw [← HX.out];rfl,ST⟩
  | true=>
   cases T1 with
   | false=>
    have c0:World.cell? _ ⟨gp,0,none⟩=some (.slice v.v0.a v.v0.n v.v0.c):=ST.out.p.cell 0;have d0:World.cell? _ ⟨gq,0,none⟩=some (.slice u.v0.a u.v0.n u.v0.c):=ST.out.q.cell 0;have c1:World.cell? _ ⟨gp,1,none⟩=some (.slice v.v1.a v.v1.n v.v1.c):=ST.out.p.cell 1;have d1:World.cell? _ ⟨gq,1,none⟩=some (.slice u.v1.a u.v1.n u.v1.c):=ST.out.q.cell 1
    go_wp2_with (first|(go_at_call 93;(with_reducible refine (K0.out _ ST.out.b).mono ?_);rintro e w5 ⟨rfl,hb5⟩;replace ST:=zA (ST.out.below hb5);clear hb5;(try clear c0 d0 c1 d1);have c0:World.cell? _ ⟨gp,0,none⟩=some (.slice v.v0.a v.v0.n v.v0.c):=ST.out.p.cell 0;have d0:World.cell? _ ⟨gq,0,none⟩=some (.slice u.v0.a u.v0.n u.v0.c):=ST.out.q.cell 0;have c1:World.cell? _ ⟨gp,1,none⟩=some (.slice v.v1.a v.v1.n v.v1.c):=ST.out.p.cell 1;have d1:World.cell? _ ⟨gq,1,none⟩=some (.slice u.v1.a u.v1.n u.v1.c):=ST.out.q.cell 1)|(go_at_call 93;(with_reducible refine (K1.out _ ST.out.b).mono ?_);rintro e w5 ⟨rfl,hb5⟩;replace ST:=zA (ST.out.below hb5);clear hb5;(try clear c0 d0 c1 d1);have c0:World.cell? _ ⟨gp,0,none⟩=some (.slice v.v0.a v.v0.n v.v0.c):=ST.out.p.cell 0;have d0:World.cell? _ ⟨gq,0,none⟩=some (.slice u.v0.a u.v0.n u.v0.c):=ST.out.q.cell 0;have c1:World.cell? _ ⟨gp,1,none⟩=some (.slice v.v1.a v.v1.n v.v1.c):=ST.out.p.cell 1;have d1:World.cell? _ ⟨gq,1,none⟩=some (.slice u.v1.a u.v1.n u.v1.c):=ST.out.q.cell 1))
    go_meet
    case rel=>exact ⟨by rw [← HX.out];rfl,ST⟩
   | true=>
    have c0:World.cell? _ ⟨gp,0,none⟩=some (.slice v.v0.a v.v0.n v.v0.c):=ST.out.p.cell 0;have d0:World.cell? _ ⟨gq,0,none⟩=some (.slice u.v0.a u.v0.n u.v0.c):=ST.out.q.cell 0;have c1:World.cell? _ ⟨gp,1,none⟩=some (.slice v.v1.a v.v1.n v.v1.c):=ST.out.p.cell 1;have d1:World.cell? _ ⟨gq,1,none⟩=some (.slice u.v1.a u.v1.n u.v1.c):=ST.out.q.cell 1
    go_wp2_with (first|(go_at_call 93;(with_reducible refine (K0.out _ ST.out.b).mono ?_);rintro e w5 ⟨rfl,hb5⟩;replace ST:=zA (ST.out.below hb5);clear hb5;(try clear c0 d0 c1 d1);have c0:World.cell? _ ⟨gp,0,none⟩=some (.slice v.v0.a v.v0.n v.v0.c):=ST.out.p.cell 0;have d0:World.cell? _ ⟨gq,0,none⟩=some (.slice u.v0.a u.v0.n u.v0.c):=ST.out.q.cell 0;have c1:World.cell? _ ⟨gp,1,none⟩=some (.slice v.v1.a v.v1.n v.v1.c):=ST.out.p.cell 1;have d1:World.cell? _ ⟨gq,1,none⟩=some (.slice u.v1.a u.v1.n u.v1.c):=ST.out.q.cell 1)|(go_at_call 93;(with_reducible refine (K1.out _ ST.out.b).mono ?_);rintro e w5 ⟨rfl,hb5⟩;replace ST:=zA (ST.out.below hb5);clear hb5;(try clear c0 d0 c1 d1);have c0:World.cell? _ ⟨gp,0,none⟩=some (.slice v.v0.a v.v0.n v.v0.c):=ST.out.p.cell 0;have d0:World.cell? _ ⟨gq,0,none⟩=some (.slice u.v0.a u.v0.n u.v0.c):=ST.out.q.cell 0;have c1:World.cell? _ ⟨gp,1,none⟩=some (.slice v.v1.a v.v1.n v.v1.c):=ST.out.p.cell 1;have d1:World.cell? _ ⟨gq,1,none⟩=some (.slice u.v1.a u.v1.n u.v1.c):=ST.out.q.cell 1))
    go_meet
    case rel=>exact ⟨by rw [← HX.out];rfl,ST⟩
 case rest=>
  clear ST K0 K1
  obtain ⟨rfl,ST⟩:=hcut
  go_upto_region 2 with (fail)
  go_cut [6] (fun s6 wc=>s6 = .bool Y∧Aside0 (P2 w wc gp gq s t v u))
  case first=>
   cases T2 with
   | false=>
    have c2:World.cell? _ ⟨gp,2,none⟩=some (.slice v.v2.a v.v2.n v.v2.c):=ST.out.p.cell 2;have d2:World.cell? _ ⟨gq,2,none⟩=some (.slice u.v2.a u.v2.n u.v2.c):=ST.out.q.cell 2;have c3:World.cell? _ ⟨gp,3,none⟩=some (.slice v.v3.a v.v3.n v.v3.c):=ST.out.p.cell 3;have d3:World.cell? _ ⟨gq,3,none⟩=some (.slice u.v3.a u.v3.n u.v3.c):=ST.out.q.cell 3
    go_wp2_with (first|(go_at_call 93;(with_reducible refine (K2.out _ ST.out.b).mono ?_);rintro e w5 ⟨rfl,hb5⟩;replace ST:=zA (ST.out.below hb5);clear hb5;(try clear c2 d2 c3 d3);have c2:World.cell? _ ⟨gp,2,none⟩=some (.slice v.v2.a v.v2.n v.v2.c):=ST.out.p.cell 2;have d2:World.cell? _ ⟨gq,2,none⟩=some (.slice u.v2.a u.v2.n u.v2.c):=ST.out.q.cell 2;have c3:World.cell? _ ⟨gp,3,none⟩=some (.slice v.v3.a v.v3.n v.v3.c):=ST.out.p.cell 3;have d3:World.cell? _ ⟨gq,3,none⟩=some (.slice u.v3.a u.v3.n u.v3.c):=ST.out.q.cell 3))
    go_meet
    case rel=>exact ⟨by rw [← HY.out];rfl,ST⟩
   | true=>
    cases T3 with
    | false=>
     have c2:World.cell? _ ⟨gp,2,none⟩=some (.slice v.v2.a v.v2.n v.v2.c):=ST.out.p.cell 2;have d2:World.cell? _ ⟨gq,2,none⟩=some (.slice u.v2.a u.v2.n u.v2.c):=ST.out.q.cell 2;have c3:World.cell? _ ⟨gp,3,none⟩=some (.slice v.v3.a v.v3.n v.v3.c):=ST.out.p.cell 3;have d3:World.cell? _ ⟨gq,3,none⟩=some (.slice u.v3.a u.v3.n u.v3.c):=ST.out.q.cell 3
     go_wp2_with (first|(go_at_call 93;(with_reducible refine (K2.out _ ST.out.b).mono ?_);rintro e w5 ⟨rfl,hb5⟩;replace ST:=zA (ST.out.below hb5);clear hb5;(try clear c2 d2 c3 d3);have c2:World.cell? _ ⟨gp,2,none⟩=some (.slice v.v2.a v.v2.n v.v2.c):=ST.out.p.cell 2;have d2:World.cell? _ ⟨gq,2,none⟩=some (.slice u.v2.a u.v2.n u.v2.c):=ST.out.q.cell 2;have c3:World.cell? _ ⟨gp,3,none⟩=some (.slice v.v3.a v.v3.n v.v3.c):=ST.out.p.cell 3;have d3:World.cell? _ ⟨gq,3,none⟩=some (.slice u.v3.a u.v3.n u.v3.c):=ST.out.q.cell 3)|(go_at_call 93;(with_reducible refine (K3.out _ ST.out.b).mono ?_);rintro e w5 ⟨rfl,hb5⟩;replace ST:=zA (ST.out.below hb5);clear hb5;(try clear c2 d2 c3 d3);have c2:World.cell? _ ⟨gp,2,none⟩=some (.slice v.v2.a v.v2.n v.v2.c):=ST.out.p.cell 2;have d2:World.cell? _ ⟨gq,2,none⟩=some (.slice u.v2.a u.v2.n u.v2.c):=ST.out.q.cell 2;have c3:World.cell? _ ⟨gp,3,none⟩=some (.slice v.v3.a v.v3.n v.v3.c):=ST.out.p.cell 3;have d3:World.cell? _ ⟨gq,3,none⟩=some (.slice u.v3.a u.v3.n u.v3.c):=ST.out.q.cell 3))
     go_meet
     case rel=>exact ⟨by rw [← HY.out];rfl,ST⟩
    | true=>
     have c2:World.cell? _ ⟨gp,2,none⟩=some (.slice v.v2.a v.v2.n v.v2.c):=ST.out.p.cell 2;have d2:World.cell? _ ⟨gq,2,none⟩=some (.slice u.v2.a u.v2.n u.v2.c):=ST.out.q.cell 2;have c3:World.cell? _ ⟨gp,3,none⟩=some (.slice v.v3.a v.v3.n v.v3.c):=ST.out.p.cell 3;have d3:World.cell? _ ⟨gq,3,none⟩=some (.slice u.v3.a u.v3.n u.v3.c):=ST.out.q.cell 3
     go_wp2_with (first|(go_at_call 93;(with_reducible refine (K2.out _ ST.out.b).mono ?_);rintro e w5 ⟨rfl,hb5⟩;replace ST:=zA (ST.out.below hb5);clear hb5;(try clear c2 d2 c3 d3);have c2:World.cell? _ ⟨gp,2,none⟩=some (.slice v.v2.a v.v2.n v.v2.c):=ST.out.p.cell 2;have d2:World.cell? _ ⟨gq,2,none⟩=some (.slice u.v2.a u.v2.n u.v2.c):=ST.out.q.cell 2;have c3:World.cell? _ ⟨gp,3,none⟩=some (.slice v.v3.a v.v3.n v.v3.c):=ST.out.p.cell 3;have d3:World.cell? _ ⟨gq,3,none⟩=some (.slice u.v3.a u.v3.n u.v3.c):=ST.out.q.cell 3)|(go_at_call 93;(with_reducible refine (K3.out _ ST.out.b).mono ?_);rintro e w5 ⟨rfl,hb5⟩;replace ST:=zA (ST.out.below hb5);clear hb5;(try clear c2 d2 c3 d3);have c2:World.cell? _ ⟨gp,2,none⟩=some (.slice v.v2.a v.v2.n v.v2.c):=ST.out.p.cell 2;have d2:World.cell? _ ⟨gq,2,none⟩=some (.slice u.v2.a u.v2.n u.v2.c):=ST.out.q.cell 2;have c3:World.cell? _ ⟨gp,3,none⟩=some (.slice v.v3.a v.v3.n v.v3.c):=ST.out.p.cell 3;have d3:World.cell? _ ⟨gq,3,none⟩=some (.slice u.v3.a u.v3.n u.v3.c):=ST.out.q.cell 3))
     go_meet
     case rel=>exact ⟨by rw [← HY.out];rfl,ST⟩
  case rest=>
   clear ST K2 K3
   obtain ⟨rfl,ST⟩:=hcut
   go_upto_region 3 with (fail)
   go_cut [5,6,65] (fun s5 s6 s65 wc=>s65 = .bool (!(X && (Y && numsB1 s t)))∧Aside0 (P2 w wc gp gq s t v u))
   case first=>
    have c4:World.cell? _ ⟨gp,4,none⟩=some (.bool s.neg):=ST.out.p.cell 4;have d4:World.cell? _ ⟨gq,4,none⟩=some (.bool t.neg):=ST.out.q.cell 4;have c15:World.cell? _ ⟨gp,15,none⟩=some (.int .i32 s.pad):=ST.out.p.cell 15;have d15:World.cell? _ ⟨gq,15,none⟩=some (.int .i32 t.pad):=ST.out.q.cell 15;have c16:World.cell? _ ⟨gp,16,none⟩=some (.int .i64 s.padAt):=ST.out.p.cell 16;have d16:World.cell? _ ⟨gq,16,none⟩=some (.int .i64 t.padAt):=ST.out.q.cell 16;have c14:World.cell? _ ⟨gp,14,none⟩=some (.bool s.plus):=ST.out.p.cell 14;have d14:World.cell? _ ⟨gq,14,none⟩=some (.bool t.plus):=ST.out.q.cell 14
    cases e0:X with
    | false=>
     go_wp2
     go_meet
     case rel=>exact ⟨by (simp [numsB1,e0]) <;> first|(simpa using e0)|simp [],ST⟩
    | true=>
     cases e1:Y with
     | false=>
      go_wp2
      go_meet
      case rel=>exact ⟨by (simp [numsB1,e0,e1]) <;> first|(simpa using e1)|simp [],ST⟩
     | true=>
      cases e2:(s.neg == t.neg) with
      | false=>
       have p2:(s.neg=t.neg)=False:=eq_false (by simpa using e2)
       go_wp2
       go_meet
       case rel=>exact ⟨by (simp [numsB1,e0,e1,e2]) <;> first|(simpa using e2)|simp [p2],ST⟩
      | true=>
       have p2:(s.neg=t.neg)=True:=eq_true (by simpa using e2)
       cases e3:(s.pad == t.pad) with
       | false=>
        have p3:(s.pad=t.pad)=False:=eq_false (by simpa using e3)
        go_wp2
        go_meet
        case rel=>exact ⟨by (simp [numsB1,e0,e1,e2,e3]) <;> first|(simpa using e3)|simp [p2,p3],ST⟩
       | true=>
        have p3:(s.pad=t.pad)=True:=eq_true (by simpa using e3)
        cases e4:(s.padAt == t.padAt) with
        | false=>
         have p4:(s.padAt=t.padAt)=False:=eq_false (by simpa using e4)
         go_wp2
         go_meet
         case rel=>exact ⟨by (simp [numsB1,e0,e1,e2,e3,e4]) <;> first|(simpa using e4)|simp [p2,p3,p4],ST⟩
        | true=>
         have p4:(s.padAt=t.padAt)=True:=eq_true (by simpa using e4)
         cases e5:(s.plus == t.plus) with
         | false=>
          have p5:(s.plus=t.plus)=False:=eq_false (by simpa using e5)
          go_wp2
          go_meet
          case rel=>exact ⟨by (simp [numsB1,e0,e1,e2,e3,e4,e5]) <;> first|(simpa using e5)|simp [p2,p3,p4,p5],ST⟩
         | true=>
          have p5:(s.plus=t.plus)=True:=eq_true (by simpa using e5)
          go_wp2
          go_meet
          case rel=>exact ⟨by (simp [numsB1,e0,e1,e2,e3,e4,e5]) <;> first|(simpa using e5)|simp [p2,p3,p4,p5],ST⟩
   case rest=>
    clear ST
    obtain ⟨rfl,ST⟩:=hcut
    cases hZ:(X && (Y && numsB1 s t)) with
    | false=>
     go_wp2
     go_ret
     exact ⟨by unfold numsB;rw [bool_a _ _ _ _ hZ];rfl,ST.out.b⟩
    | true=>
     have HZ:=zA (bool_b X Y _ (numsB2 s t && numsB3 s t) hZ)
     clear hZ
     go_upto_region 5 with (fail)
     go_cut [7] (fun s7 wc=>s7 = .bool (numsB2 s t)∧Aside0 (P2 w wc gp gq s t v u))
     case first=>
      have c5:World.cell? _ ⟨gp,5,none⟩=some (.int .i64 s.hash):=ST.out.p.cell 5;have d5:World.cell? _ ⟨gq,5,none⟩=some (.int .i64 t.hash):=ST.out.q.cell 5;have c6:World.cell? _ ⟨gp,6,none⟩=some (.int .i64 s.minInt):=ST.out.p.cell 6;have d6:World.cell? _ ⟨gq,6,none⟩=some (.int .i64 t.minInt):=ST.out.q.cell 6;have c9:World.cell? _ ⟨gp,9,none⟩=some (.int .i64 s.g1):=ST.out.p.cell 9;have d9:World.cell? _ ⟨gq,9,none⟩=some (.int .i64 t.g1):=ST.out.q.cell 9;have c10:World.cell? _ ⟨gp,10,none⟩=some (.int .i64 s.g2):=ST.out.p.cell 10;have d10:World.cell? _ ⟨gq,10,none⟩=some (.int .i64 t.g2):=ST.out.q.cell 10
      cases e0:(s.hash == t.hash) with
      | false=>
       have p0:(s.hash=t.hash)=False:=eq_false (by simpa using e0)
       go_wp2
       go_meet
       case rel=>exact ⟨by (simp [numsB2,e0]) <;> first|(simpa using e0)|simp [p0],ST⟩
      | true=>
       have p0:(s.hash=t.hash)=True:=eq_true (by simpa using e0)
       cases e1:(s.minInt == t.minInt) with
       | false=>
        have p1:(s.minInt=t.minInt)=False:=eq_false (by simpa using e1)
        go_wp2
        go_meet
        case rel=>exact ⟨by (simp [numsB2,e0,e1]) <;> first|(simpa using e1)|simp [p0,p1],ST⟩
       | true=>
        have p1:(s.minInt=t.minInt)=True:=eq_true (by simpa using e1)
        cases e2:(s.g1 == t.g1) with
        | false=>
         have p2:(s.g1=t.g1)=False:=eq_false (by simpa using e2)
         go_wp2
         go_meet
         case rel=>exact ⟨by (simp [numsB2,e0,e1,e2]) <;> first|(simpa using e2)|simp [p0,p1,p2],ST⟩
        | true=>
         have p2:(s.g1=t.g1)=True:=eq_true (by simpa using e2)
         cases e3:(s.g2 == t.g2) with
         | false=>
          have p3:(s.g2=t.g2)=False:=eq_false (by simpa using e3)
          go_wp2
          go_meet
          case rel=>exact ⟨by (simp [numsB2,e0,e1,e2,e3]) <;> first|(simpa using e3)|simp [p0,p1,p2,p3],ST⟩
         | true=>
          have p3:(s.g2=t.g2)=True:=eq_true (by simpa using e3)
          go_wp2
          go_meet
          case rel=>exact ⟨by (simp [numsB2,e0,e1,e2,e3]) <;> first|(simpa using e3)|simp [p0,p1,p2,p3],ST⟩
     case rest=>
      clear ST
      obtain ⟨rfl,ST⟩:=hcut
      have HB2:=zA (rfl:numsB2 s t=numsB2 s t)
      have c7:World.cell? _ ⟨gp,7,none⟩=some (.int .i64 s.minFrac):=ST.out.p.cell 7;have d7:World.cell? _ ⟨gq,7,none⟩=some (.int .i64 t.minFrac):=ST.out.q.cell 7;have c8:World.cell? _ ⟨gp,8,none⟩=some (.int .i64 s.maxFrac):=ST.out.p.cell 8;have d8:World.cell? _ ⟨gq,8,none⟩=some (.int .i64 t.maxFrac):=ST.out.q.cell 8;have c11:World.cell? _ ⟨gp,11,none⟩=some (.int .i64 s.minSig):=ST.out.p.cell 11;have d11:World.cell? _ ⟨gq,11,none⟩=some (.int .i64 t.minSig):=ST.out.q.cell 11;have c12:World.cell? _ ⟨gp,12,none⟩=some (.int .i64 s.maxSig):=ST.out.p.cell 12;have d12:World.cell? _ ⟨gq,12,none⟩=some (.int .i64 t.maxSig):=ST.out.q.cell 12;have c13:World.cell? _ ⟨gp,13,none⟩=some (.int .i64 s.exp):=ST.out.p.cell 13;have d13:World.cell? _ ⟨gq,13,none⟩=some (.int .i64 t.exp):=ST.out.q.cell 13
      cases e0:numsB2 s t with
      | false=>
       go_wp2
       go_ret
       exact ⟨by unfold numsB;rw [HZ.out];simp [numsB3,e0],ST.out.b⟩
      | true=>
       cases e1:(s.minFrac == t.minFrac) with
       | false=>
        have p1:(s.minFrac=t.minFrac)=False:=eq_false (by simpa using e1)
        go_wp2
        go_ret
        exact ⟨by unfold numsB;rw [HZ.out];simp [numsB3,e0,e1],ST.out.b⟩
       | true=>
        have p1:(s.minFrac=t.minFrac)=True:=eq_true (by simpa using e1)
        cases e2:(s.maxFrac == t.maxFrac) with
        | false=>
         have p2:(s.maxFrac=t.maxFrac)=False:=eq_false (by simpa using e2)
         go_wp2
         go_ret
         exact ⟨by unfold numsB;rw [HZ.out];simp [numsB3,e0,e1,e2],ST.out.b⟩
        | true=>
         have p2:(s.maxFrac=t.maxFrac)=True:=eq_true (by simpa using e2)
         cases e3:(s.minSig == t.minSig) with
         | false=>
          have p3:(s.minSig=t.minSig)=False:=eq_false (by simpa using e3)
          go_wp2
          go_ret
          exact ⟨by unfold numsB;rw [HZ.out];simp [numsB3,e0,e1,e2,e3],ST.out.b⟩
         | true=>
          have p3:(s.minSig=t.minSig)=True:=eq_true (by simpa using e3)
          cases e4:(s.maxSig == t.maxSig) with
          | false=>
           have p4:(s.maxSig=t.maxSig)=False:=eq_false (by simpa using e4)
           go_wp2
           go_ret
           exact ⟨by unfold numsB;rw [HZ.out];simp [numsB3,e0,e1,e2,e3,e4],ST.out.b⟩
          | true=>
           have p4:(s.maxSig=t.maxSig)=True:=eq_true (by simpa using e4)
           cases e5:(s.exp == t.exp) with
           | false=>
            have p5:(s.exp=t.exp)=False:=eq_false (by simpa using e5)
            go_wp2
            go_ret
            exact ⟨by unfold numsB;rw [HZ.out];simp [numsB3,e0,e1,e2,e3,e4,e5],ST.out.b⟩
           | true=>
            have p5:(s.exp=t.exp)=True:=eq_true (by simpa using e5)
            go_wp2
            go_ret
            exact ⟨by unfold numsB;rw [HZ.out];simp [numsB3,e0,e1,e2,e3,e4,e5],ST.out.b⟩
def figP (l:List Int)(e p:Int):Int:=if e≤p∧p<e+l.length then rd l (e+l.length - 1 - p) else 0
theorem atV_eq (g:Bool){l:List Int}{e p:Int}(hl:l.length≤100000)(he : -100000≤e∧e≤100000)(hp : -1000000≤p∧p≤1000000):atV g l e p=figP l e p:=by
 have h:=atV_f g l e p
 unfold dec_At.f at h
 rw [mag_e g l e hl he] at h
 have hm : -100000≤mag l e∧mag l e≤200000:=by unfold mag mx;split <;> omega
 simp only [Option.bind_some] at h
 rw [w64 (mag l e - p) (by omega) (by omega)] at h
 unfold figP
 by_cases h0:0<l.length
 ·have hg:=mag_pos h0 e
  by_cases h1:e≤p∧p<e+l.length
  ·rw [if_pos h1,show e+(l.length:Int) - 1 - p=mag l e - p by omega]
   repeat' split at h
   all_goals first|exact (zE h).symm|(exfalso;simp_all;omega)|(exfalso;omega)
  rw [if_neg h1]
  repeat' split at h
  all_goals first|exact (zE h).symm|(exfalso;simp_all;omega)|(exfalso;omega)
 rw [if_neg (by omega)]
 repeat' split at h
 all_goals first|exact (zE h).symm|(exfalso;simp_all;omega)|(exfalso;omega)
theorem list_rd {a b:List Int}(hl:a.length=b.length)(h:∀ k:Nat,k<a.length→rd a k=rd b k):a=b:=by
 apply List.ext_getElem hl
 intro i h1 h2
 have:=h i h1
 simpa [rd,List.getD_eq_getElem?_getD,List.getElem?_eq_getElem h1,List.getElem?_eq_getElem h2] using this
theorem figRow_len (g:Bool)(l:List Int)(e pw fr tt:Int):(figRow g l e pw fr tt).length=(fr - tt+1).toNat:=by unfold figRow;simp
theorem figRow_rd (g:Bool){l:List Int}{e pw fr tt:Int}(hl:l.length≤100000)(he : -100000≤e∧e≤100000)(hf : -300000≤fr∧fr≤300000)(ht : -300000≤tt∧tt≤300000)(hp : -300000≤pw∧pw≤300000)(k:Nat)(hk:k<(fr - tt+1).toNat) :
    rd (figRow g l e pw fr tt) k=figP l e (fr - k+pw):=by
 unfold figRow rd
 have hk2:k<((List.range (fr - tt+1).toNat).map fun (k:Nat)=>atV g l e (fr - (k:Int)+pw)).length:=by simpa using hk
 simp only [Int.toNat_natCast]
 rw [List.getD_eq_getElem?_getD,List.getElem?_eq_getElem hk2,Option.getD_some,List.getElem_map,List.getElem_range]
 exact atV_eq g hl he (by omega)
theorem figRow_figs (g:Bool){l:List Int}{e pw fr tt:Int}(hF:Figs l)(hl:l.length≤100000)(he : -100000≤e∧e≤100000)(hf : -300000≤fr∧fr≤300000)(ht : -300000≤tt∧tt≤300000)(hp : -300000≤pw∧pw≤300000):Figs (figRow g l e pw fr tt):=by
 intro d hd
 unfold figRow at hd
 obtain ⟨k,hk,rfl⟩:=List.mem_map.1 hd
 have hk:=List.mem_range.1 hk
 rw [atV_eq g hl he (by omega)]
 unfold figP
 split
 ·rename_i h1
  obtain ⟨j,hj⟩:∃ j:Nat,e+(l.length:Int) - 1 - (fr - k+pw)=j:=⟨(e+(l.length:Int) - 1 - (fr - k+pw)).toNat,by omega⟩
  rw [hj]
  exact rd_figs hF j
 omega
theorem figRow_join (g:Bool)(l:List Int)(e pw fr tt:Int)(hf : -1≤fr)(ht:tt≤0):figRow g l e pw fr 0 ++ figRow g l e pw (-1) tt=figRow g l e pw fr tt:=by
 unfold figRow
 obtain ⟨a,ha⟩:∃ a:Nat,fr=(a:Int) - 1:=⟨(fr+1).toNat,by omega⟩
 obtain ⟨b,hb⟩:∃ b:Nat,tt = -(b:Int):=⟨(-tt).toNat,by omega⟩
 subst ha hb
 rw [show ((a:Int) - 1 - 0+1).toNat=a by omega,show (-1 - -(b:Int)+1).toNat=b by omega,show ((a:Int) - 1 - -(b:Int)+1).toNat=a+b by omega,List.range_add,List.map_append,List.map_map]
 congr 1
 apply List.map_congr_left
 intro k _
 simp only [Function.comp]
 congr 1
 omega
theorem figRow_core (g:Bool){l:List Int}{e pw fr tt:Int}(hl0:0<l.length)(hl:l.length≤100000)(he : -100000≤e∧e≤100000)(hf : -300000≤fr∧fr≤300000)(ht : -300000≤tt∧tt≤300000)(hp : -300000≤pw∧pw≤300000)
    (h1:e+l.length - 1 - pw≤fr) (h2:tt≤e - pw):figRow g l e pw fr tt=List.replicate (fr - (e+l.length - 1 - pw)).toNat 0 ++ (l ++ List.replicate (e - pw - tt).toNat 0):=by
 obtain ⟨n,hn⟩:∃ n:Nat,fr - (e+l.length - 1 - pw)=n:=⟨(fr - (e+l.length - 1 - pw)).toNat,by omega⟩
 obtain ⟨m,hm⟩:∃ m:Nat,e - pw - tt=m:=⟨(e - pw - tt).toNat,by omega⟩
 rw [hn,hm,Int.toNat_natCast,Int.toNat_natCast]
 have hL:(figRow g l e pw fr tt).length=n+(l.length+m):=by rw [figRow_len];omega
 apply list_rd
 · rw [hL];simp
 intro k hk
 rw [hL] at hk
 rw [figRow_rd g hl he hf ht hp k (by omega)]
 unfold figP
 by_cases c1:k<n
 · rw [if_neg (by omega),rd_append_left _ _ _ (by simpa using c1),rd_zeros]
 rw [rd_append_right _ _ _ (by simpa using (by omega:n≤k))]
 simp only [List.length_replicate]
 by_cases c2:k - n<l.length
 ·rw [if_pos (by omega),rd_append_left _ _ _ c2]
  congr 1
  omega
 rw [if_neg (by omega),rd_append_right _ _ _ (by omega),rd_zeros]
theorem figRow_nil (g:Bool){e pw fr tt:Int}(he : -100000≤e∧e≤100000)(hf : -300000≤fr∧fr≤300000)(ht : -300000≤tt∧tt≤300000)(hp : -300000≤pw∧pw≤300000):figRow g [] e pw fr tt=List.replicate (fr - tt+1).toNat 0:=by
 apply list_rd
 · rw [figRow_len];simp
 intro k hk
 rw [figRow_len] at hk
 rw [figRow_rd g (by simp) he hf ht hp k hk,rd_zeros]
 unfold figP
 rw [if_neg (by simp only [List.length_nil];omega)]
theorem magV_eq (l:List Int)(e:Int):magV l e=mag l e:=rfl
end Go.Proofs.YtklebhlanidloaaGreatDoor.PZ
end
