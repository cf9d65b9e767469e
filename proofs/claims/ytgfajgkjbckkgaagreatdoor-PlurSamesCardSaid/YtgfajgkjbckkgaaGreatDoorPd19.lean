/- Texts of this seat, joined. Conditions: none beyond each statement's own. -/
import Derived.Test.YtgfajgkjbckkgaaGreatDoorPd18
set_option linter.all false
section
set_option maxRecDepth 100000
noncomputable section
namespace Go.Proofs.YtgfajgkjbckkgaaGreatDoor.PZ
open Go.RowKit Go.Proofs.YtgfajgkjbckkgaaGreatDoorW.PrintWords Go.Proofs.YtgfajgkjbckkgaaGreatDoorW.PrintLast
def exerguelaw12_PlurSames.f (k:Nat)(l0:List Ru)(a1 a2:Int):Option Bool:=
  (exerguelaw12_shown.f k).bind fun up=>(exergueref12_Short.f k l0).bind fun s=>if s=true then (if 0≤a1 then (if a1<(l0.length:Int) then (if l0.length≤1000 then some (up && (!decide (l0=l0.take (l0.length - 1)) && (decide (l0=l0.set a1.toNat ⟨a2,(l0.getD a1.toNat ⟨0,[]⟩).f1⟩) == ((l0.getD a1.toNat ⟨0,[]⟩).f0 == a2)))) else none) else some up) else some up) else some up
theorem C_news {α:Type}{d:Kd α}{W:World}{ad:Addr}{n:Nat}{xs:List α}(h:Kd.C d W (some ad) n xs)(hn:0<n) :
    ∃ news:List Value,Reps (d.K W) d.sz xs news∧(∀ j u,news[j]?=some u→W.cell? (ad.add j)=some u)∧∀ u ∈ news,u.oneCell'=true:=by
 obtain ⟨hl,_,hc⟩:=h
 obtain ⟨ad',e,hc⟩:=hc hn
 obtain rfl:=zE e
 have key:∀ m,m≤xs.length→∃ news:List Value,Reps (d.K W) d.sz (xs.take m) news∧(∀ j u,news[j]?=some u→W.cell? (ad.add j)=some u)∧∀ u ∈ news,u.oneCell'=true:=by
  intro m
  induction m with
  | zero=>intro _;exact ⟨[],by simpa using Reps.none _ _,by simp,by simp⟩
  | succ m ih=>
   intro hm
   have hlt:m<xs.length:=by omega
   obtain ⟨news,h1,h2,h3⟩:=ih (by omega)
   obtain ⟨c,hcl,hK,hcell⟩:=hc m xs[m] (List.getElem?_eq_getElem hlt)
   have hlen:news.length=m * d.sz:=by
    rw [h1.1,List.length_take,Nat.min_eq_left (by omega)]
   refine ⟨news ++ c,?_,fun j u hj=>?_,fun u hu=>?_⟩
   ·rw [List.take_succ_eq_append_getElem hlt]
    exact h1.snoc hK hcl
   ·rcases Nat.lt_or_ge j news.length with hlt|hge
    · rw [List.getElem?_append_left hlt] at hj;exact h2 j u hj
    rw [List.getElem?_append_right hge] at hj
    have:=hcell (j - news.length) u hj
    rw [show m * d.sz+(j - news.length)=j by omega] at this
    exact this
   rcases List.mem_append.1 hu with hu|hu
   · exact h3 u hu
   exact d.K_one hK u hu
 obtain ⟨news,a,b,c⟩:=key xs.length (Nat.le_refl _)
 rw [List.take_length] at a
 exact ⟨news,a,b,c⟩
theorem Reps_set {W W':World}{l:List Ru}{news:List Value}(h:Reps (k65.K W) 2 l news)(hb:∀ x cs,k65.K W x cs→k65.K W' x cs){i:Nat}(hi:i<l.length)(v:Int) :
    Reps (k65.K W') 2 (l.set i ⟨v,(l.getD i ⟨0,[]⟩).f1⟩) (news.set (i * 2) (.int .i64 v)):=by
 refine ⟨by rw [List.length_set,List.length_set];exact h.1,fun j p hj=>?_⟩
 rw [List.drop_set]
 by_cases e:j=i
 ·subst e
  have hp:p=⟨v,(l.getD j ⟨0,[]⟩).f1⟩:=by
   rw [List.getElem?_set_self hi] at hj
   exact (zE hj).symm
  have hlj:l.getD j ⟨0,[]⟩=l[j]:=by rw [List.getD_eq_getElem?_getD,List.getElem?_eq_getElem hi];rfl
  have h2:=hb _ _ (h.2 j l[j] (List.getElem?_eq_getElem hi))
  obtain ⟨A1,c1,hcs,hl1,hC⟩:=k65_open h2
  rw [if_neg (by omega),Nat.sub_self,List.take_set,hcs,hp,hlj]
  exact k65_mk W' ⟨v,l[j].f1⟩ hl1 hC
 rw [List.getElem?_set_ne (by omega)] at hj
 have h2:=hb _ _ (h.2 j p hj)
 split
 · exact h2
 rw [List.take_set,List.set_eq_of_length_le (by rw [List.length_take];omega)]
 exact h2
theorem sames_append {ops:Array Oper}{rest:List Oper}{o:Oper}{a:Act}{Q:Exit→Act→World→Prop}{w W:World}(hgd:o.guard=none)(s x:Operand)
    (ho:o.op=Op.call { callee:=Callee.builtin Builtin.append,args:=#[s,x],argTypes:=#[28,28] })
    {l:List Ru} {A:Option Addr} {c g0:Nat} (hB:Below w.heap.size w W) (hC:Kd.C k65 w A l.length l) (hn:0<l.length) (hl:l.length≤1000)
    (hs:a.eval s = .slice (some ⟨g0,0,none⟩) 0 0) (hx:a.eval x = .slice A l.length c)
    (h:∀ g cap cur news W1,Reps (k65.K w) 2 l news→W1.heap[g]?=some (.cells cur 65 (0,0))→l.length≤cap→cap≤maxLen→cur.size=cap * 2→cur.toList.take (l.length * 2)=news→w.heap.size≤g→Below w.heap.size w W1 →
      wpList Tryz.prog ops Q rest (a.put o.dst (.slice (some ⟨g,0,none⟩) l.length cap)) W1) :
    wpList Tryz.prog ops Q (o :: rest) a W:=by
 obtain ⟨ad,e,_⟩:=hC.2.2 hn
 subst e
 obtain ⟨news,hrep,hcell0,hone⟩:=C_news hC hn
 have hcell:∀ j u,news[j]?=some u→W.cell? (ad.add j)=some u:=fun j u hj=>pw_cell_below hB (hcell0 j u hj)
 obtain ⟨i0,hi,hzz⟩:=Option.map_eq_some_iff.1 info65
 simp only [Prod.mk.injEq] at hzz
 obtain ⟨hz0,hz1,hz2⟩:=hzz
 have hlen:news.length=l.length * 2:=hrep.1
 refine wpList_append_grows W hgd s x 28 ho 65 i0 _ 2 32 Tryz.underlying28 hi hz0 hz1 hz2 rfl (by decide) (some ⟨g0,0,none⟩) 0 0 [] hs (fun h=>by cases h) rfl (fun _ _ j u hj=>by simp at hj) ad l.length c news hx hlen hcell hone (by omega) (by simp only [maxLen];omega) (by omega) ?_
 intro v1 W1 hown hgr
 have hB1:Below W.heap.size W W1:=pw_below_grown (Below.refl _ _) none (Nat.le_refl _) hgr (fun k hk=>by cases hk)
 rcases hown.2 with ⟨rfl,h0⟩|⟨g,cap,cur,rfl,hg,hh,hcap,hmax,hcur,htake⟩
 · omega
 rw [Nat.zero_add] at hcap htake ⊢
 rw [List.nil_append] at htake
 exact h g cap cur news W1 hrep hh hcap hmax hcur htake (by have:=hB.size;omega) (below_step hB hB1)
theorem sames_store {w W1:World}{l:List Ru}{g cap:Nat}{cur:Array Value}{news:List Value}(hrep:Reps (k65.K w) 2 l news)(hh:W1.heap[g]?=some (.cells cur 65 (0,0)))(hcap:l.length≤cap)(hmax:cap≤maxLen)(hcur:cur.size=cap * 2)
    (htake:cur.toList.take (l.length * 2)=news) (hg:w.heap.size≤g) (hB:Below w.heap.size w W1) {i:Nat} (hi:i<l.length) (v:Int) :
    Below w.heap.size w (W1.setCell ⟨g,i * 2,none⟩ (.int .i64 v))∧Kd.C k65 (W1.setCell ⟨g,i * 2,none⟩ (.int .i64 v)) (some ⟨g,0,none⟩) l.length (l.set i ⟨v,(l.getD i ⟨0,[]⟩).f1⟩):=by
 have own:W1.ownsRow w.heap.size 65 2 (.slice (some ⟨g,0,none⟩) l.length cap) l.length news:=⟨hrep.1,.inr ⟨g,cap,cur,rfl,hg,hh,hcap,hmax,hcur,htake⟩⟩
 have hs:=own.stored (i * 2) (.int .i64 v)
 have hB2:Below w.heap.size w (W1.setCell ⟨g,i * 2,none⟩ (.int .i64 v)):=pw_below_grown hB (some g) hB.size hs.2 (fun k e=>by cases e;exact hg)
 refine ⟨hB2,?_⟩
 obtain ⟨A,c,e,hR⟩:=own_reads_row hs.1 (Reps_set hrep (fun x cs hx=>k65.K_below hB2 hx) hi v) (by rw [List.length_set])
 injection e with e1 _ _
 subst e1
 exact hR
theorem sames_cell {W1:World}{g cap:Nat}{cur:Array Value}(hh:W1.heap[g]?=some (.cells cur 65 (0,0)))(hcur:cur.size=cap * 2){i:Nat}(hi:i<cap):∃ u,W1.cell? ⟨g,i * 2,none⟩=some u:=
  ⟨cur[i * 2]'(by omega),(blk_cell hh _).trans (Array.getElem?_eq_getElem (by omega))⟩
def sames.T:Bool×List (List Nat×List Nat):=(true,[([],[]),([0],[0]),([1],[1]),([1],[1]),([2,3,1,1],[1,2,3]),([1,4],[1,4]),([5,4],[5]),([6],[6]),([6],[6]),([6],[6]),([9,6],[6,9]),([10,6],[6,10]),([8,11,6],[6,8,11]),([7,12,6,6],[6,7,12]),([13,6],[6,13]),([6,14],[6,14]),([15,13],[15]),([16],[16]),([16],[16]),([17,18,16,16],[16,17,18]),([16],[16]),([16],[16]),([20,21,16],[16,20,21]),([22,16],[16,22]),([23,16],[16,23]),([16],[16]),([24,25,16],[16,24,25]),([19,26,16],[16,19,26]),([16,27],[16,27]),([28,19,0,1,2,3,4,5,6,7,8,9,10,11,12,13,14,15,16,17,18,19,20,21,22,23,24,25,26,27,28],[28])])
def sames.B:List Nat:=[0,1,3,3,15,31,63,127,127,127,639,1663,3967,8191,16383,32767,65535,131071,131071,524287,131071,131071,3276799,7471103,15859711,131071,66191359,134217727,268435455,536870911]
theorem sames.tab:rtab .any (opsOf Tryz.f13 6)=sames.T:=by kernel_rfl
theorem sames.bits:waitsOk sames.T.2 sames.B=true:=by kernel_rfl
theorem same3 {l0 m:List Ru}{R3:Bool}(h:plur_Same.f l0 m=some R3){A B:Option Addr}{c0 cap:Nat}{w:World}(hn:m.length=l0.length)(hr0:Kd.C k65 w A l0.length l0)(hc0:l0.length≤c0)(hr1:Kd.C k65 w B l0.length m)(hc1:l0.length≤cap) :
    Calls Tryz.prog 23 #[.slice A l0.length c0,.slice B l0.length cap] w fun e w'=>e = .returned (.bool R3)∧Below w.heap.size w w':=by
 have:=plur_Same.calls A c0 l0 B cap m R3 w hr0 hc0 (by rw [hn];exact hr1) (by rw [hn];exact hc1) h
 rw [hn] at this
 exact this
/-
          go_enter Tryz.func13,Tryz.ntmps13
          go_wp2_with (first|(go_at_call 14;refine (HU.out _ (Below.refl _ _)).mono ?_;rintro e w5 ⟨rfl,hb5⟩;have HB:=zA hb5;clear hb5)|(go_at_call 20;refine (HS.out _ HB.out).mono ?_;rintro e w6 ⟨rfl,⟨nd,rfl⟩⟩)|(at_builtin;refine sames_append rfl (.tmp 24) (.tmp 25) rfl (below_alloc (pw_below_drewN HB.out nd) _) HR.out HN.out G2.out rfl rfl ?_;intro g cap cur news w7 hrep hcells hcap hmax hcur htake hg hb7;have HREP:=zA hrep;have HH:=zA hcells;have HCAP:=zA hcap;have HMX:=zA hmax;have HCU:=zA hcur;have HTK:=zA htake;have HGE:=zA hg;have HB7:=zA hb7;clear hrep hcells hcap hmax hcur htake hg hb7;obtain ⟨u0,hu0⟩:=sames_cell HH.out HCU.out (i:=a1.toNat) (by have:=G0.out;have:=G1.out;have:=HCAP.out;omega);have hf0:=blk_frozen HH.out (a1.toNat * 2);have HST:=zA (sames_store HREP.out HH.out HCAP.out HMX.out HCU.out HTK.out HGE.out HB7.out (i:=a1.toNat) (by have:=G0.out;have:=G1.out;omega) a2)))
          obtain ⟨hb8,hm8⟩:=HST.out
          have HB:=Sd.mk (below_drew1 hb8)
          have HM:=Sd.mk (Kd.C_below hm8 (below_drew1 (Below.refl _ _)))
          clear hb8 hm8 HST hu0 hf0
          obtain ⟨ad',_,_,eA,hS,_⟩:=at_T65 (Kd.C_below HR.out HB.out) a1 G0.out G1.out
          obtain rfl:=zE eA
          clear eA
          refine start_ (n:=30) (S:=fun w'=>w'.cell? (ad.add (a1.toNat * 2))=some (.int .i64 (rd_T65 l0 a1).f0)) (ds:=[]) (bZ 30 0) (by kernel_rfl) rfl (by kernel_rfl) hS (fun hHeld=>?_)
          refine with_tabW sames.tab sames.bits (fun HT_ HW_=>?_)
          clear hS
          generalize World.drew _=w9 at HB HM hHeld ⊢
          -- REGION
-/
set_option maxHeartbeats 4000000 in
set_option maxRecDepth 100000 in
theorem exerguelaw12_PlurSames.calls (k:Nat)(A0:Option Addr)(c0:Nat)(l0:List Ru)(a1 a2:Int)(r:Bool)(w:World)(hG:GL w)(hr0:Kd.C k65 w A0 l0.length l0)(hc0:l0.length≤c0)(h:exerguelaw12_PlurSames.f k l0 a1 a2=some r) :
    Calls Tryz.prog 13 #[.slice A0 l0.length c0,.int .i64 a1,.int .i64 a2] w fun e w'=>e = .returned (.bool r)∧Below w.heap.size w w':=by
 unfold exerguelaw12_PlurSames.f at h
 obtain ⟨up,hup,h⟩:=Option.bind_eq_some_iff.mp h
 obtain ⟨s,hs,h⟩:=Option.bind_eq_some_iff.mp h
 have HU:=zA (fun W (hb:Below w.heap.size w W)=>exerguelaw12_shown.calls k up W (GL.below hG hb) hup)
 have HS:=zA (fun W (hb:Below w.heap.size w W)=>exergueref12_Short.calls k A0 c0 l0 s W (Kd.C_below hr0 hb) hc0 hs)
 have HR:=zA hr0
 have HC:=zA hc0
 clear hup hs hr0 hc0
 cases s with
 | false=>
  rw [if_neg (by decide)] at h
  obtain rfl:=zE h
  go_enter Tryz.func13,Tryz.ntmps13
  go_wp2_with (first|(go_at_call 14;refine (HU.out _ (Below.refl _ _)).mono ?_;rintro e w5 ⟨rfl,hb5⟩;have HB:=zA hb5;clear hb5)|(go_at_call 20;refine (HS.out _ HB.out).mono ?_;rintro e w6 ⟨rfl,⟨nd,rfl⟩⟩))
  go_ret
  exact ⟨rfl,by first|exact HB.out.drewN nd|exact below_drewN HB.out nd|exact HB.out⟩
 | true=>
  rw [if_pos rfl] at h
  by_cases q0:0≤a1
  rotate_left
  ·rw [if_neg q0] at h
   have g0:decide (a1<0)=true:=zC (by omega)
   obtain rfl:=zE h
   clear h q0
   go_enter Tryz.func13,Tryz.ntmps13
   go_wp2_with (first|(go_at_call 14;refine (HU.out _ (Below.refl _ _)).mono ?_;rintro e w5 ⟨rfl,hb5⟩;have HB:=zA hb5;clear hb5)|(go_at_call 20;refine (HS.out _ HB.out).mono ?_;rintro e w6 ⟨rfl,⟨nd,rfl⟩⟩))
   go_ret
   exact ⟨rfl,by first|exact HB.out.drewN nd|exact below_drewN HB.out nd|exact HB.out⟩
  rw [if_pos q0] at h
  have g0:decide (a1<0)=false:=zD (by omega)
  by_cases q1:a1<(l0.length:Int)
  rotate_left
  ·rw [if_neg q1] at h
   have g1:decide (a1≥(l0.length:Int))=true:=zC (by omega)
   have g1':decide ((l0.length:Int)≤a1)=true:=zC (by omega)
   obtain rfl:=zE h
   clear h q0 q1
   go_enter Tryz.func13,Tryz.ntmps13
   go_wp2_with (first|(go_at_call 14;refine (HU.out _ (Below.refl _ _)).mono ?_;rintro e w5 ⟨rfl,hb5⟩;have HB:=zA hb5;clear hb5)|(go_at_call 20;refine (HS.out _ HB.out).mono ?_;rintro e w6 ⟨rfl,⟨nd,rfl⟩⟩))
   go_ret
   exact ⟨rfl,by first|exact HB.out.drewN nd|exact below_drewN HB.out nd|exact HB.out⟩
  rw [if_pos q1] at h
  have g1:decide (a1≥(l0.length:Int))=false:=zD (by omega)
  have g1':decide ((l0.length:Int)≤a1)=false:=zD (by omega)
  by_cases q2:l0.length≤1000
  rotate_left
  · rw [if_neg q2] at h;cases h
  rw [if_pos q2] at h
  have hll:l0.length≤1000:=q2
  obtain ⟨ad,_,_,eA,_⟩:=at_T65 HR.out a1 q0 q1
  subst eA
  have HN:=zA (show 0<l0.length by omega)
  have G0:=zA q0
  have G1:=zA q1
  have G2:=zA q2
  have S1:plur_Same.f l0 l0=some true:=by unfold plur_Same.f;rw [zC rfl]
  have wn:wrap64 ((l0.length:Int) - 1)=((l0.length - 1:Nat):Int):=by rw [show ((l0.length - 1:Nat):Int)=(l0.length:Int) - 1 by omega];unfold wrap64;omega
  obtain ⟨y,hy⟩:∃ y,y=l0.take (l0.length - 1):=⟨_,rfl⟩
  have hyl:y.length=l0.length - 1:=by rw [hy,List.length_take];omega
  have S2:plur_Same.f l0 y=some false:=by
   unfold plur_Same.f
   rw [zD]
   intro e
   have:=congrArg List.length e
   omega
  have HYC:=zA (show y.length≤c0 by have:=HC.out;omega)
  have HY:=zA (show Kd.C k65 w (some ad) y.length y by
   have:=Kd.C_take (m:=l0.length - 1) HR.out (by omega)
   rw [← hy] at this
   first|exact this|(rw [hyl];exact this))
  obtain ⟨i0,hi0,_,_,_⟩:=info_parts info65
  have hcut:=cut_to (P:=Tryz.prog) 28 65 .i64 Tryz.underlying28 hi0 (some ad) l0.length c0 (wrap64 ((l0.length:Int) - 1)) (by rw [wn];omega) (by rw [wn];omega) HC.out
  rw [show (wrap64 ((l0.length:Int) - 1)).toNat=y.length by rw [wn,hyl];rfl] at hcut
  have qz1:((0:Int)≤wrap64 ((l0.length:Int) - 1))=True:=eq_true (by rw [wn];omega)
  have qz2:(wrap64 ((l0.length:Int) - 1)≤(l0.length:Int))=True:=eq_true (by rw [wn];omega)
  obtain ⟨R3,hR3⟩:∃ R3,plur_Same.f l0 (l0.set a1.toNat ⟨a2,(l0.getD a1.toNat ⟨0,[]⟩).f1⟩)=some R3:=⟨_,rfl⟩
  have HR3:=zA hR3
  have HLL:=zA hll
  have HRES:=zA (show (up && (R3 == ((rd_T65 l0 a1).f0 == a2)))=r by
   rw [← zE h,← zE hR3,← hy]
   have e2:=zE S2
   rw [e2]
   cases up <;> rfl)
  have hyW:=zA hyl
  clear h q0 q1 q2 hR3 hll wn hy hi0 hyl
  have p17:=eq_true G0.out
  have q17:=eq_true G1.out
  -- GEN BEGIN
  cases up with
  | false=>
   go_enter Tryz.func13,Tryz.ntmps13
   go_wp2_with (first|(go_at_call 14;refine (HU.out _ (Below.refl _ _)).mono ?_;rintro e w5 ⟨rfl,hb5⟩;have HB:=zA hb5;clear hb5)|(go_at_call 20;refine (HS.out _ HB.out).mono ?_;rintro e w6 ⟨rfl,⟨nd,rfl⟩⟩)|(at_builtin;refine sames_append rfl (.tmp 24) (.tmp 25) rfl (below_alloc (pw_below_drewN HB.out nd) _) HR.out HN.out G2.out rfl rfl ?_;intro g cap cur news w7 hrep hcells hcap hmax hcur htake hg hb7;have HREP:=zA hrep;have HH:=zA hcells;have HCAP:=zA hcap;have HMX:=zA hmax;have HCU:=zA hcur;have HTK:=zA htake;have HGE:=zA hg;have HB7:=zA hb7;clear hrep hcells hcap hmax hcur htake hg hb7;obtain ⟨u0,hu0⟩:=sames_cell HH.out HCU.out (i:=a1.toNat) (by have:=G0.out;have:=G1.out;have:=HCAP.out;omega);have hf0:=blk_frozen HH.out (a1.toNat * 2);have HST:=zA (sames_store HREP.out HH.out HCAP.out HMX.out HCU.out HTK.out HGE.out HB7.out (i:=a1.toNat) (by have:=G0.out;have:=G1.out;omega) a2)))
   obtain ⟨hb8,hm8⟩:=HST.out
   have HB:=Sd.mk (below_drew1 hb8)
   have HM:=Sd.mk (Kd.C_below hm8 (below_drew1 (Below.refl _ _)))
   clear hb8 hm8 HST hu0 hf0
   obtain ⟨ad',_,_,eA,hS,_⟩:=at_T65 (Kd.C_below HR.out HB.out) a1 G0.out G1.out
   obtain rfl:=zE eA
   clear eA
   refine start_ (n:=30) (S:=fun w'=>w'.cell? (ad.add (a1.toNat * 2))=some (.int .i64 (rd_T65 l0 a1).f0)) (ds:=[]) (bZ 30 0) (by kernel_rfl) rfl (by kernel_rfl) hS (fun hHeld=>?_)
   refine with_tabW sames.tab sames.bits (fun HT_ HW_=>?_)
   clear hS
   generalize World.drew _=w9 at HB HM hHeld ⊢
   refine q1 0 32 1 HT_ ?_
   refine q1 1 33 3 HT_ ?_
   refine pure_ (i:=2) (N:=some 34) (v:=undef) (a':=?_) (bZ 30 7) rfl rfl (any_of HT_.out (by kernel_rfl)) (fun _ _ _ h=>h) (Or.inr ⟨by rfl,rfl⟩) ?_ ?_
   rotate_left
   ·simp only [Act.put,sA,sB,sC,i64_w,i32_w]
    rfl
   refine pure_ (i:=3) (N:=some 35) (v:=undef) (a':=?_) (bZ 30 15) rfl rfl (any_of HT_.out (by kernel_rfl)) (fun _ _ _ h=>h) (Or.inr ⟨by rfl,rfl⟩) ?_ ?_
   rotate_left
   ·simp only [Act.put,sA,sB,sC,i64_w,i32_w]
    rfl
   refine one_ (i:=4) (N:=some 36) (bZ 30 31) rfl rfl (one_of HT_.out (by kernel_rfl)) (by decide) (fun K hK=>?_)
   refine off_ (by rfl) ?_
   refine hK.out _ _ hHeld (fun hHeld=>?_)
   clear hK K
   refine norm_ (a':=?_) ?_ ?_
   rotate_left
   ·show Act.put _ (some 36) _=_
    simp only [Act.put,sA,sB,sC,i64_w,i32_w]
    rfl
   refine q1 5 37 63 HT_ ?_
   refine q1 6 38 127 HT_ ?_
   refine pure_ (i:=7) (N:=some 39) (v:=undef) (a':=?_) (bZ 30 255) rfl rfl (any_of HT_.out (by kernel_rfl)) (fun _ _ _ h=>h) (Or.inr ⟨by rfl,rfl⟩) ?_ ?_
   rotate_left
   ·simp only [Act.put,sA,sB,sC,i64_w,i32_w]
    rfl
   refine pure_ (i:=8) (N:=some 40) (v:=undef) (a':=?_) (bZ 30 511) rfl rfl (any_of HT_.out (by kernel_rfl)) (fun _ _ _ h=>h) (Or.inr ⟨by rfl,rfl⟩) ?_ ?_
   rotate_left
   ·simp only [Act.put,sA,sB,sC,i64_w,i32_w]
    rfl
   refine pure_ (i:=9) (N:=some 41) (v:=undef) (a':=?_) (bZ 30 1023) rfl rfl (any_of HT_.out (by kernel_rfl)) (fun _ _ _ h=>h) (Or.inr ⟨by rfl,rfl⟩) ?_ ?_
   rotate_left
   ·simp only [Act.put,sA,sB,sC,i64_w,i32_w]
    rfl
   refine pure_ (i:=10) (N:=some 42) (v:=undef) (a':=?_) (bZ 30 2047) rfl rfl (any_of HT_.out (by kernel_rfl)) (fun _ _ _ h=>h) (Or.inr ⟨by rfl,rfl⟩) ?_ ?_
   rotate_left
   ·simp only [Act.put,sA,sB,sC,i64_w,i32_w]
    rfl
   refine pure_ (i:=11) (N:=some 43) (v:=undef) (a':=?_) (bZ 30 4095) rfl rfl (any_of HT_.out (by kernel_rfl)) (fun _ _ _ h=>h) (Or.inr ⟨by rfl,rfl⟩) ?_ ?_
   rotate_left
   ·simp only [Act.put,sA,sB,sC,i64_w,i32_w]
    rfl
   refine pure_ (i:=12) (N:=some 44) (v:=undef) (a':=?_) (bZ 30 8191) rfl rfl (any_of HT_.out (by kernel_rfl)) (fun _ _ _ h=>h) (Or.inr ⟨by rfl,rfl⟩) ?_ ?_
   rotate_left
   ·simp only [Act.put,sA,sB,sC,i64_w,i32_w]
    rfl
   refine one_ (i:=13) (N:=some 45) (bZ 30 16383) rfl rfl (one_of HT_.out (by kernel_rfl)) (by decide) (fun K hK=>?_)
   refine off_ (by rfl) ?_
   refine hK.out _ _ hHeld (fun hHeld=>?_)
   clear hK K
   refine norm_ (a':=?_) ?_ ?_
   rotate_left
   ·show Act.put _ (some 45) _=_
    simp only [Act.put,sA,sB,sC,i64_w,i32_w]
    rfl
   refine pure_ (i:=14) (N:=some 46) (v:=undef) (a':=?_) (bZ 30 32767) rfl rfl (any_of HT_.out (by kernel_rfl)) (fun _ _ _ h=>h) (Or.inr ⟨by rfl,rfl⟩) ?_ ?_
   rotate_left
   ·simp only [Act.put,sA,sB,sC,i64_w,i32_w]
    rfl
   refine q1 15 47 65535 HT_ ?_
   refine q1 16 48 131071 HT_ ?_
   refine pure_ (i:=17) (N:=some 49) (v:=undef) (a':=?_) (bZ 30 262143) rfl rfl (any_of HT_.out (by kernel_rfl)) (fun _ _ _ h=>h) (Or.inr ⟨by rfl,rfl⟩) ?_ ?_
   rotate_left
   ·simp only [Act.put,sA,sB,sC,i64_w,i32_w]
    rfl
   refine pure_ (i:=18) (N:=some 50) (v:=undef) (a':=?_) (bZ 30 524287) rfl rfl (any_of HT_.out (by kernel_rfl)) (fun _ _ _ h=>h) (Or.inr ⟨by rfl,rfl⟩) ?_ ?_
   rotate_left
   ·simp only [Act.put,sA,sB,sC,i64_w,i32_w]
    rfl
   refine pure_ (i:=20) (N:=some 52) (v:=undef) (a':=?_) (bZ 30 1572863) rfl rfl (any_of HT_.out (by kernel_rfl)) (fun _ _ _ h=>h) (Or.inr ⟨by rfl,rfl⟩) ?_ ?_
   rotate_left
   ·simp only [Act.put,sA,sB,sC,i64_w,i32_w]
    rfl
   refine pure_ (i:=21) (N:=some 53) (v:=undef) (a':=?_) (bZ 30 3670015) rfl rfl (any_of HT_.out (by kernel_rfl)) (fun _ _ _ h=>h) (Or.inr ⟨by rfl,rfl⟩) ?_ ?_
   rotate_left
   ·simp only [Act.put,sA,sB,sC,i64_w,i32_w]
    rfl
   refine pure_ (i:=22) (N:=some 54) (v:=undef) (a':=?_) (bZ 30 7864319) rfl rfl (any_of HT_.out (by kernel_rfl)) (fun _ _ _ h=>h) (Or.inr ⟨by rfl,rfl⟩) ?_ ?_
   rotate_left
   ·simp only [Act.put,sA,sB,sC,i64_w,i32_w]
    rfl
   refine pure_ (i:=23) (N:=some 55) (v:=undef) (a':=?_) (bZ 30 16252927) rfl rfl (any_of HT_.out (by kernel_rfl)) (fun _ _ _ h=>h) (Or.inr ⟨by rfl,rfl⟩) ?_ ?_
   rotate_left
   ·simp only [Act.put,sA,sB,sC,i64_w,i32_w]
    rfl
   refine pure_ (i:=25) (N:=some 57) (v:=undef) (a':=?_) (bZ 30 49807359) rfl rfl (any_of HT_.out (by kernel_rfl)) (fun _ _ _ h=>h) (Or.inr ⟨by rfl,rfl⟩) ?_ ?_
   rotate_left
   ·simp only [Act.put,sA,sB,sC,i64_w,i32_w]
    rfl
   refine pure_ (i:=24) (N:=some 56) (v:=undef) (a':=?_) (bZ 30 66584575) rfl rfl (any_of HT_.out (by kernel_rfl)) (fun _ _ _ h=>h) (Or.inr ⟨by rfl,rfl⟩) ?_ ?_
   rotate_left
   ·simp only [Act.put,sA,sB,sC,i64_w,i32_w]
    rfl
   refine pure_ (i:=26) (N:=some 58) (v:=undef) (a':=?_) (bZ 30 133693439) rfl rfl (any_of HT_.out (by kernel_rfl)) (fun _ _ _ h=>h) (Or.inr ⟨by rfl,rfl⟩) ?_ ?_
   rotate_left
   ·simp only [Act.put,sA,sB,sC,i64_w,i32_w]
    rfl
   refine one_ (i:=19) (N:=some 51) (bZ 30 134217727) rfl rfl (one_of HT_.out (by kernel_rfl)) (by decide) (fun K hK=>?_)
   refine off_ (by rfl) ?_
   refine hK.out _ _ hHeld (fun hHeld=>?_)
   clear hK K
   refine norm_ (a':=?_) ?_ ?_
   rotate_left
   ·show Act.put _ (some 51) _=_
    simp only [Act.put,sA,sB,sC,i64_w,i32_w]
    rfl
   refine pure_ (i:=27) (N:=some 59) (v:=undef) (a':=?_) (bZ 30 268435455) rfl rfl (any_of HT_.out (by kernel_rfl)) (fun _ _ _ h=>h) (Or.inr ⟨by rfl,rfl⟩) ?_ ?_
   rotate_left
   ·simp only [Act.put,sA,sB,sC,i64_w,i32_w]
    rfl
   refine q1 28 60 536870911 HT_ ?_
   refine q1 29 6 1073741823 HT_ ?_
   refine done_ (done_of HT_.out (by kernel_rfl)) ?_
   try go_wp2
   go_ret
   refine ⟨?_,HB.out⟩
   rw [← HRES.out]
   rfl
  | true=>
   go_enter Tryz.func13,Tryz.ntmps13
   go_wp2_with (first|(go_at_call 14;refine (HU.out _ (Below.refl _ _)).mono ?_;rintro e w5 ⟨rfl,hb5⟩;have HB:=zA hb5;clear hb5)|(go_at_call 20;refine (HS.out _ HB.out).mono ?_;rintro e w6 ⟨rfl,⟨nd,rfl⟩⟩)|(at_builtin;refine sames_append rfl (.tmp 24) (.tmp 25) rfl (below_alloc (pw_below_drewN HB.out nd) _) HR.out HN.out G2.out rfl rfl ?_;intro g cap cur news w7 hrep hcells hcap hmax hcur htake hg hb7;have HREP:=zA hrep;have HH:=zA hcells;have HCAP:=zA hcap;have HMX:=zA hmax;have HCU:=zA hcur;have HTK:=zA htake;have HGE:=zA hg;have HB7:=zA hb7;clear hrep hcells hcap hmax hcur htake hg hb7;obtain ⟨u0,hu0⟩:=sames_cell HH.out HCU.out (i:=a1.toNat) (by have:=G0.out;have:=G1.out;have:=HCAP.out;omega);have hf0:=blk_frozen HH.out (a1.toNat * 2);have HST:=zA (sames_store HREP.out HH.out HCAP.out HMX.out HCU.out HTK.out HGE.out HB7.out (i:=a1.toNat) (by have:=G0.out;have:=G1.out;omega) a2)))
   obtain ⟨hb8,hm8⟩:=HST.out
   have HB:=Sd.mk (below_drew1 hb8)
   have HM:=Sd.mk (Kd.C_below hm8 (below_drew1 (Below.refl _ _)))
   clear hb8 hm8 HST hu0 hf0
   obtain ⟨ad',_,_,eA,hS,_⟩:=at_T65 (Kd.C_below HR.out HB.out) a1 G0.out G1.out
   obtain rfl:=zE eA
   clear eA
   refine start_ (n:=30) (S:=fun w'=>w'.cell? (ad.add (a1.toNat * 2))=some (.int .i64 (rd_T65 l0 a1).f0)) (ds:=[]) (bZ 30 0) (by kernel_rfl) rfl (by kernel_rfl) hS (fun hHeld=>?_)
   refine with_tabW sames.tab sames.bits (fun HT_ HW_=>?_)
   clear hS
   generalize World.drew _=w9 at HB HM hHeld ⊢
   refine q1 0 32 1 HT_ ?_
   refine q1 1 33 3 HT_ ?_
   refine q1 2 34 7 HT_ ?_
   refine q1 3 35 15 HT_ ?_
   refine one_ (i:=4) (N:=some 36) (bZ 30 31) rfl rfl (one_of HT_.out (by kernel_rfl)) (by decide) (fun K hK=>?_)
   refine goes_ Tryz.func23 (by kernel_rfl) rfl #[.slice (some ad) l0.length c0,.slice (some ad) l0.length c0] (by rfl) rfl rfl (by (try simp only [mA,mB,mC]);first|done|rfl|(simp only [lD,lT];rfl)) ?_
   refine (plur_Same.calls _ _ l0 _ _ l0 true _ (Kd.C_below HR.out HB.out) HC.out (Kd.C_below HR.out HB.out) HC.out S1).mono ?_
   rintro e w5 ⟨rfl,hb⟩
   refine ⟨_,rfl,?_⟩
   have hH2:=pw_cell_below hb hHeld
   replace HB:=Sd.mk (below_step HB.out hb)
   replace HM:=Sd.mk (Kd.C_below HM.out hb)
   clear hb hHeld
   refine hK.out _ _ hH2 (fun hHeld=>?_)
   clear hH2
   clear hK K
   refine norm_ (a':=?_) ?_ ?_
   rotate_left
   ·show Act.put _ (some 36) _=_
    simp only [Act.put,sA,sB,sC,i64_w,i32_w]
    rfl
   refine q1 5 37 63 HT_ ?_
   refine q1 6 38 127 HT_ ?_
   refine q1 7 39 255 HT_ ?_
   refine q1 8 40 511 HT_ ?_
   refine q1 9 41 1023 HT_ ?_
   refine q1 10 42 2047 HT_ ?_
   refine q1 11 43 4095 HT_ ?_
   refine q1 12 44 8191 HT_ ?_
   refine one_ (i:=13) (N:=some 45) (bZ 30 16383) rfl rfl (one_of HT_.out (by kernel_rfl)) (by decide) (fun K hK=>?_)
   refine goes_ Tryz.func23 (by kernel_rfl) rfl #[.slice (some ad) l0.length c0,.slice (some ad) y.length c0] (by rfl) rfl rfl (by (try simp only [mA,mB,mC]);first|done|rfl|(simp only [lD,lT];rfl)) ?_
   refine (plur_Same.calls _ _ l0 _ _ y false _ (Kd.C_below HR.out HB.out) HC.out (Kd.C_below HY.out HB.out) HYC.out S2).mono ?_
   rintro e w5 ⟨rfl,hb⟩
   refine ⟨_,rfl,?_⟩
   have hH2:=pw_cell_below hb hHeld
   replace HB:=Sd.mk (below_step HB.out hb)
   replace HM:=Sd.mk (Kd.C_below HM.out hb)
   clear hb hHeld
   refine hK.out _ _ hH2 (fun hHeld=>?_)
   clear hH2
   clear hK K
   refine norm_ (a':=?_) ?_ ?_
   rotate_left
   ·show Act.put _ (some 45) _=_
    simp only [Act.put,sA,sB,sC,i64_w,i32_w]
    rfl
   refine q1 14 46 32767 HT_ ?_
   refine q1 15 47 65535 HT_ ?_
   refine q1 16 48 131071 HT_ ?_
   refine q1 17 49 262143 HT_ ?_
   refine q1 18 50 524287 HT_ ?_
   refine q1 20 52 1572863 HT_ ?_
   refine q1 21 53 3670015 HT_ ?_
   refine q1 22 54 7864319 HT_ ?_
   refine q1 23 55 16252927 HT_ ?_
   refine q1 25 57 49807359 HT_ ?_
   refine q2 24 56 66584575 HT_ HW_ hHeld ?_ (hy:=by intro w' s0;go_simp;with_reducible rfl)
   refine q1 26 58 133693439 HT_ ?_
   refine one_ (i:=19) (N:=some 51) (bZ 30 134217727) rfl rfl (one_of HT_.out (by kernel_rfl)) (by decide) (fun K hK=>?_)
   refine goes_ Tryz.func23 (by kernel_rfl) rfl #[.slice (some ad) l0.length c0,.slice (some ⟨g,0,none⟩) l0.length cap] (by rfl) rfl rfl (by (try simp only [mA,mB,mC]);first|done|rfl|(simp only [lD,lT];rfl)) ?_
   refine (same3 HR3.out (List.length_set ..) (Kd.C_below HR.out HB.out) HC.out HM.out HCAP.out).mono ?_
   rintro e w5 ⟨rfl,hb⟩
   refine ⟨_,rfl,?_⟩
   have hH2:=pw_cell_below hb hHeld
   replace HB:=Sd.mk (below_step HB.out hb)
   replace HM:=Sd.mk (Kd.C_below HM.out hb)
   clear hb hHeld
   refine hK.out _ _ hH2 (fun hHeld=>?_)
   clear hH2
   clear hK K
   refine norm_ (a':=?_) ?_ ?_
   rotate_left
   ·show Act.put _ (some 51) _=_
    simp only [Act.put,sA,sB,sC,i64_w,i32_w]
    rfl
   refine q1 27 59 268435455 HT_ ?_
   refine q1 28 60 536870911 HT_ ?_
   refine q1 29 6 1073741823 HT_ ?_
   refine done_ (done_of HT_.out (by kernel_rfl)) ?_
   try go_wp2
   go_ret
   refine ⟨?_,HB.out⟩
   rw [← HRES.out]
   first|rfl|simp
  -- GEN END
end Go.Proofs.YtgfajgkjbckkgaaGreatDoor.PZ
end
end
section
set_option maxRecDepth 100000
namespace Go.Proofs.YtgfajgkjbckkgaaGreatDoor.PZ
open Go.RowKit Go.Proofs.YtgfajgkjbckkgaaGreatDoorW.PrintWords Go.Proofs.YtgfajgkjbckkgaaGreatDoorW.PrintLast
abbrev Tx:=S68
def nextB (last cat:Int):Bool:=decide (last<cat) && decide (cat≤5)
theorem next_f (a b:Int):plur_next.f a b=some (nextB a b):=by
 unfold plur_next.f nextB
 by_cases h:b>a
 · rw [if_pos h,zC (show a<b from h),Bool.true_and]
 rw [if_neg h,zD (show ¬ a<b from h),Bool.false_and]
theorem rd65 {l:List Ru}{i:Nat}(h:i<l.length):rd_T65 l (i:Int)=l[i]:=by
 unfold rd_T65
 simp [List.getD_eq_getElem?_getD,List.getElem?_eq_getElem h]
theorem rd68 {l:List Tx}{i:Nat}(h:i<l.length):rd_T68 l (i:Int)=l[i]:=by
 unfold rd_T68
 simp [List.getD_eq_getElem?_getD,List.getElem?_eq_getElem h]
def rightR:Int→List Ru→Bool
  | _,[]=>true
  | last,x :: l=>nextB last x.f0 && (rightP x.f1 && rightR x.f0 l)
theorem right_l0 {l:List Ru}(hl:∀ x ∈ l,TxtOk x.f1)(hn:l.length≤140737488355328)(n:Nat):∀ (i:Nat) (last:Int),i+n=l.length→Ev (fun k=>plur_Right.l0 k last l (l.length:Int) (i:Int)) (rightR last (l.drop i)):=by
 induction n with
 | zero=>
  intro i last hi
  have q1:¬ ((i:Nat):Int)<(l.length:Int):=by omega
  refine Ev_shift ?_
  simp only [plur_Right.l0,if_neg q1]
  rw [List.drop_of_length_le (by omega)]
  exact Ev.now _
 | succ n ih=>
  intro i last hi
  have hlt:i<l.length:=by omega
  have q1:((i:Nat):Int)<(l.length:Int):=by omega
  have q2:(0:Int)≤(i:Int):=by omega
  have wi:wrap64 ((i:Int)+1)=((i+1:Nat):Int):=by rw [w64 _ (by omega) (by omega)];omega
  refine Ev_shift ?_
  simp only [plur_Right.l0,if_pos q1,if_pos q2,rd65 hlt,next_f,Option.bind_some,wi]
  rw [drop_get hlt]
  simp only [rightR]
  cases hb:nextB last (l[i]).f0 with
  | false=>simp only [Bool.false_eq_true,if_false,Bool.false_and];exact Ev.now _
  | true=>
   simp only [if_true,Bool.true_and]
   refine Ev.bind (ruleRight11 (hl _ (List.getElem_mem hlt))) ?_
   cases hr:rightP (l[i]).f1 with
   | false=>simp only [Bool.false_eq_true,if_false,Bool.false_and];exact Ev.now _
   | true=>
    simp only [if_true,Bool.true_and]
    exact ih (i+1) _ (by omega)
theorem plurRight_ev {l:List Ru}(hl:∀ x ∈ l,TxtOk x.f1)(hn:l.length≤140737488355328):Ev (fun k=>plur_Right.f k l) (rightR 0 l):=by
 unfold plur_Right.f
 have:=right_l0 hl hn l.length 0 0 (by omega)
 rw [List.drop_zero] at this
 exact this
def readR:Int→Nat→List Ru→List Tx→List Ru×Int×Int
  | _,_,acc,[]=>(acc,0,0)
  | last,i,acc,x :: l=>if nextB last x.f0=true then (if (parseP (bytesOf x.f1)).2.2=0∧rightP (parseP (bytesOf x.f1)).1=true then readR x.f0 (i+1) (acc ++ [⟨x.f0,(parseP (bytesOf x.f1)).1⟩]) l else ([],(i:Int),2)) else ([],(i:Int),1)
theorem read_l0 {l:List Tx}(hl:∀ x ∈ l,x.f1.size≤140737488351232)(hn:l.length≤1000000)(n:Nat):∀ (i:Nat) (last:Int) (acc:List Ru),i+n=l.length→acc.length≤i→Ev (fun k=>plur_Read.l0 k acc last l (l.length:Int) (i:Int)) (readR last i acc (l.drop i)):=by
 induction n with
 | zero=>
  intro i last acc hi _
  have q1:¬ ((i:Nat):Int)<(l.length:Int):=by omega
  refine Ev_shift ?_
  simp only [plur_Read.l0,if_neg q1]
  rw [List.drop_of_length_le (by omega)]
  exact Ev.now _
 | succ n ih=>
  intro i last acc hi hacc
  have hlt:i<l.length:=by omega
  have q1:((i:Nat):Int)<(l.length:Int):=by omega
  have q2:(0:Int)≤(i:Int):=by omega
  have q3:acc.length<4398046511104:=by omega
  have wi:wrap64 ((i:Int)+1)=((i+1:Nat):Int):=by rw [w64 _ (by omega) (by omega)];omega
  refine Ev_shift ?_
  simp only [plur_Read.l0,if_pos q1,if_pos q2,rd68 hlt,next_f,Option.bind_some,wi]
  rw [drop_get hlt]
  simp only [readR]
  cases hb:nextB last (l[i]).f0 with
  | false=>simp only [Bool.false_eq_true,if_false];exact Ev.now _
  | true=>
   simp only [if_true,parse_f (hl _ (List.getElem_mem hlt)),Option.bind_some]
   have hg:=parse_good (bytesOf (l[i]).f1)
   by_cases he:(parseP (bytesOf (l[i]).f1)).2.2=0
   ·simp only [if_pos he]
    refine Ev.bind (ruleRight11 hg.txt) ?_
    by_cases hr:rightP (parseP (bytesOf (l[i]).f1)).1=true
    ·simp only [if_pos hr,if_pos q3,if_pos (show (parseP (bytesOf (l[i]).f1)).2.2=0∧rightP (parseP (bytesOf (l[i]).f1)).1=true from ⟨he,hr⟩)]
     exact ih (i+1) _ _ (by omega) (by rw [List.length_append];simp;omega)
    simp only [if_neg hr,if_neg (show ¬ ((parseP (bytesOf (l[i]).f1)).2.2=0∧rightP (parseP (bytesOf (l[i]).f1)).1=true) from fun h=>hr h.2)]
    exact Ev.now _
   simp only [if_neg he,if_neg (show ¬ ((parseP (bytesOf (l[i]).f1)).2.2=0∧rightP (parseP (bytesOf (l[i]).f1)).1=true) from fun h=>he h.1)]
   exact Ev.now _
theorem plurRead_ev {l:List Tx}(hl:∀ x ∈ l,x.f1.size≤140737488351232)(hn:l.length≤1000000):Ev (fun k=>plur_Read.f k l) (readR 0 0 [] l):=by
 unfold plur_Read.f
 have:=read_l0 hl hn l.length 0 0 [] (by omega) (by simp)
 rw [List.drop_zero] at this
 exact this
def catX (i f:List Int)(w c:Int)(l:List Ru):Int:=(hlist (fun x=>condX i f w c x.f1) l).headD 0
theorem plurOf_f {i f:List Int}{w c:Int}(h:OpOk i f w c){l:List Ru}(hx:∀ x ∈ l,GoodC x.f1):plur_Of.f l i f w c=some (catX i f w c l):=by
 have e:∀ x ∈ l,rule_Holds.f x.f1 i f w c=some (condX i f w c x.f1):=fun x hl=>holds_f h (hx x hl).num
 unfold plur_Of.f
 rw [if_pos (fun x hl=>by rw [e x hl];rfl)]
 congr 1
 unfold catX hlist
 congr 2
 refine List.filter_congr (fun x hl=>?_)
 rw [e x hl]
 simp
theorem rightR_good:∀ {l:List Ru} {last:Int},rightR last l=true→∀ x ∈ l,GoodC x.f1
  | [],_,_,_,h=>by cases h
  | y :: l,last,h,x,hx=>by
    simp only [rightR,Bool.and_eq_true] at h
    rcases List.mem_cons.1 hx with rfl|hx
    · exact right_good h.2.1
    · exact rightR_good h.2.2 x hx
def sh12:List Ru:=[⟨2,[[⟨110,0,false,[⟨1,1⟩]⟩]]⟩]
theorem sh12_text:condT [32] [[⟨110,0,false,[⟨1,1⟩]⟩]]=[110,32,61,32,49]:=by
 unfold condT rowT relT rgT joinT
 simp only [List.map_cons,List.map_nil,pw_dig (show (0:Int)≤1 by decide) (by decide)]
 decide
theorem sh12_parse:parseP [110,32,61,32,49]=([[⟨110,0,false,[⟨1,1⟩]⟩]],0,0):=by decide +kernel
theorem sh12_right:rightP [[⟨110,0,false,[⟨1,1⟩]⟩]]=true:=by
 unfold rightP
 rw [sh12_text,sh12_parse]
 decide
theorem sh12_read:readR 0 0 [] [(⟨2,(⟨#[110,32,61,32,49]⟩:ByteArray)⟩:Tx)]=(sh12,0,0):=by
 have e:bytesOf (⟨#[110,32,61,32,49]⟩:ByteArray)=[110,32,61,32,49]:=by decide
 have h1:nextB 0 2=true:=by decide
 simp only [readR,h1,if_true,e,sh12_parse,sh12_right,and_self,List.nil_append]
 rfl
theorem sh12_rightR:rightR 0 sh12=true:=by
 simp only [rightR,sh12,sh12_right]
 decide
theorem shown12_ev:Ev (fun k=>exerguelaw12_shown.f k) true:=by
 have hg:=rightR_good sh12_rightR
 have h1:=plurOf_f (op_ok [1] (by simp)) hg
 have h2:=plurOf_f (op_ok [2] (by simp)) hg
 rw [show catX [1] [] 0 0 sh12=2 from by decide] at h1
 rw [show catX [2] [] 0 0 sh12=0 from by decide] at h2
 have q1:(sh12.length:Int)=1:=by decide
 have hread:=plurRead_ev (l:=[(⟨2,(⟨#[110,32,61,32,49]⟩:ByteArray)⟩:Tx)]) (by intro x hx;rw [List.mem_singleton.1 hx];decide) (by simp)
 rw [sh12_read] at hread
 have hname:plur_Name.f 2=some (⟨#[111,110,101]⟩:ByteArray):=rfl
 have e2:((⟨#[111,110,101]⟩:ByteArray)).toList=([111,110,101]:List UInt8):=by rw [ByteArray.toList_eq]
 unfold exerguelaw12_shown.f
 refine Ev.bind hread ?_
 simp only [if_true,if_pos q1,h1,h2,Option.bind_some,hname,if_pos e2]
 have:=plurRight_ev (l:=sh12) (fun x hx=>(hg x hx).txt) (by simp [sh12])
 rw [sh12_rightR] at this
 exact Ev.bind this (Ev.now _)
theorem shortR_ev {l:List Ru}(hl:∀ x ∈ l,LenOk x.f1)(hn:l.length≤140737488355328):∃ R,Ev (fun k=>exergueref12_Short.f k l) R∧(R=true→l.length≤8∧∀ x ∈ l,ShortC x.f1):=by
 unfold exergueref12_Short.f
 have:∀ (n i:Nat),i+n=l.length→i≤8→(∀ x ∈ l.take i,ShortC x.f1)→∃ R,Ev (fun k=>exergueref12_Short.l0 k l (i:Int)) R∧(R=true→l.length≤8∧∀ x ∈ l,ShortC x.f1):=by
  intro n
  induction n with
  | zero=>
   intro i hi h8 hs
   have q1:¬ ((i:Nat):Int)<(l.length:Int):=by omega
   rw [List.take_of_length_le (by omega)] at hs
   refine ⟨true,Ev_shift ?_,fun _=>⟨by omega,hs⟩⟩
   simp only [exergueref12_Short.l0,if_neg q1]
   exact Ev.now _
  | succ n ih=>
   intro i hi h8 hs
   have hlt:i<l.length:=by omega
   have q1:((i:Nat):Int)<(l.length:Int):=by omega
   have q2:(0:Int)≤(i:Int):=by omega
   have wi:wrap64 ((i:Int)+1)=((i+1:Nat):Int):=by rw [w64 _ (by omega) (by omega)];omega
   obtain ⟨b,S,P⟩:=short_ev (hl _ (List.getElem_mem hlt))
   by_cases h9:(i:Int)≥8
   ·refine ⟨false,Ev_shift ?_,fun h=>by cases h⟩
    simp only [exergueref12_Short.l0,if_pos q1,if_pos q2,rd65 hlt]
    refine Ev.bind S ?_
    simp only [if_pos h9]
    exact Ev.now _
   cases b with
   | false=>
    refine ⟨false,Ev_shift ?_,fun h=>by cases h⟩
    simp only [exergueref12_Short.l0,if_pos q1,if_pos q2,rd65 hlt]
    refine Ev.bind S ?_
    simp only [if_neg h9,Bool.false_eq_true,if_false]
    exact Ev.now _
   | true=>
    obtain ⟨R,hR1,hR2⟩:=ih (i+1) (by omega) (by omega) (fun x hx=>by
     rw [List.take_succ_eq_append_getElem hlt] at hx
     rcases List.mem_append.1 hx with hx|hx
     · exact hs x hx
     rw [List.mem_singleton.1 hx];exact P rfl)
    refine ⟨R,Ev_shift ?_,hR2⟩
    simp only [exergueref12_Short.l0,if_pos q1,if_pos q2,rd65 hlt,wi]
    refine Ev.bind S ?_
    simp only [if_neg h9,if_true]
    exact hR1
 exact this l.length 0 (by omega) (by omega) (by simp)
section
theorem OkRus.len {l:List Ru}(h:OkRus l):(∀ x ∈ l,LenOk x.f1)∧l.length≤140737488355328:=⟨fun x hx=>(h.2 x hx).2.len,by have:=h.1;omega⟩
section
variable (i f:List Int)(w c:Int)
end
end
end Go.Proofs.YtgfajgkjbckkgaaGreatDoor.PZ
end
