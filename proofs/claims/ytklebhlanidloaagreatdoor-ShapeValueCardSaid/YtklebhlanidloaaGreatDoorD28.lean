/- Texts of this seat, joined. Conditions: none beyond each statement's own. -/
import Derived.Test.YtklebhlanidloaaGreatDoorD26
import Derived.Test.YtklebhlanidloaaGreatDoorD24
import Derived.Great.BuildSlice
set_option linter.all false
section
set_option maxRecDepth 100000
namespace Go.Proofs.YtklebhlanidloaaGreatDoor.PZ
open Go.RowKit Go.Proofs.YtklebhlanidloaaGreatDoorW.PrintWords Go.Proofs.YtklebhlanidloaaGreatDoorW.PrintLast
section
section
variable {ops:Array Oper}{rest:List Oper}{o:Oper}{a:Act}{W:World}{Q:Exit→Act→World→Prop}
theorem nine_slice {N:Tmp}(hg:o.guard=none)(hN:o.dst=some N){ps:Array (Nat×Operand)}(ho:o.op = .buildSlice 97 9 ps)(zs:List Int)(hz:zs.length=9)
    (hps:(ps.map fun (i,x)=>(i,a.eval x)).toList=((zs.map (Value.int .i64)).zipIdx 0).map fun x=>(x.2,x.1))
    (h:∀ g W1,Kd.C (Kd.int .i64) W1 (some ⟨g,0,none⟩) zs.length zs→Below W.heap.size W W1→wpList Tryz.prog ops Q rest (a.put (some N) (.slice (some ⟨g,0,none⟩) 9 9)) W1):wpList Tryz.prog ops Q (o :: rest) a W:=by
 have hsz:(Tryz.prog.info? 3).map (·.size)=some 1:=by kernel_rfl
 have hzo:((Tryz.prog.info? 3).bind (·.zero)).isSome=true:=by kernel_rfl
 cases hie:Tryz.prog.info? 3 with
 | none=>simp [hie] at hsz
 | some ie=>
  simp only [hie,Option.map_some,Option.some.injEq,Option.bind_some] at hsz hzo
  obtain ⟨z,hzz⟩:=Option.isSome_iff_exists.1 hzo
  refine wpList_buildSlice hg 97 3 9 ps ho (zs.map (Value.int .i64)).toArray ie z Tryz.underlying97 hie hzz (by rw [hsz];omega) (by rw [hsz];omega) ?_ ?_
  ·rw [hps,hsz]
   exact Great.fill_flat _ _ (fun v hv=>by obtain ⟨n,_,rfl⟩:=List.mem_map.1 hv;rfl) (by simp [hz])
  rw [hN]
  refine h _ _ ?_ (below_alloc (Below.refl _ _) _)
  refine Kd.C_of_reads (d:=(0:Int)) (h1:=fun _=>rfl) ⟨rfl,by omega,fun _=>⟨_,rfl,fun j hj=>?_⟩⟩
  rw [add_plain,blk_cell (blk_new W _)]
  have h':j<zs.length:=by omega
  simp [List.getD_eq_getElem?_getD,List.getElem?_eq_getElem h']
end
theorem TokR.row {W:World}{x:SV}{l:List S114}(h:TokR W x l):RowT W x l:=h.reads
theorem pat_load_w {ops:Array Oper}{rest:List Oper}{o:Oper}{a:Act}{W:World}{Q:Exit→Act→World→Prop}{x:Operand}{N:Tmp}(hw:Region.wanted o (yielded ops a.tmps)=true)(hN:o.dst=some N)(ho:o.op = .load 26 x)(g:Nat)(hx:a.eval x = .pointer (some ⟨g,0,none⟩))(s:PS)(v:V4)(hb:PBox g s v W)
    (h:wpList Tryz.prog ops Q rest (a.put (some N) (s.val v)) W):wpList Tryz.prog ops Q (o :: rest) a W:=by
 refine wpList_step fun K hK=>?_
 rw [if_pos hw]
 unfold Oper.wp
 rw [pat_load_run ho g hx s v hb]
 show K (a.put o.dst _) W
 rw [hN]
 exact hK _ _ h
def PS.nine (s:PS):List Int:=[s.hash,s.minInt,s.minFrac,s.maxFrac,s.g1,s.g2,s.minSig,s.maxSig,s.exp]
def inB (z:Int):Bool:=decide (0≤z) && decide (z≤40)
noncomputable def isV (r:Int):Bool:=(exergueref01_Is.f r).getD false
theorem isV_f (r:Int):exergueref01_Is.f r=some (isV r):=by obtain ⟨b,h⟩:=is_ex r;unfold isV;rw [h];rfl
noncomputable def backB (s:PS)(l0 l1 l2 l3:PRow):Option (PS×PRow×PRow×PRow×PRow)→Bool
  | none=>false
  | some (q,m0,m1,m2,m3)=>(toksV l0 m0 && toksV l1 m1) && ((toksV l2 m2 && toksV l3 m3) && numsB s q)
noncomputable def rightB (s:PS)(l0 l1 l2 l3:PRow):Bool:=if s.nine.all inB=true then (if isV s.pad=true then (if (runesV l0 && runesV l1)=true then (if (runesV l2 && runesV l3)=true then backB s l0 l1 l2 l3 (parseO (bytesOf (textS s l0 l1 l2 l3))) else false) else false) else false) else false
theorem nums_all {s:PS}(h:s.nine.all inB=true):s.nums:=by
 simp only [PS.nine,inB,List.all_cons,List.all_nil,Bool.and_true,Bool.and_eq_true,decide_eq_true_eq] at h
 constructor <;> omega
theorem textS_size (s:PS)(l0 l1 l2 l3:PRow)(hs:s.nums)(k0:l0.length≤300)(k1:l1.length≤300)(k2:l2.length≤300)(k3:l3.length≤300):(textS s l0 l1 l2 l3).size≤100000:=by
 have z0:(writtenV l0).size≤2000:=by have:=(written_ev l0 (by omega)).2;omega
 have z1:(writtenV l1).size≤2000:=by have:=(written_ev l1 (by omega)).2;omega
 have z2:(writtenV l2).size≤2000:=by have:=(written_ev l2 (by omega)).2;omega
 have z3:(writtenV l3).size≤2000:=by have:=(written_ev l3 (by omega)).2;omega
 have zn:=numS_size s hs
 have zp1:=padS_size s 1
 have zp2:=padS_size s 2
 have zp3:=padS_size s 3
 have zp4:=padS_size s 4
 have one:(⟨#[59]⟩:ByteArray).size=1:=rfl
 have hh:(headS s l0 l1).size≤6000:=by unfold headS;simp only [ByteArray.size_append];omega
 unfold textS
 split
 · simp only [ByteArray.size_append,one];omega
 omega
theorem runes_c (x:SV)(l:PRow)(w:World)(h:RowT w x l)(hl:l.length≤300):Calls Tryz.prog 65 #[.slice x.a x.n x.c] w fun e w'=>e = .returned (.bool (runesV l))∧Below w.heap.size w w':=by
 obtain ⟨k,hk⟩:=(runes_ev l (by omega)).rounds
 obtain ⟨h1,h2,h3⟩:=h
 rw [h1] at h2 ⊢
 exact (exergueref10_runes.calls k x.a x.c l _ w h3 h2 hk).mono fun _ _ h=>⟨h.1,h.2.below⟩
theorem all_step {zs:List Int}{k:Nat}(hk:k<zs.length)(h:∀ j:Nat,j<k→inB (rd zs j)=true)(h1:inB (rd zs k)=true):∀ j:Nat,j<k+1→inB (rd zs j)=true:=by
 intro j hj
 by_cases e:j=k
 · rw [e];exact h1
 exact h j (by omega)
theorem all_end {zs:List Int}(h:∀ j:Nat,j<zs.length→inB (rd zs j)=true):zs.all inB=true:=by
 rw [List.all_eq_true]
 intro z hz
 obtain ⟨j,hj,rfl⟩:=List.getElem_of_mem hz
 have:=h j hj
 simpa [rd,List.getD_eq_getElem?_getD,List.getElem?_eq_getElem hj] using this
theorem all_out {zs:List Int}{k:Nat}(hk:k<zs.length)(h:inB (rd zs k)=false):zs.all inB=false:=by
 rw [List.all_eq_false]
 refine ⟨zs[k],List.getElem_mem hk,?_⟩
 have:rd zs k=zs[k]:=by simp [rd,List.getD_eq_getElem?_getD,List.getElem?_eq_getElem hk]
 rw [this] at h
 rw [h]
 decide
theorem PSt.of1 {w W W1:World}{gp gr:Nat}{s r:PS}{v u:V4}(h:P1 w W gp s v)(hr:gr=W.heap.size)(h1:PBox gr r u W1)(hb1:Below W.heap.size W W1):PSt w W1 gp gr s v r u:=⟨h.p.below hb1,h1,by have:=h.p.lt;omega,h.hp,by have:=h.b.size;omega,h.b.trans (hb1.mono h.b.size)⟩
set_option maxHeartbeats 8000000 in
set_option maxRecDepth 100000 in
theorem right_c (s:PS)(v:V4)(l0 l1 l2 l3:PRow)(w:World)(h0:RowT w v.v0 l0)(h1:RowT w v.v1 l1)(h2:RowT w v.v2 l2)(h3:RowT w v.v3 l3)(k0:l0.length≤300)(k1:l1.length≤300)(k2:l2.length≤300)(k3:l3.length≤300) :
    Calls Tryz.prog 37 #[s.val v] w fun e w'=>e = .returned (.bool (rightB s l0 l1 l2 l3))∧Below w.heap.size w w':=by
 have K0:=zA (fun W hb=>runes_c v.v0 l0 W (h0.below hb) k0)
 have K1:=zA (fun W hb=>runes_c v.v1 l1 W (h1.below hb) k1)
 have K2:=zA (fun W hb=>runes_c v.v2 l2 W (h2.below hb) k2)
 have K3:=zA (fun W hb=>runes_c v.v3 l3 W (h3.below hb) k3)
 have KI:=zA (fun W=>exergueref01_Is.calls s.pad _ W (isV_f s.pad))
 have KT:=zA (fun W hb hs=>text_c s v l0 l1 l2 l3 W hs (h0.below hb) (h1.below hb) (h2.below hb) (h3.below hb) k0 k1 k2 k3)
 have KZ:=zA (fun hs=>textS_size s l0 l1 l2 l3 hs k0 k1 k2 k3)
 have KS:=zA (fun t u b0 b1 b2 b3 W hb (g0:RowT W u.v0 b0) g1 g2 g3=>same_c s t v u l0 l1 l2 l3 b0 b1 b2 b3 W (h0.below hb) (h1.below hb) (h2.below hb) (h3.below hb) g0 g1 g2 g3 k0 k1 k2 k3)
 obtain ⟨X,hX⟩:∃ X,rightB s l0 l1 l2 l3=X:=⟨_,rfl⟩
 rw [hX]
 unfold rightB at hX
 have HX:=zA hX
 have HNU:=zA (nums_all (s:=s))
 clear h0 h1 h2 h3 hX k0 k1 k2 k3
 go_enter Tryz.func37,Tryz.ntmps37
 go_wp2_with (first|((with_reducible refine gate_dst (N:=1) rfl ?_);refine pat_box rfl rfl rfl s v rfl ?_;intro gp w1 hgp hbp hb1;have ST:=zA (P1.start hgp hbp hb1);clear hgp hbp hb1;have c5:World.cell? _ ⟨gp,5,none⟩=some (.int .i64 s.hash):=ST.out.p.cell 5;have c6:World.cell? _ ⟨gp,6,none⟩=some (.int .i64 s.minInt):=ST.out.p.cell 6;have c7:World.cell? _ ⟨gp,7,none⟩=some (.int .i64 s.minFrac):=ST.out.p.cell 7;have c8:World.cell? _ ⟨gp,8,none⟩=some (.int .i64 s.maxFrac):=ST.out.p.cell 8;have c9:World.cell? _ ⟨gp,9,none⟩=some (.int .i64 s.g1):=ST.out.p.cell 9;have c10:World.cell? _ ⟨gp,10,none⟩=some (.int .i64 s.g2):=ST.out.p.cell 10;have c11:World.cell? _ ⟨gp,11,none⟩=some (.int .i64 s.minSig):=ST.out.p.cell 11;have c12:World.cell? _ ⟨gp,12,none⟩=some (.int .i64 s.maxSig):=ST.out.p.cell 12;have c13:World.cell? _ ⟨gp,13,none⟩=some (.int .i64 s.exp):=ST.out.p.cell 13)|((with_reducible refine gate_dst (N:=29) rfl ?_);refine nine_slice rfl rfl rfl s.nine rfl (by simp only [List.map_toArray,List.map_cons,List.map_nil];rfl) ?_;intro g9 w2 hr9 hb2;replace ST:=zA (ST.out.below hb2);have HR:=zA hr9;clear hr9 hb2))
 clear c5 c6 c7 c8 c9 c10 c11 c12 c13
 go_loopw [4] (fun s4 wr=>∃ k:Nat,k≤9∧s4 = .int .i64 k∧Aside0 (∀ j:Nat,j<k→inB (rd s.nine j)=true)∧Aside0 (P1 w wr gp s v)∧Aside0 (Kd.C (Kd.int .i64) wr (some ⟨g9,0,none⟩) s.nine.length s.nine)) (fun s4 _=>9 - (intOf s4).toNat)
 case atStart=>exact ⟨0,Nat.zero_le _,rfl,⟨fun j hj=>absurd hj (Nat.not_lt_zero j)⟩,ST,HR⟩
 case round=>
  clear ST HR
  obtain ⟨k,hk,rfl,HA,ST,HR⟩:=hrel
  by_cases hlt:k<9
  ·have hlt2:(k:Int)<9:=by omega
   obtain ⟨ad,hA,hcell⟩:=Kd.at_int HR.out (k:Int) (by omega) (show (k:Int)<9 by omega)
   rw [Int.toNat_natCast] at hcell
   cases hA
   have hp0:(0:Int)≤(k:Int):=by omega
   obtain ⟨z,hz⟩:∃ z,rd s.nine (k:Int)=z:=⟨_,rfl⟩
   rw [hz] at hcell
   have hcl:World.cell? wr ⟨g9,k,none⟩=some (.int .i64 z):=by simpa only [add_plain,Nat.zero_add] using hcell
   clear hcell
   by_cases z1:z<0
   ·have d1:=zC z1
    have he:s.nine.all inB=false:=all_out (show k<9 from hlt) (by rw [hz];simp [inB];omega)
    have hx:=HX.out
    rw [he] at hx
    simp only [Bool.false_eq_true,if_false] at hx
    subst hx
    clear z1 he hz HA
    go_wp2
    go_ret
    exact ⟨rfl,ST.out.b⟩
   have d1:=zD z1
   by_cases z2:40<z
   ·have d2:=zC z2
    have he:s.nine.all inB=false:=all_out (show k<9 from hlt) (by rw [hz];simp [inB];omega)
    have hx:=HX.out
    rw [he] at hx
    simp only [Bool.false_eq_true,if_false] at hx
    subst hx
    clear z1 z2 he hz HA
    go_wp2
    go_ret
    exact ⟨rfl,ST.out.b⟩
   have d2:=zD z2
   have HA2:=zA (all_step (zs:=s.nine) (show k<9 from hlt) HA.out (by rw [hz];simp [inB];omega))
   clear z1 z2 hz HA
   go_wp2
   go_roundw
   case rel=>exact ⟨k+1,by omega,by go_num,HA2,ST,HR⟩
   case measure=>simp [intOf];omega
  obtain rfl:k=9:=by omega
  have he:s.nine.all inB=true:=all_end (zs:=s.nine) HA.out
  have HS:=zA (HNU.out he)
  have hx:=HX.out
  rw [if_pos he] at hx
  have HX:=zA hx
  have hz:=KZ.out HS.out
  have HZ:=zA hz
  clear hx he HA HR hz hk hlt
  have KT2:=zA (fun W hb=>KT.out W hb HS.out)
  have KP:=zA (fun W=>parse_c _ HZ.out W)
  clear KT HS HNU KZ
  generalize parseO (bytesOf (textS s l0 l1 l2 l3))=po at *
  generalize textS s l0 l1 l2 l3=tx at *
  have HBK:=zA (rfl:backB s l0 l1 l2 l3 po=backB s l0 l1 l2 l3 po)
  generalize hbk:backB s l0 l1 l2 l3 po=bk at HX
  have HBK:=zA hbk
  clear hbk
  generalize runesV l0=T0 at *
  generalize runesV l1=T1 at *
  generalize runesV l2=T2 at *
  generalize runesV l3=T3 at *
  generalize isV s.pad=I at *
  obtain ⟨XX,hXX⟩:∃ XX,(T0 && T1)=XX:=⟨_,rfl⟩
  obtain ⟨YY,hYY⟩:∃ YY,(T2 && T3)=YY:=⟨_,rfl⟩
  have hx:=HX.out
  rw [hXX,hYY] at hx
  have HX:=zA hx
  have HXX:=zA hXX
  have HYY:=zA hYY
  clear hx hXX hYY
  have c15:World.cell? _ ⟨gp,15,none⟩=some (.int .i32 s.pad):=ST.out.p.cell 15
  go_upto_region 8 with (first|(go_at_call 64;(with_reducible refine (KI.out _).mono ?_);rintro e w5 ⟨rfl,hb5⟩;replace ST:=zA (ST.out.below hb5.below);clear hb5))
  clear c15
  go_cut [6] (fun s6 wc=>s6 = .bool XX∧Aside0 (P1 w wc gp s v))
  case first=>
   cases T0 with
   | false=>
    have c0:World.cell? _ ⟨gp,0,none⟩=some (.slice v.v0.a v.v0.n v.v0.c):=ST.out.p.cell 0;have c1:World.cell? _ ⟨gp,1,none⟩=some (.slice v.v1.a v.v1.n v.v1.c):=ST.out.p.cell 1
    go_wp2_with (first|(go_at_call 65;(with_reducible refine (K0.out _ ST.out.b).mono ?_);rintro e w5 ⟨rfl,hb5⟩;replace ST:=zA (ST.out.below hb5);clear hb5;(try clear c0 c1);have c0:World.cell? _ ⟨gp,0,none⟩=some (.slice v.v0.a v.v0.n v.v0.c):=ST.out.p.cell 0;have c1:World.cell? _ ⟨gp,1,none⟩=some (.slice v.v1.a v.v1.n v.v1.c):=ST.out.p.cell 1))
    go_meet
    case rel=>exact ⟨by rw [← HXX.out];rfl,ST⟩
   | true=>
    cases T1 with
    | false=>
     have c0:World.cell? _ ⟨gp,0,none⟩=some (.slice v.v0.a v.v0.n v.v0.c):=ST.out.p.cell 0;have c1:World.cell? _ ⟨gp,1,none⟩=some (.slice v.v1.a v.v1.n v.v1.c):=ST.out.p.cell 1
     go_wp2_with (first|(go_at_call 65;(with_reducible refine (K0.out _ ST.out.b).mono ?_);rintro e w5 ⟨rfl,hb5⟩;replace ST:=zA (ST.out.below hb5);clear hb5;(try clear c0 c1);have c0:World.cell? _ ⟨gp,0,none⟩=some (.slice v.v0.a v.v0.n v.v0.c):=ST.out.p.cell 0;have c1:World.cell? _ ⟨gp,1,none⟩=some (.slice v.v1.a v.v1.n v.v1.c):=ST.out.p.cell 1)|(go_at_call 65;(with_reducible refine (K1.out _ ST.out.b).mono ?_);rintro e w5 ⟨rfl,hb5⟩;replace ST:=zA (ST.out.below hb5);clear hb5;(try clear c0 c1);have c0:World.cell? _ ⟨gp,0,none⟩=some (.slice v.v0.a v.v0.n v.v0.c):=ST.out.p.cell 0;have c1:World.cell? _ ⟨gp,1,none⟩=some (.slice v.v1.a v.v1.n v.v1.c):=ST.out.p.cell 1))
     go_meet
     case rel=>exact ⟨by rw [← HXX.out];rfl,ST⟩
    | true=>
     have c0:World.cell? _ ⟨gp,0,none⟩=some (.slice v.v0.a v.v0.n v.v0.c):=ST.out.p.cell 0;have c1:World.cell? _ ⟨gp,1,none⟩=some (.slice v.v1.a v.v1.n v.v1.c):=ST.out.p.cell 1
     go_wp2_with (first|(go_at_call 65;(with_reducible refine (K0.out _ ST.out.b).mono ?_);rintro e w5 ⟨rfl,hb5⟩;replace ST:=zA (ST.out.below hb5);clear hb5;(try clear c0 c1);have c0:World.cell? _ ⟨gp,0,none⟩=some (.slice v.v0.a v.v0.n v.v0.c):=ST.out.p.cell 0;have c1:World.cell? _ ⟨gp,1,none⟩=some (.slice v.v1.a v.v1.n v.v1.c):=ST.out.p.cell 1)|(go_at_call 65;(with_reducible refine (K1.out _ ST.out.b).mono ?_);rintro e w5 ⟨rfl,hb5⟩;replace ST:=zA (ST.out.below hb5);clear hb5;(try clear c0 c1);have c0:World.cell? _ ⟨gp,0,none⟩=some (.slice v.v0.a v.v0.n v.v0.c):=ST.out.p.cell 0;have c1:World.cell? _ ⟨gp,1,none⟩=some (.slice v.v1.a v.v1.n v.v1.c):=ST.out.p.cell 1))
     go_meet
     case rel=>exact ⟨by rw [← HXX.out];rfl,ST⟩
  case rest=>
   clear ST K0 K1
   obtain ⟨rfl,ST⟩:=hcut
   go_upto_region 9 with (fail)
   go_cut [7] (fun s7 wc=>s7 = .bool YY∧Aside0 (P1 w wc gp s v))
   case first=>
    cases T2 with
    | false=>
     have c2:World.cell? _ ⟨gp,2,none⟩=some (.slice v.v2.a v.v2.n v.v2.c):=ST.out.p.cell 2;have c3:World.cell? _ ⟨gp,3,none⟩=some (.slice v.v3.a v.v3.n v.v3.c):=ST.out.p.cell 3
     go_wp2_with (first|(go_at_call 65;(with_reducible refine (K2.out _ ST.out.b).mono ?_);rintro e w5 ⟨rfl,hb5⟩;replace ST:=zA (ST.out.below hb5);clear hb5;(try clear c2 c3);have c2:World.cell? _ ⟨gp,2,none⟩=some (.slice v.v2.a v.v2.n v.v2.c):=ST.out.p.cell 2;have c3:World.cell? _ ⟨gp,3,none⟩=some (.slice v.v3.a v.v3.n v.v3.c):=ST.out.p.cell 3))
     go_meet
     case rel=>exact ⟨by rw [← HYY.out];rfl,ST⟩
    | true=>
     cases T3 with
     | false=>
      have c2:World.cell? _ ⟨gp,2,none⟩=some (.slice v.v2.a v.v2.n v.v2.c):=ST.out.p.cell 2;have c3:World.cell? _ ⟨gp,3,none⟩=some (.slice v.v3.a v.v3.n v.v3.c):=ST.out.p.cell 3
      go_wp2_with (first|(go_at_call 65;(with_reducible refine (K2.out _ ST.out.b).mono ?_);rintro e w5 ⟨rfl,hb5⟩;replace ST:=zA (ST.out.below hb5);clear hb5;(try clear c2 c3);have c2:World.cell? _ ⟨gp,2,none⟩=some (.slice v.v2.a v.v2.n v.v2.c):=ST.out.p.cell 2;have c3:World.cell? _ ⟨gp,3,none⟩=some (.slice v.v3.a v.v3.n v.v3.c):=ST.out.p.cell 3)|(go_at_call 65;(with_reducible refine (K3.out _ ST.out.b).mono ?_);rintro e w5 ⟨rfl,hb5⟩;replace ST:=zA (ST.out.below hb5);clear hb5;(try clear c2 c3);have c2:World.cell? _ ⟨gp,2,none⟩=some (.slice v.v2.a v.v2.n v.v2.c):=ST.out.p.cell 2;have c3:World.cell? _ ⟨gp,3,none⟩=some (.slice v.v3.a v.v3.n v.v3.c):=ST.out.p.cell 3))
      go_meet
      case rel=>exact ⟨by rw [← HYY.out];rfl,ST⟩
     | true=>
      have c2:World.cell? _ ⟨gp,2,none⟩=some (.slice v.v2.a v.v2.n v.v2.c):=ST.out.p.cell 2;have c3:World.cell? _ ⟨gp,3,none⟩=some (.slice v.v3.a v.v3.n v.v3.c):=ST.out.p.cell 3
      go_wp2_with (first|(go_at_call 65;(with_reducible refine (K2.out _ ST.out.b).mono ?_);rintro e w5 ⟨rfl,hb5⟩;replace ST:=zA (ST.out.below hb5);clear hb5;(try clear c2 c3);have c2:World.cell? _ ⟨gp,2,none⟩=some (.slice v.v2.a v.v2.n v.v2.c):=ST.out.p.cell 2;have c3:World.cell? _ ⟨gp,3,none⟩=some (.slice v.v3.a v.v3.n v.v3.c):=ST.out.p.cell 3)|(go_at_call 65;(with_reducible refine (K3.out _ ST.out.b).mono ?_);rintro e w5 ⟨rfl,hb5⟩;replace ST:=zA (ST.out.below hb5);clear hb5;(try clear c2 c3);have c2:World.cell? _ ⟨gp,2,none⟩=some (.slice v.v2.a v.v2.n v.v2.c):=ST.out.p.cell 2;have c3:World.cell? _ ⟨gp,3,none⟩=some (.slice v.v3.a v.v3.n v.v3.c):=ST.out.p.cell 3))
      go_meet
      case rel=>exact ⟨by rw [← HYY.out];rfl,ST⟩
   case rest=>
    clear ST K2 K3
    obtain ⟨rfl,ST⟩:=hcut
    have hx:=HX.out
    clear HX HXX HYY
    cases I with
    | false=>
     simp only [Bool.false_eq_true,if_false,if_true] at hx
     subst hx
     go_wp2
     go_ret
     exact ⟨rfl,ST.out.b⟩
    | true=>
     cases XX with
     | false=>
      simp only [Bool.false_eq_true,if_false,if_true] at hx
      subst hx
      go_wp2
      go_ret
      exact ⟨rfl,ST.out.b⟩
     | true=>
      cases YY with
      | false=>
       simp only [Bool.false_eq_true,if_false,if_true] at hx
       subst hx
       go_wp2
       go_ret
       exact ⟨rfl,ST.out.b⟩
      | true=>
       simp only [if_true] at hx
       subst hx
       cases po with
       | none=>
        go_wp2_with (first|(refine pat_load rfl rfl rfl gp rfl _ _ ST.out.p ?_)|(go_at_call 67;(with_reducible refine (KT2.out _ ST.out.b).mono ?_);rintro e w6 ⟨rfl,hb6⟩;replace ST:=zA (ST.out.below hb6);clear hb6)|(go_at_call 66;(with_reducible refine (KP.out _).mono ?_);rintro e w7 ⟨⟨q7,v7,p7,k7,rfl,hk7⟩,hb7⟩;have d7:(k7 == 0)=false:=zF hk7;clear hk7;replace ST:=zA (ST.out.below hb7);clear hb7)|((with_reducible refine gate_dst (N:=8) rfl ?_);refine pat_alloc rfl rfl rfl ?_;intro gq w8 hgq hbq hb8;have PT:=zA (PSt.of1 ST.out hgq hbq hb8);(try replace G:=zA (And.intro (G.out.1.below hb8) (And.intro (G.out.2.1.below hb8) (And.intro (G.out.2.2.1.below hb8) (G.out.2.2.2.below hb8)))));clear ST hgq hbq hb8)|(refine pat_store rfl rfl rfl gq rfl _ _ rfl _ _ PT.out.r ?_;intro w9 hw9 hb9;(try replace G:=zA (And.intro (G.out.1.but PT.out.r hb9) (And.intro (G.out.2.1.but PT.out.r hb9) (And.intro (G.out.2.2.1.but PT.out.r hb9) (G.out.2.2.2.but PT.out.r hb9)))));replace PT:=zA (PT.out.ret hw9 hb9);clear hw9 hb9))
        go_ret
        exact ⟨by rw [← HBK.out];rfl,PT.out.b⟩
       | some r=>
        obtain ⟨q,m0,m1,m2,m3⟩:=r
        go_wp2_with (first|(refine pat_load rfl rfl rfl gp rfl _ _ ST.out.p ?_)|(go_at_call 67;(with_reducible refine (KT2.out _ ST.out.b).mono ?_);rintro e w6 ⟨rfl,hb6⟩;replace ST:=zA (ST.out.below hb6);clear hb6)|(go_at_call 66;(with_reducible refine (KP.out _).mono ?_);rintro e w7 ⟨⟨u,rfl,g0,g1,g2,g3⟩,hb7⟩;replace ST:=zA (ST.out.below hb7);have G:=zA (And.intro g0 (And.intro g1 (And.intro g2 g3)));clear g0 g1 g2 g3;clear hb7)|((with_reducible refine gate_dst (N:=8) rfl ?_);refine pat_alloc rfl rfl rfl ?_;intro gq w8 hgq hbq hb8;have PT:=zA (PSt.of1 ST.out hgq hbq hb8);(try replace G:=zA (And.intro (G.out.1.below hb8) (And.intro (G.out.2.1.below hb8) (And.intro (G.out.2.2.1.below hb8) (G.out.2.2.2.below hb8)))));clear ST hgq hbq hb8)|(refine pat_store rfl rfl rfl gq rfl _ _ rfl _ _ PT.out.r ?_;intro w9 hw9 hb9;(try replace G:=zA (And.intro (G.out.1.but PT.out.r hb9) (And.intro (G.out.2.1.but PT.out.r hb9) (And.intro (G.out.2.2.1.but PT.out.r hb9) (G.out.2.2.2.but PT.out.r hb9)))));replace PT:=zA (PT.out.ret hw9 hb9);clear hw9 hb9)|(refine pat_load_w (wanted_on rfl rfl rfl rfl) rfl rfl gp rfl _ _ PT.out.p ?_)|(refine pat_load_w (wanted_on rfl rfl rfl rfl) rfl rfl gq rfl _ _ PT.out.r ?_)|(go_at_call 68;(with_reducible refine (KS.out q u m0 m1 m2 m3 _ PT.out.b G.out.1.row G.out.2.1.row G.out.2.2.1.row G.out.2.2.2.row).mono ?_);rintro e w10 ⟨rfl,hb10⟩;replace PT:=zA (PT.out.below hb10);clear hb10))
        go_ret
        exact ⟨by rw [← HBK.out];rfl,PT.out.b⟩
noncomputable def exergueref10_Right.f (l0_0:PRow)(l0_1:PRow)(l0_2:PRow)(l0_3:PRow)(a0_4:Bool)(a0_5:Int)(a0_6:Int)(a0_7:Int)(a0_8:Int)(a0_9:Int)(a0_10:Int)(a0_11:Int)(a0_12:Int)(a0_13:Int)(a0_14:Bool)(a0_15:Int)(a0_16:Int):Option Bool:=if l0_0.length≤300∧l0_1.length≤300∧l0_2.length≤300∧l0_3.length≤300 then some (rightB ⟨a0_4,a0_5,a0_6,a0_7,a0_8,a0_9,a0_10,a0_11,a0_12,a0_13,a0_14,a0_15,a0_16⟩ l0_0 l0_1 l0_2 l0_3) else none
theorem exergueref10_Right.calls (A0_0:Option Addr)(c0_0:Nat)(l0_0:List S114)(A0_1:Option Addr)(c0_1:Nat)(l0_1:List S114)(A0_2:Option Addr)(c0_2:Nat)(l0_2:List S114)(A0_3:Option Addr)(c0_3:Nat)(l0_3:List S114)(a0_4:Bool)(a0_5:Int)(a0_6:Int)(a0_7:Int)(a0_8:Int)(a0_9:Int)(a0_10:Int)(a0_11:Int)(a0_12:Int)(a0_13:Int)(a0_14:Bool)(a0_15:Int)(a0_16:Int)(r:Bool)(w:World)(hr0_0:Kd.C k114 w A0_0 l0_0.length l0_0)(hc0_0:l0_0.length≤c0_0)(hr0_1:Kd.C k114 w A0_1 l0_1.length l0_1)(hc0_1:l0_1.length≤c0_1)(hr0_2:Kd.C k114 w A0_2 l0_2.length l0_2)(hc0_2:l0_2.length≤c0_2)(hr0_3:Kd.C k114 w A0_3 l0_3.length l0_3)(hc0_3:l0_3.length≤c0_3)(h:exergueref10_Right.f l0_0 l0_1 l0_2 l0_3 a0_4 a0_5 a0_6 a0_7 a0_8 a0_9 a0_10 a0_11 a0_12 a0_13 a0_14 a0_15 a0_16=some r) :
    Calls Tryz.prog 37 #[.agg #[.slice A0_0 l0_0.length c0_0,.slice A0_1 l0_1.length c0_1,.slice A0_2 l0_2.length c0_2,.slice A0_3 l0_3.length c0_3,.bool a0_4,.int .i64 a0_5,.int .i64 a0_6,.int .i64 a0_7,.int .i64 a0_8,.int .i64 a0_9,.int .i64 a0_10,.int .i64 a0_11,.int .i64 a0_12,.int .i64 a0_13,.bool a0_14,.int .i32 a0_15,.int .i64 a0_16]] w fun e w'=>e = .returned (.bool r)∧Below w.heap.size w w':=by
 unfold exergueref10_Right.f at h
 split at h
 ·rename_i hc
  obtain rfl:=zE h
  exact right_c ⟨a0_4,a0_5,a0_6,a0_7,a0_8,a0_9,a0_10,a0_11,a0_12,a0_13,a0_14,a0_15,a0_16⟩ ⟨⟨A0_0,_,c0_0⟩,⟨A0_1,_,c0_1⟩,⟨A0_2,_,c0_2⟩,⟨A0_3,_,c0_3⟩⟩ l0_0 l0_1 l0_2 l0_3 w ⟨rfl,hc0_0,hr0_0⟩ ⟨rfl,hc0_1,hr0_1⟩ ⟨rfl,hc0_2,hr0_2⟩ ⟨rfl,hc0_3,hr0_3⟩ hc.1 hc.2.1 hc.2.2.1 hc.2.2.2
 cases h
end
end Go.Proofs.YtklebhlanidloaaGreatDoor.PZ
end
