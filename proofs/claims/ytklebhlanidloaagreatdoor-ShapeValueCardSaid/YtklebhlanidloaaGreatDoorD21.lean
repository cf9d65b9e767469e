/- Texts of this seat, joined. Conditions: none beyond each statement's own. -/
import Derived.Test.YtklebhlanidloaaGreatDoorD20
set_option linter.all false
section
set_option maxRecDepth 100000
namespace Go.Proofs.YtklebhlanidloaaGreatDoor.PZ
open Go.RowKit Go.Proofs.YtklebhlanidloaaGreatDoorW.PrintWords Go.Proofs.YtklebhlanidloaaGreatDoorW.PrintLast
section
section
variable {ops:Array Oper}{rest:List Oper}{o:Oper}{a:Act}{W:World}{Q:Exit→Act→World→Prop}
theorem pat_build {N:Tmp}(hg:o.guard=none)(hN:o.dst=some N)(ho:o.op = .build 26 #[])(h:wpList Tryz.prog ops Q rest (a.put (some N) (PS.zero.val V4.nil)) W):wpList Tryz.prog ops Q (o :: rest) a W:=by
 refine Kd.event_run hg (v:=PS.zero.val V4.nil) (w1:=W) ?_ (by rw [hN];exact h)
 unfold execOp
 simp only [ho,List.map_toArray,List.map_nil]
 have e:∀ W:World,(Instr.build 26 #[]).run Tryz.prog W = .ok (PS.zero.val V4.nil) W:=fun W=>by kernel_rfl
 rw [Sem.run_bind,e]
 rfl
theorem pat_results5 {fn:Func}{p n m k j:Tmp}(h:fn.results = #[.cell p 26,.tmp n,.tmp m,.tmp k,.tmp j])(tmps:Array Value)(g:Nat)(hp:tmps.getD p undef = .pointer (some ⟨g,0,none⟩))(s:PS)(v:V4)(hg:PBox g s v W) :
    (results fn tmps).run Tryz.prog W = .ok (.tuple #[s.val v,tmps.getD n undef,tmps.getD m undef,tmps.getD k undef,tmps.getD j undef]) W:=by
 obtain ⟨d,hu,hd⟩:=pat_row
 have hp':tmps[p]?.getD undef = .pointer (some ⟨g,0,none⟩):=by simpa using hp
 have hr:=run_loadVar_row W g 26 26 (s.cs v) (0,0) d hg hu (by cases d <;> simp_all) (by rw [pat_info];rfl)
 simp [results,h,hp',asAddr,hr,PS.val_eq]
end
structure Nw (w W:World)(gp gr gn:Nat)(q:PS)(v:V4):Prop where
  b:PBox gn q v W
  p:gp≠gn
  r:gr≠gn
  hn:w.heap.size≤gn
section
variable {w W W1:World}{gp gr gn g:Nat}{s s' r q q':PS}{v v' u:V4}
theorem PSt.put' (h:PSt w W gp gr s v r u)(h1:PBox gp s' v' W1)(hb:But gp W W1):PSt w W1 gp gr s' v' r u:=⟨h1,h.r.but hb h.ne.symm,h.ne,h.hp,h.hr,hb.below _ _ h.b h.hp⟩
theorem PSt.start' (hg:gr=w.heap.size)(hp:PBox gr r u W)(hb:Below w.heap.size w W)(hr:gp=W.heap.size)(h1:PBox gp s v W1)(hb1:Below W.heap.size W W1):PSt w W1 gp gr s v r u:=
  ⟨h1,hp.below hb1,by have:=hp.lt;omega,by have:=hb.size;omega,by omega,hb.trans (hb1.mono hb.size)⟩
theorem Nw.new (h:PSt w W gp gr s v r u)(hg:gn=W.heap.size)(h1:PBox gn q v' W1):Nw w W1 gp gr gn q v':=⟨h1,by have:=h.p.lt;omega,by have:=h.r.lt;omega,by have:=h.b.size;omega⟩
theorem Nw.below (h:Nw w W gp gr gn q v)(hb:Below W.heap.size W W1):Nw w W1 gp gr gn q v:=⟨h.b.below hb,h.p,h.r,h.hn⟩
theorem Nw.set (h:Nw w W gp gr gn q v)(h1:PBox gn q' v' W1):Nw w W1 gp gr gn q' v':=⟨h1,h.p,h.r,h.hn⟩
theorem Nw.butP (h:Nw w W gp gr gn q v)(hb:But gp W W1):Nw w W1 gp gr gn q v:=⟨h.b.but hb h.p.symm,h.p,h.r,h.hn⟩
theorem Nw.butR (h:Nw w W gp gr gn q v)(hb:But gr W W1):Nw w W1 gp gr gn q v:=⟨h.b.but hb h.r.symm,h.p,h.r,h.hn⟩
theorem row_but {α:Type}{d:Kd α}{e base:Nat}{ok:Nat→Prop}{x:Value}{xs:List α}(h:d.R e W base ok x xs)(hg:PBox g s v W)(ht:∀ q,q ∈ e :: d.E→q≠26)(hb:But g W W1):d.R e W1 base ok x xs:=
  Kd.R_mono (Kd.R_step (Kd.R_types h hg ht) (fun k hk _=>hb.keep k hk.2)) (fun _ hk=>hk.1)
end
def TokR (W:World)(x:SV)(l:List S114):Prop:=Kd.R k114 114 W 0 (fun _=>True) x.val l
section
variable {W W1:World}{x:SV}{l:List S114}{g:Nat}{s:PS}{v:V4}
theorem TokR.below (h:TokR W x l)(hb:Below W.heap.size W W1):TokR W1 x l:=Kd.R_below h hb
theorem TokR.but (h:TokR W x l)(hg:PBox g s v W)(hb:But g W W1):TokR W1 x l:=row_but h hg (by decide) hb
theorem TokR.nil (W:World):TokR W SV.nil []:=Kd.R_nil _ _ _ _ _
theorem TokR.reads (h:TokR W x l):x.n=l.length∧x.n≤x.c∧Kd.C k114 W x.a l.length l:=Kd.R_reads' h
end
theorem affix_c (A:Option Addr)(c:Nat)(l:List Int)(i:Int)(w:World)(hr:Kd.C (Kd.int .i32) w A l.length l)(hc:l.length≤c)(hl:l.length≤1000)(h0:0≤i) :
    Calls Tryz.prog 113 #[.slice A l.length c,.int .i64 i] w fun e w'=>∃ a n c',e = .returned (.tuple #[.slice a n c',.int .i64 (affixV l i).2.1,.bool (affixV l i).2.2])∧TokR w' ⟨a,n,c'⟩ (affixV l i).1∧Below w.heap.size w w':=by
 obtain ⟨k,hk⟩:=(affix_ev l i (by omega) h0).1.rounds
 generalize affixV l i=y at hk ⊢
 obtain ⟨t,j,b⟩:=y
 refine (exergueref10_affix.calls k A c l i t j b w hr hc hk).mono ?_
 rintro e w' ⟨v,rfl,hR,hB⟩
 obtain ⟨a,c',rfl⟩:=Kd.R_slice hR
 exact ⟨a,_,c',rfl,Kd.R_lower hR (Nat.zero_le _),hB⟩
noncomputable def firstO (l:List Int):Option (PS×List S114×List S114×Int×Int×Int):=
  match padO PS.zero l 0 1 with
  | none=>none
  | some (p,i)=>if (affixV l i).2.2=false then none else match padO p l (affixV l i).2.1 2 with
    | none=>none
    | some (q,f)=>match numberO q l f with
      | none=>none
      | some (r,tt)=>match padO r l tt 3 with
        | none=>none
        | some (s,k)=>if (affixV l k).2.2=false then none else match padO s l (affixV l k).2.1 4 with
          | none=>none
          | some (x,n)=>some (x,(affixV l i).1,(affixV l k).1,f,tt,n)
def FirstP (w:World)(o:Option (PS×List S114×List S114×Int×Int×Int))(e:Ending)(w':World):Prop:=(match o with
  | some (x,pre,suf,f,tt,n)=>∃ v0 v1,e = .returned (.tuple #[x.val ⟨v0,v1,SV.nil,SV.nil⟩,.int .i64 f,.int .i64 tt,.int .i64 n,.bool true])∧TokR w' v0 pre∧TokR w' v1 suf
  | none=>∃ q v f tt n,e = .returned (.tuple #[PS.val q v,.int .i64 f,.int .i64 tt,.int .i64 n,.bool false]))∧Below w.heap.size w w'
theorem FirstP.none {w w':World}{q:PS}{v:V4}{f tt n:Int}(h:Below w.heap.size w w'):FirstP w none (.returned (.tuple #[PS.val q v,.int .i64 f,.int .i64 tt,.int .i64 n,.bool false])) w':=⟨⟨q,v,f,tt,n,rfl⟩,h⟩
set_option maxHeartbeats 4000000 in
set_option maxRecDepth 100000 in
theorem first_c (A:Option Addr)(c:Nat)(l:List Int)(w:World)(hr:Kd.C (Kd.int .i32) w A l.length l)(hc:l.length≤c)(hl:l.length≤1000) :
    Calls Tryz.prog 87 #[.slice A l.length c] w (FirstP w (firstO l)):=by
 have KP:=zA (fun (s:PS) (v:V4) (i wh:Int) (h0:0≤i) (h1:i≤200000) W (hb:Below w.heap.size w W)=>pad_c s v A c l i wh W (Kd.C_below hr hb) hc h0 h1 (by omega))
 have KF:=zA (fun (i:Int) (h0:0≤i) W (hb:Below w.heap.size w W)=>affix_c A c l i W (Kd.C_below hr hb) hc hl h0)
 have KN:=zA (fun (s:PS) (v:V4) (i:Int) (h0:0≤i) (h1:i≤l.length+2) (h2:0≤s.hash∧s.hash≤1000) (h3:0≤s.minInt∧s.minInt≤1000) W (hb:Below w.heap.size w W)=>number_c s v A c l i W (Kd.C_below hr hb) hc h0 h1 hl h2 h3)
 obtain ⟨X,hX⟩:∃ X,firstO l=X:=⟨_,rfl⟩
 rw [hX]
 unfold firstO at hX
 clear hr
 have K1:=zA (fun W hb=>KP.out PS.zero V4.nil 0 1 (by omega) (by omega) W hb)
 generalize h1:padO PS.zero l 0 1=o1 at hX K1
 rcases o1 with _|⟨p,i⟩
 rotate_left
 obtain ⟨z1,z2,hi⟩:=padO_in h1
 have hi0:0≤i:=by omega
 have hi1:i≤l.length+2:=by omega
 dsimp only at hX
 clear h1 hi
 have K2:=zA (fun W hb=>KF.out i hi0 W hb)
 obtain ⟨_,hj0,hj1,_⟩:=affix_ev l i (by omega) hi0
 generalize ha:affixV l i=y1 at hX K2 hj0 hj1
 obtain ⟨pre,j,b1⟩:=y1
 dsimp only at hX hj0 hj1 K2
 have hjb:j≤l.length+2:=by omega
 clear ha hj1
 rcases b1 with _|_
 rotate_left
 simp only [Bool.true_eq_false,if_false] at hX
 have K3:=zA (fun a n c' W hb=>KP.out p ⟨⟨a,n,c'⟩,SV.nil,SV.nil,SV.nil⟩ j 2 hj0 (by omega) W hb)
 generalize h2:padO p l j 2=o2 at hX K3
 rcases o2 with _|⟨q,f⟩
 rotate_left
 obtain ⟨z3,z4,hf⟩:=padO_in h2
 have hf0:0≤f:=by omega
 have hf1:f≤l.length+2:=by omega
 dsimp only at hX
 clear h2 hf
 have q1:q.hash=0:=by rw [z3,z1];rfl
 have q2:q.minInt=0:=by rw [z4,z2];rfl
 have K4:=zA (fun a n c' W hb=>KN.out q ⟨⟨a,n,c'⟩,SV.nil,SV.nil,SV.nil⟩ f hf0 hf1 (by omega) (by omega) W hb)
 generalize h3:numberO q l f=o3 at hX K4
 rcases o3 with _|⟨r,tt⟩
 rotate_left
 obtain ⟨ht0,ht1⟩:=numberO_in h3 hf0 q1 q2
 dsimp only at hX
 clear h3 z1 z2 z3 z4 q1 q2
 have K5:=zA (fun a n c' W hb=>KP.out r ⟨⟨a,n,c'⟩,SV.nil,SV.nil,SV.nil⟩ tt 3 (by omega) (by omega) W hb)
 generalize h4:padO r l tt 3=o4 at hX K5
 rcases o4 with _|⟨s,k⟩
 rotate_left
 obtain ⟨_,_,hk⟩:=padO_in h4
 have hk0:0≤k:=by omega
 have hk1:k≤l.length+2:=by omega
 dsimp only at hX
 clear h4 hk
 have K6:=zA (fun W hb=>KF.out k hk0 W hb)
 obtain ⟨_,hm0,hm1,_⟩:=affix_ev l k (by omega) hk0
 generalize ha:affixV l k=y2 at hX K6 hm0 hm1
 obtain ⟨suf,m,b2⟩:=y2
 dsimp only at hX hm0 hm1 K6
 have hmb:m≤l.length+2:=by omega
 clear ha hm1
 rcases b2 with _|_
 rotate_left
 simp only [Bool.true_eq_false,if_false] at hX
 have K7:=zA (fun a n c' a' n' c'' W hb=>KP.out s ⟨⟨a,n,c'⟩,⟨a',n',c''⟩,SV.nil,SV.nil⟩ m 4 hm0 (by omega) W hb)
 generalize h5:padO s l m 4=o5 at hX K7
 rcases o5 with _|⟨x,n⟩
 all_goals
  subst hX
  try clear h1
  try clear h2
  try clear h3 z1 z2 z3 z4 q1 q2
  try clear h4
  try clear h5
  go_enter Tryz.func87,Tryz.ntmps87
  go_wp2_with (first|((with_reducible refine gate_dst (N:=2) rfl ?_);refine pat_alloc rfl rfl rfl ?_;intro gr w1 hgr hbr hb1;have S0:=zA (And.intro hgr (And.intro hbr hb1));clear hgr hbr hb1)|(refine pat_build rfl rfl rfl ?_)|(go_at_call 112;(with_reducible refine (K1.out _ S0.out.2.2).mono ?_);rintro e w11 ⟨hq11,hb11⟩;(first|obtain rfl:=hq11|obtain ⟨q11,j11,rfl⟩:=hq11);replace S0:=zA (And.intro S0.out.1 (And.intro (S0.out.2.1.below hb11) (S0.out.2.2.trans (hb11.mono S0.out.2.2.size))));clear hb11)|(go_at_call 113;(with_reducible refine (K2.out _ ST.out.b).mono ?_);rintro e w12 ⟨a0,n0,d0,rfl,ht12,hb12⟩;replace ST:=zA (ST.out.below hb12);(try replace NS:=zA (NS.out.below hb12));(try replace H0:=zA (H0.out.below hb12));(try replace H1:=zA (H1.out.below hb12));have H0:=zA ht12;clear hb12 ht12)|(go_at_call 112;(with_reducible refine (K3.out a0 n0 d0 _ ST.out.b).mono ?_);rintro e w13 ⟨hq13,hb13⟩;(first|obtain rfl:=hq13|obtain ⟨q13,j13,rfl⟩:=hq13);replace ST:=zA (ST.out.below hb13);(try replace NS:=zA (NS.out.below hb13));(try replace H0:=zA (H0.out.below hb13));(try replace H1:=zA (H1.out.below hb13));clear hb13)|(go_at_call 114;(with_reducible refine (K4.out a0 n0 d0 _ ST.out.b).mono ?_);rintro e w14 ⟨hq14,hb14⟩;(first|obtain rfl:=hq14|obtain ⟨q14,j14,rfl⟩:=hq14);replace ST:=zA (ST.out.below hb14);(try replace NS:=zA (NS.out.below hb14));(try replace H0:=zA (H0.out.below hb14));(try replace H1:=zA (H1.out.below hb14));clear hb14)|(go_at_call 112;(with_reducible refine (K5.out a0 n0 d0 _ ST.out.b).mono ?_);rintro e w15 ⟨hq15,hb15⟩;(first|obtain rfl:=hq15|obtain ⟨q15,j15,rfl⟩:=hq15);replace ST:=zA (ST.out.below hb15);(try replace NS:=zA (NS.out.below hb15));(try replace H0:=zA (H0.out.below hb15));(try replace H1:=zA (H1.out.below hb15));clear hb15)|(go_at_call 113;(with_reducible refine (K6.out _ ST.out.b).mono ?_);rintro e w16 ⟨a1,n1,d1,rfl,ht16,hb16⟩;replace ST:=zA (ST.out.below hb16);(try replace NS:=zA (NS.out.below hb16));(try replace H0:=zA (H0.out.below hb16));(try replace H1:=zA (H1.out.below hb16));have H1:=zA ht16;clear hb16 ht16)|(go_at_call 112;(with_reducible refine (K7.out a0 n0 d0 a1 n1 d1 _ ST.out.b).mono ?_);rintro e w17 ⟨hq17,hb17⟩;(first|obtain rfl:=hq17|obtain ⟨q17,j17,rfl⟩:=hq17);replace ST:=zA (ST.out.below hb17);(try replace NS:=zA (NS.out.below hb17));(try replace H0:=zA (H0.out.below hb17));(try replace H1:=zA (H1.out.below hb17));clear hb17)|((with_reducible refine gate_dst (N:=7) rfl ?_);refine pat_alloc rfl rfl rfl ?_;intro gp w2 hgp hbp hb2;have ST:=zA (PSt.start' S0.out.1 S0.out.2.1 S0.out.2.2 hgp hbp hb2);clear S0 hgp hbp hb2)|(refine pat_store rfl rfl rfl gp rfl _ _ rfl _ _ ST.out.p ?_;intro w9 hw9 hb9;(try replace NS:=zA (NS.out.butP hb9));(try replace H0:=zA (H0.out.but ST.out.p hb9));(try replace H1:=zA (H1.out.but ST.out.p hb9));replace ST:=zA (ST.out.put' hw9 hb9);clear hw9 hb9)|(refine pat_load rfl rfl rfl gp rfl _ _ ST.out.p ?_)|(refine pat_store rfl rfl rfl gr rfl _ _ rfl _ _ ST.out.r ?_;intro w9 hw9 hb9;(try replace NS:=zA (NS.out.butR hb9));(try replace H0:=zA (H0.out.but ST.out.r hb9));(try replace H1:=zA (H1.out.but ST.out.r hb9));replace ST:=zA (ST.out.ret hw9 hb9);clear hw9 hb9)|((with_reducible refine gate_store (t:=24) (p:=51) rfl ?_);refine pat_field rfl rfl rfl gp 0 (.slice a0 n0 d0) _ _ _ ⟨⟨a0,n0,d0⟩,SV.nil,SV.nil,SV.nil⟩ ST.out.p rfl (by have c0:World.cell? _ ⟨gp,0,none⟩=some (.slice none 0 0):=ST.out.p.cell 0;have f0:=ST.out.p.free 0;first|(go_simp;done)|(go_simp;rfl)) ?_;intro w9 hw9 hb9;(try replace NS:=zA (NS.out.butP hb9));(try replace H0:=zA (H0.out.but ST.out.p hb9));(try replace H1:=zA (H1.out.but ST.out.p hb9));replace ST:=zA (ST.out.put' hw9 hb9);clear hw9 hb9)|((with_reducible refine gate_dst (N:=13) rfl ?_);refine pat_alloc rfl rfl rfl ?_;intro gn wn hgn hbn hb8;(try clear NS);have NS:=zA (Nw.new ST.out hgn hbn);replace ST:=zA (ST.out.below hb8);(try replace H0:=zA (H0.out.below hb8));(try replace H1:=zA (H1.out.below hb8));clear hgn hbn hb8)|(refine pat_store rfl rfl rfl gn rfl _ _ rfl _ _ NS.out.b ?_;intro w9 hw9 hb9;replace ST:=zA (ST.out.other hb9 NS.out.hn NS.out.p NS.out.r);(try replace H0:=zA (H0.out.but NS.out.b hb9));(try replace H1:=zA (H1.out.but NS.out.b hb9));replace NS:=zA (NS.out.set hw9);clear hw9 hb9)|(refine pat_load rfl rfl rfl gn rfl _ _ NS.out.b ?_)|((with_reducible refine gate_dst (N:=16) rfl ?_);refine pat_alloc rfl rfl rfl ?_;intro gn wn hgn hbn hb8;(try clear NS);have NS:=zA (Nw.new ST.out hgn hbn);replace ST:=zA (ST.out.below hb8);(try replace H0:=zA (H0.out.below hb8));(try replace H1:=zA (H1.out.below hb8));clear hgn hbn hb8)|((with_reducible refine gate_dst (N:=19) rfl ?_);refine pat_alloc rfl rfl rfl ?_;intro gn wn hgn hbn hb8;(try clear NS);have NS:=zA (Nw.new ST.out hgn hbn);replace ST:=zA (ST.out.below hb8);(try replace H0:=zA (H0.out.below hb8));(try replace H1:=zA (H1.out.below hb8));clear hgn hbn hb8)|((with_reducible refine gate_store (t:=24) (p:=100) rfl ?_);refine pat_field rfl rfl rfl gn 1 (.slice a1 n1 d1) _ _ _ ⟨⟨a0,n0,d0⟩,⟨a1,n1,d1⟩,SV.nil,SV.nil⟩ NS.out.b rfl (by have c0:World.cell? _ ⟨gn,1,none⟩=some (.slice none 0 0):=NS.out.b.cell 1;have f0:=NS.out.b.free 1;first|(go_simp;done)|(go_simp;rfl)) ?_;intro w9 hw9 hb9;replace ST:=zA (ST.out.other hb9 NS.out.hn NS.out.p NS.out.r);(try replace H0:=zA (H0.out.but NS.out.b hb9));(try replace H1:=zA (H1.out.but NS.out.b hb9));replace NS:=zA (NS.out.set hw9);clear hw9 hb9)|((with_reducible refine gate_dst (N:=25) rfl ?_);refine pat_alloc rfl rfl rfl ?_;intro gn wn hgn hbn hb8;(try clear NS);have NS:=zA (Nw.new ST.out hgn hbn);replace ST:=zA (ST.out.below hb8);(try replace H0:=zA (H0.out.below hb8));(try replace H1:=zA (H1.out.below hb8));clear hgn hbn hb8))
  first
    | exact bodyPost_ret (pat_results5 rfl _ gr rfl _ _ ST.out.r) rfl (FirstP.none ST.out.b)
    | exact bodyPost_ret (pat_results5 rfl _ gr rfl _ _ ST.out.r) rfl ⟨⟨_,_,rfl,H0.out,H1.out⟩,ST.out.b⟩
end
structure NearD (l:List Int)(e:Int):Prop where
  r:RDec l e
  len:l.length≤40
  exp : -60≤e∧e≤60
theorem nearD_ev (g:Bool){l:List Int}{e:Int}(hz:l.length * 1≤140737488351232)(hw:∀ b_ ∈ l,(Lit.int .u8 b_).wf=true) :
    (Ev (fun n=>exergueref06_Near.f n g l e) true∧NearD l e)∨Ev (fun n=>exergueref06_Near.f n g l e) false:=by
 unfold exergueref06_Near.f
 rcases right_cases g (l:=l) (e:=e) (by unfold maxLen;omega) hw with ⟨h,hr⟩|h
 ·by_cases h1:(l.length:Int)≤40
  ·by_cases h2:e ≥ -60
   ·by_cases h3:e≤60
    ·refine .inl ⟨Ev.bind h ?_,hr,by omega,by omega⟩
     simp only [if_true,if_pos h1,if_pos h2,zC h3]
     exact Ev.now _
    refine .inr (Ev.bind h ?_)
    simp only [if_true,if_pos h1,if_pos h2,zD h3]
    exact Ev.now _
   refine .inr (Ev.bind h ?_)
   simp only [if_true,if_pos h1,if_neg h2]
   exact Ev.now _
  refine .inr (Ev.bind h ?_)
  simp only [if_true,if_neg h1]
  exact Ev.now _
 refine .inr (Ev.bind h ?_)
 simp only [Bool.false_eq_true,if_false]
 exact Ev.now _
def normR (g:Bool)(c:List Int)(e:Int):Bool×List Int×Int×Int:=if c.length≤1000 ∧ -1000≤e∧e≤1000 then (g,c,e,0) else (false,[],0,11)
def sameB (l:List Int):Nat→Int→Int→Bool
  | 0,_,_=>true
  | m+1,j,k=>if atN l j=rd l k then sameB l m (j+1) (k+1) else false
noncomputable def secondO (l:List Int)(i f tt:Int):Option (List S114×List S114×Int):=
  if (affixV l i).2.2=false then none
  else if sameB l (tt - f).toNat (affixV l i).2.1 f=false then none
  else if (affixV l ((affixV l i).2.1+(tt - f))).2.2=false then none
  else some ((affixV l i).1,(affixV l ((affixV l i).2.1+(tt - f))).1,(affixV l ((affixV l i).2.1+(tt - f))).2.1)
def SecondP (w:World)(s:PS)(v:V4)(o:Option (List S114×List S114×Int))(e:Ending)(w':World):Prop:=(match o with
  | some (pre,suf,m)=>∃ v2 v3,e = .returned (.tuple #[({ s with neg:=true }:PS).val ⟨v.v0,v.v1,v2,v3⟩,.int .i64 m,.bool true])∧TokR w' v2 pre∧TokR w' v3 suf
  | none=>∃ q v m,e = .returned (.tuple #[PS.val q v,.int .i64 m,.bool false]))∧Below w.heap.size w w'
theorem SecondP.none {w w':World}{s q:PS}{v v':V4}{m:Int}(h:Below w.heap.size w w'):SecondP w s v none (.returned (.tuple #[PS.val q v',.int .i64 m,.bool false])) w':=⟨⟨q,v',m,rfl⟩,h⟩
theorem at_q (A:Option Addr)(c:Nat)(l:List Int)(i:Int)(w:World)(hr:Kd.C (Kd.int .i32) w A l.length l)(hc:l.length≤c)(h0:0≤i) :
    Calls Tryz.prog 88 #[.slice A l.length c,.int .i64 i] w fun e w'=>e = .returned (.int .i32 (atN l i))∧∃ n,w'=w.drewN n:=
  (exergueref10_at.calls A c l i (atN l i) w hr hc (pat_f l i h0)).mono fun _ _ h=>⟨h.1,h.2.out⟩
theorem quiet_addP {P:Program}{f:FuncId}{args:Array Value}{w:World}{n:Nat}{v:Value}
    (h:Calls P f args (w.drewN n) fun e w'=>e = .returned v∧∃ m,w'=(w.drewN n).drewN m) :
    Calls P f args (w.drewN n) fun e w''=>e = .returned v∧∃ m,w''=w.drewN m:=
  h.mono fun _ _ ⟨he,m,hm⟩=>⟨he,n+m,by rw [hm,World.drewN_drewN]⟩
set_option maxHeartbeats 4000000 in
set_option maxRecDepth 100000 in
theorem second_c (s:PS)(v:V4)(A:Option Addr)(c:Nat)(l:List Int)(i f tt:Int)(w:World)(hr:Kd.C (Kd.int .i32) w A l.length l)(hc:l.length≤c)(hl:l.length≤1000)
    (h0:0≤i) (hi:i≤100000) (hf0:0≤f) (hft:f≤tt) (htl:tt≤l.length) :
    Calls Tryz.prog 89 #[s.val v,.slice A l.length c,.int .i64 i,.int .i64 f,.int .i64 tt] w (SecondP w s v (secondO l i f tt)):=by
 have KF:=zA (fun (i:Int) (h0:0≤i) W (hb:Below w.heap.size w W)=>affix_c A c l i W (Kd.C_below hr hb) hc hl h0)
 have KQ:=zA (fun (i:Int) (h0:0≤i) W (hb:Below w.heap.size w W)=>at_q A c l i W (Kd.C_below hr hb) hc h0)
 have HR:=zA hr
 obtain ⟨X,hX⟩:∃ X,secondO l i f tt=X:=⟨_,rfl⟩
 rw [hX]
 unfold secondO at hX
 clear hr
 have K2:=zA (fun W hb=>KF.out i h0 W hb)
 obtain ⟨_,hj0,hj1,_⟩:=affix_ev l i (by omega) h0
 cases ha:affixV l i with|mk pre t2=>
 obtain ⟨j0,b1⟩:=t2
 rw [ha] at hX K2 hj0 hj1
 dsimp only at hX hj0 hj1 K2
 have hjb:j0≤100010:=by omega
 clear ha hj1
 cases b1 with
 | false=>
  subst hX
  go_enter Tryz.func89,Tryz.ntmps89
  go_wp2_with (first|((with_reducible refine gate_dst (N:=5) rfl ?_);refine pat_box rfl rfl rfl s v rfl ?_;intro gp w1 hgp hbp hb1;have BX:=zA (And.intro hgp (And.intro hbp hb1));clear hgp hbp hb1)|((with_reducible refine gate_dst (N:=10) rfl ?_);refine pat_alloc rfl rfl rfl ?_;intro gr w2 hgr hbr hb2;have ST:=zA (PSt.start BX.out.1 BX.out.2.1 BX.out.2.2 hgr hbr hb2);clear BX hgr hbr hb2)|((with_reducible refine gate_store (t:=4) (p:=20) rfl ?_);refine pat_field rfl rfl rfl gp 4 (.bool true) _ ({ s with neg:=true }) _ _ ST.out.p rfl (by have c0:World.cell? _ ⟨gp,4,none⟩=some (.bool s.neg):=ST.out.p.cell 4;have f0:=ST.out.p.free 4;first|(go_simp;done)|(go_simp;rfl)) ?_;intro w9 hw9 hb9;replace ST:=zA (ST.out.put hw9 hb9);clear hw9 hb9)|(go_at_call 113;(with_reducible refine (K2.out _ ST.out.b).mono ?_);rintro e w12 ⟨a0,n0,d0,rfl,ht12,hb12⟩;replace ST:=zA (ST.out.below hb12);(try replace NS:=zA (NS.out.below hb12));(try replace H0:=zA (H0.out.below hb12));(try replace H1:=zA (H1.out.below hb12));have H0:=zA ht12;clear hb12 ht12)|(refine pat_load rfl rfl rfl gp rfl _ _ ST.out.p ?_)|(refine pat_store rfl rfl rfl gr rfl _ _ rfl _ _ ST.out.r ?_;intro w9 hw9 hb9;(try replace NS:=zA (NS.out.butR hb9));(try replace H0:=zA (H0.out.but ST.out.r hb9));(try replace H1:=zA (H1.out.but ST.out.r hb9));replace ST:=zA (ST.out.ret hw9 hb9);clear hw9 hb9))
  exact bodyPost_ret (pat_results rfl _ gr rfl _ _ ST.out.r) rfl (SecondP.none ST.out.b)
 | true=>
  simp only [Bool.true_eq_false,if_false] at hX
  have HX:=zA hX
  clear hX
  obtain ⟨f,rfl⟩:=Int.eq_ofNat_of_zero_le hf0
  obtain ⟨j,rfl⟩:=Int.eq_ofNat_of_zero_le hj0
  go_enter Tryz.func89,Tryz.ntmps89
  go_wp2_with (first|((with_reducible refine gate_dst (N:=5) rfl ?_);refine pat_box rfl rfl rfl s v rfl ?_;intro gp w1 hgp hbp hb1;have BX:=zA (And.intro hgp (And.intro hbp hb1));clear hgp hbp hb1)|((with_reducible refine gate_dst (N:=10) rfl ?_);refine pat_alloc rfl rfl rfl ?_;intro gr w2 hgr hbr hb2;have ST:=zA (PSt.start BX.out.1 BX.out.2.1 BX.out.2.2 hgr hbr hb2);clear BX hgr hbr hb2)|((with_reducible refine gate_store (t:=4) (p:=20) rfl ?_);refine pat_field rfl rfl rfl gp 4 (.bool true) _ ({ s with neg:=true }) _ _ ST.out.p rfl (by have c0:World.cell? _ ⟨gp,4,none⟩=some (.bool s.neg):=ST.out.p.cell 4;have f0:=ST.out.p.free 4;first|(go_simp;done)|(go_simp;rfl)) ?_;intro w9 hw9 hb9;replace ST:=zA (ST.out.put hw9 hb9);clear hw9 hb9)|(go_at_call 113;(with_reducible refine (K2.out _ ST.out.b).mono ?_);rintro e w12 ⟨a0,n0,d0,rfl,ht12,hb12⟩;replace ST:=zA (ST.out.below hb12);(try replace NS:=zA (NS.out.below hb12));(try replace H0:=zA (H0.out.below hb12));(try replace H1:=zA (H1.out.below hb12));have H0:=zA ht12;clear hb12 ht12)|((with_reducible refine gate_store (t:=24) (p:=33) rfl ?_);refine pat_field rfl rfl rfl gp 2 (.slice a0 n0 d0) _ _ _ ⟨v.v0,v.v1,⟨a0,n0,d0⟩,v.v3⟩ ST.out.p rfl (by have c0:World.cell? _ ⟨gp,2,none⟩=some (.slice v.v2.a v.v2.n v.v2.c):=ST.out.p.cell 2;have f0:=ST.out.p.free 2;first|(go_simp;done)|(go_simp;rfl)) ?_;intro w9 hw9 hb9;(try replace NS:=zA (NS.out.butP hb9));(try replace H0:=zA (H0.out.but ST.out.p hb9));(try replace H1:=zA (H1.out.but ST.out.p hb9));replace ST:=zA (ST.out.put' hw9 hb9);clear hw9 hb9))
  go_loopg [14,16] (l.length+1) (fun gg s14 s16 wr=>∃ (m j' k:Nat),s14 = .int .i64 j'∧s16 = .int .i64 k∧(k:Int)+m=tt∧(j':Int)+m=(j:Int)+(tt - f)∧m+1≤gg∧j'≤200000 - m∧Aside0 (sameB l (tt - f).toNat (j:Int) (f:Int)=sameB l m j' k)∧Aside0 (PSt w wr gp gr { s with neg:=true } ⟨v.v0,v.v1,⟨a0,n0,d0⟩,v.v3⟩ PS.zero V4.nil)∧Aside0 (TokR wr ⟨a0,n0,d0⟩ pre))
  case atStart=>exact ⟨(tt - f).toNat,j,f,rfl,rfl,by omega,by omega,by omega,by omega,⟨rfl⟩,ST,H0⟩
  case round=>
   clear ST H0
   obtain ⟨m,j',k,rfl,rfl,hk,hj,hgg,hjm,HS,ST,H0⟩:=hrel
   have K3:=zA (fun W hb=>KQ.out (j':Int) (by omega) W hb)
   cases m with
   | zero=>
    have hlt:¬ (k:Int)<tt:=by omega
    have hx:=HX.out
    rw [HS.out] at hx
    simp only [sameB,Bool.true_eq_false,if_false] at hx
    have hjj:(j:Int)+(tt - f)=(j':Int):=by omega
    rw [hjj] at hx
    have K4:=zA (fun W hb=>KF.out (j':Int) (by omega) W hb)
    cases ha:affixV l (j':Int) with|mk suf t3=>
    obtain ⟨mm,b2⟩:=t3
    rw [ha] at hx K4
    dsimp only at hx K4
    clear ha HX hjj
    cases b2 with
    | false=>
     subst hx
     go_wp2_with (first|(go_at_call 113;(with_reducible refine (K4.out _ ST.out.b).mono ?_);rintro e w13 ⟨a1,n1,d1,rfl,ht13,hb13⟩;replace ST:=zA (ST.out.below hb13);(try replace NS:=zA (NS.out.below hb13));(try replace H0:=zA (H0.out.below hb13));(try replace H1:=zA (H1.out.below hb13));have H1:=zA ht13;clear hb13 ht13)|((with_reducible refine gate_store (t:=24) (p:=60) rfl ?_);refine pat_field rfl rfl rfl gp 3 (.slice a1 n1 d1) _ _ _ ⟨v.v0,v.v1,⟨a0,n0,d0⟩,⟨a1,n1,d1⟩⟩ ST.out.p rfl (by have c0:World.cell? _ ⟨gp,3,none⟩=some (.slice v.v3.a v.v3.n v.v3.c):=ST.out.p.cell 3;have f0:=ST.out.p.free 3;first|(go_simp;done)|(go_simp;rfl)) ?_;intro w9 hw9 hb9;(try replace NS:=zA (NS.out.butP hb9));(try replace H0:=zA (H0.out.but ST.out.p hb9));(try replace H1:=zA (H1.out.but ST.out.p hb9));replace ST:=zA (ST.out.put' hw9 hb9);clear hw9 hb9)|(refine pat_load rfl rfl rfl gp rfl _ _ ST.out.p ?_)|(refine pat_store rfl rfl rfl gr rfl _ _ rfl _ _ ST.out.r ?_;intro w9 hw9 hb9;(try replace NS:=zA (NS.out.butR hb9));(try replace H0:=zA (H0.out.but ST.out.r hb9));(try replace H1:=zA (H1.out.but ST.out.r hb9));replace ST:=zA (ST.out.ret hw9 hb9);clear hw9 hb9))
     exact bodyPost_ret (pat_results rfl _ gr rfl _ _ ST.out.r) rfl (SecondP.none ST.out.b)
    | true=>
     simp only [Bool.true_eq_false,if_false] at hx
     subst hx
     go_wp2_with (first|(go_at_call 113;(with_reducible refine (K4.out _ ST.out.b).mono ?_);rintro e w13 ⟨a1,n1,d1,rfl,ht13,hb13⟩;replace ST:=zA (ST.out.below hb13);(try replace NS:=zA (NS.out.below hb13));(try replace H0:=zA (H0.out.below hb13));(try replace H1:=zA (H1.out.below hb13));have H1:=zA ht13;clear hb13 ht13)|((with_reducible refine gate_store (t:=24) (p:=60) rfl ?_);refine pat_field rfl rfl rfl gp 3 (.slice a1 n1 d1) _ _ _ ⟨v.v0,v.v1,⟨a0,n0,d0⟩,⟨a1,n1,d1⟩⟩ ST.out.p rfl (by have c0:World.cell? _ ⟨gp,3,none⟩=some (.slice v.v3.a v.v3.n v.v3.c):=ST.out.p.cell 3;have f0:=ST.out.p.free 3;first|(go_simp;done)|(go_simp;rfl)) ?_;intro w9 hw9 hb9;(try replace NS:=zA (NS.out.butP hb9));(try replace H0:=zA (H0.out.but ST.out.p hb9));(try replace H1:=zA (H1.out.but ST.out.p hb9));replace ST:=zA (ST.out.put' hw9 hb9);clear hw9 hb9)|(refine pat_load rfl rfl rfl gp rfl _ _ ST.out.p ?_)|(refine pat_store rfl rfl rfl gr rfl _ _ rfl _ _ ST.out.r ?_;intro w9 hw9 hb9;(try replace NS:=zA (NS.out.butR hb9));(try replace H0:=zA (H0.out.but ST.out.r hb9));(try replace H1:=zA (H1.out.but ST.out.r hb9));replace ST:=zA (ST.out.ret hw9 hb9);clear hw9 hb9))
     exact bodyPost_ret (pat_results rfl _ gr rfl _ _ ST.out.r) rfl ⟨⟨_,_,rfl,H0.out,H1.out⟩,ST.out.b⟩
   | succ m=>
    have hlt:(k:Int)<tt:=by omega
    have hkl:k<l.length:=by omega
    obtain ⟨ad,hA,hcell⟩:=Kd.at_int HR.out (k:Int) (by omega) (by omega)
    rw [Int.toNat_natCast] at hcell
    have hcell2:=(ST.out.b.cell (World.block_lt_of_cell? w _ hcell)).trans hcell
    subst hA
    have hp0:(0:Int)≤(k:Int):=by omega
    have hp1:(k:Int)<(l.length:Int):=by omega
    have hs:=HS.out
    simp only [sameB] at hs
    obtain ⟨x,hx⟩:∃ x,atN l (j':Int)=x:=⟨_,rfl⟩
    obtain ⟨y,hy⟩:∃ y,rd l (k:Int)=y:=⟨_,rfl⟩
    rw [hx] at K3 hs
    rw [hy] at hcell2 hs
    have HBW:=zA (fun n=>pw_below_drewN ST.out.b n)
    by_cases hxy:x=y
    ·rw [if_pos hxy] at hs
     have HS2:=zA hs
     have d1:(x == y)=true:=zH hxy
     clear hs hx hy hcell hxy HX
     go_wp2
     go_quiet ((go_at_call 88;exact quiet_addP (K3.out _ (HBW.out _))))
     go_wp2
     go_roundg (m+1)
     case measure=>omega
     case rel=>exact ⟨m,j'+1,k+1,by go_num,by go_num,by omega,by omega,by omega,by omega,⟨by rw [HS2.out];congr 1 <;> omega⟩,⟨ST.out.drewN _⟩,⟨Kd.R_drewN H0.out _⟩⟩
    rw [if_neg hxy] at hs
    have hxx:=HX.out
    rw [hs] at hxx
    simp only [if_true] at hxx
    subst hxx
    have d1:(x == y)=false:=zF hxy
    clear hs hx hy hcell hxy HX HS
    go_wp2
    go_quiet ((go_at_call 88;exact quiet_addP (K3.out _ (HBW.out _))))
    go_wp2_with (first|(refine pat_load rfl rfl rfl gp rfl _ _ (ST.out.drewN _).p ?_)|(refine pat_store rfl rfl rfl gr rfl _ _ rfl _ _ (ST.out.drewN _).r ?_;intro w9 hw9 hb9;replace ST:=zA ((ST.out.drewN _).ret hw9 hb9);clear hw9 hb9))
    exact bodyPost_ret (pat_results rfl _ gr rfl _ _ ST.out.r) rfl (SecondP.none ST.out.b)
section
section
variable (g:Bool){L:List Int}{e f la:Int}{r:Bool×List Int×Int×Int}
theorem rn_zero {i:Nat}(hl:L.length≤1000000)(hi:i<L.length)(h0:rd L i=0)(h:Ev (fun k=>exergueref05_Norm.l0 k g L e f la ((i+1:Nat):Int)) r):Ev (fun k=>exergueref05_Norm.l0 k g L e f la (i:Int)) r:=by
 refine Ev_shift ?_
 simp only [exergueref05_Norm.l0,if_pos (show ((i:Nat):Int)<(L.length:Int) by omega),if_pos (show (0:Int)≤(i:Int) by omega),h0,if_neg (show ¬ (0:Int)>9 by omega),if_neg (show ¬ (0:Int)>0 by omega),w64 ((i:Int)+1) (by omega) (by omega)]
 exact h
theorem rn_first {i:Nat}(hl:L.length≤1000000)(hi:i<L.length)(h0:0<rd L i)(h9:rd L i≤9)(h:Ev (fun k=>exergueref05_Norm.l0 k g L e i i ((i+1:Nat):Int)) r):Ev (fun k=>exergueref05_Norm.l0 k g L e (-1) la (i:Int)) r:=by
 refine Ev_shift ?_
 simp only [exergueref05_Norm.l0,if_pos (show ((i:Nat):Int)<(L.length:Int) by omega),if_pos (show (0:Int)≤(i:Int) by omega),if_neg (show ¬ rd L i>9 by omega),if_pos (show rd L i>0 by omega),if_pos (show (-1:Int)<0 by omega),w64 ((i:Int)+1) (by omega) (by omega)]
 exact h
theorem rn_pos {i:Nat}(hf:0≤f)(hl:L.length≤1000000)(hi:i<L.length)(h0:0<rd L i)(h9:rd L i≤9)(h:Ev (fun k=>exergueref05_Norm.l0 k g L e f i ((i+1:Nat):Int)) r):Ev (fun k=>exergueref05_Norm.l0 k g L e f la (i:Int)) r:=by
 refine Ev_shift ?_
 simp only [exergueref05_Norm.l0,if_pos (show ((i:Nat):Int)<(L.length:Int) by omega),if_pos (show (0:Int)≤(i:Int) by omega),if_neg (show ¬ rd L i>9 by omega),if_pos (show rd L i>0 by omega),if_neg (show ¬ f<0 by omega),w64 ((i:Int)+1) (by omega) (by omega)]
 exact h
theorem rn_zeros (hl:L.length≤1000000)(d:Nat):∀ i:Nat,i+d≤L.length→(∀ j,i≤j→j<i+d→rd L j=0)→Ev (fun k=>exergueref05_Norm.l0 k g L e f la ((i+d:Nat):Int)) r→Ev (fun k=>exergueref05_Norm.l0 k g L e f la (i:Int)) r:=by
 induction d with
 | zero=>intro i _ _ h;exact h
 | succ d ih=>
  intro i hi hz h
  refine rn_zero g hl (by omega) (hz i (Nat.le_refl _) (by omega)) (ih (i+1) (by omega) (fun j h1 h2=>hz j (by omega) (by omega)) ?_)
  rwa [show i+1+d=i+(d+1) by omega]
theorem rn_last (hf:0≤f)(hF:Figs L)(hl:L.length≤1000000)(d:Nat):∀ (i:Nat)(la:Int),i+d<L.length→0<rd L ((i+d:Nat):Int)→Ev (fun k=>exergueref05_Norm.l0 k g L e f ((i+d:Nat):Int) ((i+d+1:Nat):Int)) r→Ev (fun k=>exergueref05_Norm.l0 k g L e f la (i:Int)) r:=by
 induction d with
 | zero=>intro i la hi h0 h;exact rn_pos g hf hl (by omega) h0 (rd_figs hF i).2 h
 | succ d ih=>
  intro i la hi h0 h
  have hd:=rd_figs hF i
  have e1:i+1+d=i+(d+1):=by omega
  by_cases c:rd L i=0
  · exact rn_zero g hl (by omega) c (ih (i+1) la (by omega) (by rw [e1];exact h0) (by rw [e1];exact h))
  exact rn_pos g hf hl (by omega) (by omega) hd.2 (ih (i+1) i (by omega) (by rw [e1];exact h0) (by rw [e1];exact h))
theorem rn_end (h:Ev (fun k=>exergueref05_Norm.j1 k g L e f la (decide (e < -1099511627776∨e>1099511627776))) r):Ev (fun k=>exergueref05_Norm.l0 k g L e f la (L.length:Int)) r:=by
 refine Ev_shift ?_
 simp only [exergueref05_Norm.l0,if_neg (show ¬ (L.length:Int)<(L.length:Int) by omega)]
 by_cases c:e < -1099511627776
 ·simp only [if_pos c]
  rwa [zC (Or.inl c)] at h
 simp only [if_neg c]
 have:decide (e < -1099511627776∨e>1099511627776)=decide (e>1099511627776):=by rw [Bool.eq_iff_iff];simp;omega
 rwa [this] at h
end
theorem refnorm_zero (g:Bool)(n:Nat)(e:Int)(hn:n≤1000000)(he : -1099511627776≤e∧e≤1099511627776):Ev (fun k=>exergueref05_Norm.f k g (List.replicate n 0) e) (g,[],0,0):=by
 unfold exergueref05_Norm.f
 refine rn_zeros g (by simpa using hn) n 0 (by simp) (fun j _ _=>rd_zeros n j) ?_
 rw [show ((0+n:Nat):Int)=((List.replicate n (0:Int)).length:Int) by simp]
 refine rn_end g ?_
 rw [zD (by omega)]
 refine Ev_shift ?_
 simp only [exergueref05_Norm.j1,Bool.false_eq_true,if_false,if_pos (show (-1:Int)<0 by omega)]
 exact Ev.now _
theorem refnorm_core (g:Bool){c:List Int}(hc:Figs c)(hl:0<c.length)(h0:rd c 0≠0)(h1:rd c ((c.length:Int) - 1)≠0)(n m:Nat)(e:Int)(hn:n+c.length+m≤1000000)(he : -1099511627776≤e∧e≤1099511627776) :
    Ev (fun k=>exergueref05_Norm.f k g (List.replicate n 0 ++ (c ++ List.replicate m 0)) e) (normR g c (e+m)):=by
 obtain ⟨L,hL⟩:∃ L,List.replicate n (0:Int) ++ (c ++ List.replicate m 0)=L:=⟨_,rfl⟩
 have hlen:L.length=n+c.length+m:=by rw [← hL];simp;omega
 have hF:Figs L:=by rw [← hL];exact (Figs.zeros n).append (hc.append (Figs.zeros m))
 have r1:∀ j:Nat,j<n→rd L j=0:=fun j hj=>by rw [← hL,rd_append_left _ _ _ (by simpa using hj),rd_zeros]
 have r2:∀ j:Nat,j<c.length→rd L ((n+j:Nat):Int)=rd c j:=fun j hj=>by
  rw [← hL,rd_append_right _ _ _ (by simp),rd_append_left _ _ _ (by simp;omega)]
  simp
 have r3:∀ j:Nat,n+c.length≤j→rd L j=0:=fun j hj=>by
  rw [← hL,rd_append_right _ _ _ (by simp;omega),rd_append_right _ _ _ (by simp;omega),rd_zeros]
 have hcut:((L.take (n+c.length)).drop n)=c:=by
  rw [← hL,← List.append_assoc,List.take_left' (by simp),List.drop_left' (by simp)]
 rw [hL]
 clear hL
 unfold exergueref05_Norm.f
 have hll:L.length≤1000000:=by omega
 have hp0:0<rd c 0:=by have:=rd_figs hc 0;rw [show ((0:Nat):Int)=0 from rfl] at this;omega
 have hp1:0<rd c ((c.length - 1:Nat):Int):=by
  have:=rd_figs hc (c.length - 1)
  have e1:((c.length:Int) - 1)=((c.length - 1:Nat):Int):=by omega
  rw [e1] at h1
  omega
 refine rn_zeros g hll n 0 (by omega) (fun j _ hj=>r1 j (by omega)) ?_
 rw [Nat.zero_add]
 have q0:rd L (n:Int)=rd c 0:=by have:=r2 0 hl;simpa using this
 have q1:rd L ((n+(c.length - 1):Nat):Int)=rd c ((c.length - 1:Nat):Int):=r2 (c.length - 1) (by omega)
 have tail:Ev (fun k=>exergueref05_Norm.l0 k g L e n ((n+(c.length - 1):Nat):Int) ((n+(c.length - 1)+1:Nat):Int)) (normR g c (e+m)):=by
  refine rn_zeros g hll m (n+(c.length - 1)+1) (by omega) (fun j h1 h2=>r3 j (by omega)) ?_
  rw [show ((n+(c.length - 1)+1+m:Nat):Int)=(L.length:Int) by omega]
  refine rn_end g ?_
  rw [zD (by omega)]
  refine Ev_shift ?_
  have w1:wrap64 (((n+(c.length - 1):Nat):Int)+1)=((n+c.length:Nat):Int):=by rw [w64 _ (by omega) (by omega)];omega
  have w2:wrap64 (wrap64 (wrap64 (e+(L.length:Int)) - 1) - ((n+(c.length - 1):Nat):Int))=e+m:=by
   rw [w64 (e+(L.length:Int)) (by omega) (by omega),w64 (e+(L.length:Int) - 1) (by omega) (by omega),w64 _ (by omega) (by omega)]
   omega
  simp only [exergueref05_Norm.j1,Bool.false_eq_true,if_false,if_neg (show ¬ (n:Int)<0 by omega),if_pos (show (0:Int)≤(n:Int) by omega),w1,if_pos (show (n:Int)≤((n+c.length:Nat):Int) by omega),if_pos (show ((n+c.length:Nat):Int)≤(L.length:Int) by omega),Int.toNat_natCast,hcut,Option.bind_some,w2]
  obtain ⟨t,ht,hi⟩:=right_ev g c (e+m) (by omega)
  refine Ev.bind ht ?_
  unfold normR
  by_cases hk:c.length≤1000 ∧ -1000≤e+m∧e+m≤1000
  ·have hr:Right c (e+m):=⟨fun i _=>(rd_figs hc i).2,.inr ⟨hl,hk.1,hp0,by rw [show ((c.length:Int) - 1)=((c.length - 1:Nat):Int) by omega];exact hp1,hk.2.1,hk.2.2⟩⟩
   rw [if_pos hk]
   simp only [hi.2 hr,if_true]
   exact Ev.now _
  rw [if_neg hk]
  have:t=false:=by
   cases t with
   | false=>rfl
   | true=>
    have:=(hi.1 rfl).2
    rcases this with z|z <;> omega
  simp only [this,Bool.false_eq_true,if_false]
  exact Ev.now _
 by_cases hc1:c.length=1
 ·refine rn_first g hll (by omega) (by omega) (by rw [q0];have:=rd_figs hc 0;rw [show ((0:Nat):Int)=0 from rfl] at this;omega) ?_
  rw [show n+(c.length - 1)=n by omega] at tail
  exact tail
 refine rn_first g hll (by omega) (by omega) (by rw [q0];have:=rd_figs hc 0;rw [show ((0:Nat):Int)=0 from rfl] at this;omega) ?_
 refine rn_last g (by omega) hF hll (c.length - 2) (n+1) n (by omega) ?_ ?_
 · rw [show n+1+(c.length - 2)=n+(c.length - 1) by omega,q1];exact hp1
 rw [show n+1+(c.length - 2)=n+(c.length - 1) by omega];exact tail
end
end Go.Proofs.YtklebhlanidloaaGreatDoor.PZ
end
