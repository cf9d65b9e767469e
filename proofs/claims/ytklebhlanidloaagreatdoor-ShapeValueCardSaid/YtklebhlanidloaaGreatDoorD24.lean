/- Texts of this seat, joined. Conditions: none beyond each statement's own. -/
import Derived.Test.YtklebhlanidloaaGreatDoorD22
set_option linter.all false
section
set_option maxRecDepth 100000
namespace Go.Proofs.YtklebhlanidloaaGreatDoor.PZ
open Go.RowKit Go.Proofs.YtklebhlanidloaaGreatDoorW.PrintWords Go.Proofs.YtklebhlanidloaaGreatDoorW.PrintLast
section
def IntR (W:World)(x:SV)(l:List Int):Prop:=Kd.R (Kd.int .i32) 21 W 0 (fun _=>True) x.val l
section
variable {W W1:World}{x:SV}{l:List Int}{g:Nat}{s:PS}{v:V4}
theorem IntR.below (h:IntR W x l)(hb:Below W.heap.size W W1):IntR W1 x l:=Kd.R_below h hb
theorem IntR.but (h:IntR W x l)(hg:PBox g s v W)(hb:But g W W1):IntR W1 x l:=row_but h hg (by decide) hb
theorem IntR.reads (h:IntR W x l):x.n=l.length∧x.n≤x.c∧Kd.C (Kd.int .i32) W x.a l.length l:=Kd.R_reads' h
end
theorem decode_c (b:List Int)(hb:b.length≤100000)(A:Option Addr)(n c:Nat)(w:World)(h:n=b.length∧n≤c∧Kd.C (Kd.int .u8) w A b.length b) :
    Calls Tryz.prog 86 #[.slice A n c] w fun e w'=>∃ a n c',e = .returned (.tuple #[.slice a n c',.int .i64 (decodeV b).2.1,.int .i64 (decodeV b).2.2])∧IntR w' ⟨a,n,c'⟩ (decodeV b).1∧Below w.heap.size w w':=by
 obtain ⟨k,hk⟩:=(decode_ev b hb).rounds
 generalize decodeV b=y at hk ⊢
 obtain ⟨r1,r2,r3⟩:=y
 obtain ⟨rfl,hc,hr⟩:=h
 refine (exergueref01_Decode.calls k A c b r1 r2 r3 w hr hc hk).mono ?_
 rintro e w' ⟨v,rfl,hR,hB⟩
 obtain ⟨a,c',rfl⟩:=Kd.R_slice hR
 exact ⟨a,_,c',rfl,Kd.R_lower hR (Nat.zero_le _),hB⟩
theorem first_r (x:SV)(l:List Int)(hl:l.length≤120)(w:World)(h:IntR w x l):Calls Tryz.prog 87 #[.slice x.a x.n x.c] w (FirstP w (firstO l)):=by
 obtain ⟨h1,h2,h3⟩:=h.reads
 rw [h1] at h2 ⊢
 exact first_c x.a x.c l w h3 h2 (by omega)
theorem second_r (s:PS)(v:V4)(x:SV)(l:List Int)(hl:l.length≤120)(i f tt:Int)(h0:0≤i)(hi:i≤100000)(hf0:0≤f)(hft:f≤tt)(htl:tt≤l.length)(w:World)(h:IntR w x l):Calls Tryz.prog 89 #[s.val v,.slice x.a x.n x.c,.int .i64 i,.int .i64 f,.int .i64 tt] w (SecondP w s v (secondO l i f tt)):=by
 obtain ⟨h1,h2,h3⟩:=h.reads
 rw [h1] at h2 ⊢
 exact second_c s v x.a x.c l i f tt w h3 h2 (by omega) h0 hi hf0 hft htl
theorem at_r (x:SV)(l:List Int)(i:Int)(h0:0≤i)(w:World)(h:IntR w x l):Calls Tryz.prog 88 #[.slice x.a x.n x.c,.int .i64 i] w fun e w'=>e = .returned (.int .i32 (atN l i))∧Below w.heap.size w w':=by
 obtain ⟨h1,h2,h3⟩:=h.reads
 rw [h1] at h2 ⊢
 exact at_c x.a x.c l i w h3 h2 h0
abbrev PRow:=List S114
def ParseP (w:World)(o:Option (PS×PRow×PRow×PRow×PRow))(e:Ending)(w':World):Prop:=(match o with
  | some (q,l0,l1,l2,l3)=>∃ v,e = .returned (.tuple #[q.val v,.int .i64 0,.int .i64 0])∧TokR w' v.v0 l0∧TokR w' v.v1 l1∧TokR w' v.v2 l2∧TokR w' v.v3 l3
  | none=>∃ q v p k,e = .returned (.tuple #[PS.val q v,.int .i64 p,.int .i64 k])∧k≠0)∧Below w.heap.size w w'
theorem ParseP.none {w w':World}{q:PS}{v:V4}{p k:Int}(hk:k≠0)(h:Below w.heap.size w w'):ParseP w none (.returned (.tuple #[PS.val q v,.int .i64 p,.int .i64 k])) w':=⟨⟨q,v,p,k,rfl,hk⟩,h⟩
set_option maxHeartbeats 8000000 in
set_option maxRecDepth 100000 in
theorem parse_c (x:ByteArray)(hx:x.size≤100000)(w:World):Calls Tryz.prog 66 #[.string x] w (ParseP w (parseO (bytesOf x))):=by
 have hbl:(bytesOf x).length≤100000:=by rw [bytesOf_length];exact hx
 have HZ:=zA (show conv_bytes.f x=some (bytesOf x) by unfold conv_bytes.f;rw [if_pos (by omega)])
 have KD:=zA (fun A n c W h=>decode_c (bytesOf x) hbl A n c W h)
 obtain ⟨X,hX⟩:∃ X,parseO (bytesOf x)=X:=⟨_,rfl⟩
 rw [hX]
 unfold parseO at hX
 clear hbl hx
 generalize decodeV (bytesOf x)=y at *
 obtain ⟨l,p,k⟩:=y
 dsimp only at hX KD
 by_cases c1:k=0
 rotate_left
 rw [if_pos c1] at hX
 have d1:(k == 0)=false:=zF c1
 rotate_left
 rw [if_neg (by rw [c1];decide)] at hX
 subst c1
 by_cases c2:120<l.length
 rw [if_pos c2] at hX
 have d2:(120<(l.length:Int))=True:=eq_true (by omega)
 clear c2
 rotate_left
 rw [if_neg c2] at hX
 have d2:(120<(l.length:Int))=False:=eq_false (by omega)
 have hl:l.length≤120:=by omega
 have KF:=zA (fun x W h=>first_r x l hl W h)
 generalize h1:firstO l=o1 at hX KF
 rcases o1 with _|⟨q,pre,suf,f,tt,n⟩
 rotate_left
 have O:=firstO_ok (by omega) h1
 dsimp only at hX
 clear h1 c2
 obtain ⟨_,⟨⟨m0,m1⟩,m2,m3⟩,f0,ft,tl,n0,nl⟩:=O
 have KA:=zA (fun x W h=>at_r x l n n0 W h)
 have HI:=zA hl
 by_cases c3:atN l n=59
 rw [if_pos c3] at hX
 have d3:(atN l n == 59)=true:=zH c3
 have hw:IntKind.i64.wrap (n+1)=n+1:=by rw [IntKind.wrap_i64];omega
 have KS:=zA (fun s v x W h=>second_r s v x l hl (n+1) f tt (by omega) (by omega) f0 ft tl W h)
 generalize h2:secondO l (n+1) f tt=o2 at hX KS
 rcases o2 with _|⟨np,ns,m⟩
 rotate_left
 dsimp only at hX
 clear h2 hl c3 f0 ft tl n0 nl
 rotate_left
 rw [if_neg c3] at hX
 have d3:(atN l n == 59)=false:=zF c3
 clear hl c3 f0 ft tl n0 nl
 rotate_right
 iterate 2
  · go_enter Tryz.func66,Tryz.ntmps66
    go_upto_region 12 with (first|((with_reducible refine gate_dst (N:=2) rfl ?_);refine pat_alloc rfl rfl rfl ?_;intro gr w1 hgr hbr hb1;have S0:=zA (And.intro hgr (And.intro hbr hb1));clear hgr hbr hb1)|((with_reducible refine gate_conv rfl ?_);refine goesC_ (some 18) rfl rfl _ _ x rfl rfl ?_;(with_reducible refine (conv_bytes.calls x _ _ HZ.out).mono ?_);rintro e w4 ⟨vv,rfl,hV,hb4⟩;refine ⟨_,rfl,?_⟩;obtain ⟨a4,c4,rfl⟩:=Kd.V_slice hV;have HV:=zA (Kd.V_reads' hV);replace S0:=zA (And.intro S0.out.1 (And.intro (S0.out.2.1.below hb4) (S0.out.2.2.trans (hb4.mono S0.out.2.2.size))));clear hV hb4)|(go_at_call 86;(with_reducible refine (KD.out _ _ _ _ HV.out).mono ?_);rintro e w5 ⟨al,nl_,cl,rfl,hR,hb5⟩;replace S0:=zA (And.intro S0.out.1 (And.intro (S0.out.2.1.below hb5) (S0.out.2.2.trans (hb5.mono S0.out.2.2.size))));have HL:=zA hR;have HN:=zA hR.reads.1;obtain rfl:=HN.out;clear HV HN hR hb5)|(refine pat_build rfl rfl rfl ?_)|(go_at_call 87;(with_reducible refine (KF.out ⟨al,_,cl⟩ _ HL.out).mono ?_);rintro e w6 ⟨⟨u0,u1,rfl,hu0,hu1⟩,hb6⟩;replace S0:=zA (And.intro S0.out.1 (And.intro (S0.out.2.1.below hb6) (S0.out.2.2.trans (hb6.mono S0.out.2.2.size))));(try replace HL:=zA (HL.out.below hb6));(try replace H0:=zA (H0.out.below hb6));(try replace H1:=zA (H1.out.below hb6));(try replace H2:=zA (H2.out.below hb6));(try replace H3:=zA (H3.out.below hb6));(try replace NS:=zA (NS.out.below hb6));have H0:=zA hu0;have H1:=zA hu1;clear hu0 hu1;clear hb6)|((with_reducible refine gate_dst (N:=8) rfl ?_);refine pat_alloc rfl rfl rfl ?_;intro gp w2 hgp hbp hb2;have ST:=zA (PSt.start' S0.out.1 S0.out.2.1 S0.out.2.2 hgp hbp hb2);(try replace HL:=zA (HL.out.below hb2));(try replace H0:=zA (H0.out.below hb2));(try replace H1:=zA (H1.out.below hb2));(try replace H2:=zA (H2.out.below hb2));(try replace H3:=zA (H3.out.below hb2));clear S0 hgp hbp hb2)|(go_at_call 88;(with_reducible refine (KA.out ⟨al,_,cl⟩ _ HL.out).mono ?_);rintro e w7 ⟨rfl,hb7⟩;replace ST:=zA (ST.out.below hb7);(try replace HL:=zA (HL.out.below hb7));(try replace H0:=zA (H0.out.below hb7));(try replace H1:=zA (H1.out.below hb7));(try replace H2:=zA (H2.out.below hb7));(try replace H3:=zA (H3.out.below hb7));(try replace NS:=zA (NS.out.below hb7));clear hb7)|(go_at_call 89;(with_reducible refine (KS.out _ ⟨u0,u1,SV.nil,SV.nil⟩ ⟨al,_,cl⟩ _ HL.out).mono ?_);rintro e w10 ⟨⟨u2,u3,rfl,hu2,hu3⟩,hb10⟩;replace ST:=zA (ST.out.below hb10);(try replace HL:=zA (HL.out.below hb10));(try replace H0:=zA (H0.out.below hb10));(try replace H1:=zA (H1.out.below hb10));(try replace H2:=zA (H2.out.below hb10));(try replace H3:=zA (H3.out.below hb10));(try replace NS:=zA (NS.out.below hb10));have H2:=zA hu2;have H3:=zA hu3;clear hu2 hu3;clear hb10)|((with_reducible refine gate_dst (N:=13) rfl ?_);refine pat_alloc rfl rfl rfl ?_;intro gn wn hgn hbn hb8;have NS:=zA (Nw.new ST.out hgn hbn);replace ST:=zA (ST.out.below hb8);(try replace HL:=zA (HL.out.below hb8));(try replace H0:=zA (H0.out.below hb8));(try replace H1:=zA (H1.out.below hb8));(try replace H2:=zA (H2.out.below hb8));(try replace H3:=zA (H3.out.below hb8));clear hgn hbn hb8)|(refine pat_store rfl rfl rfl gn rfl _ _ rfl _ _ NS.out.b ?_;intro w9 hw9 hb9;replace ST:=zA (ST.out.other hb9 NS.out.hn NS.out.p NS.out.r);(try replace HL:=zA (HL.out.but NS.out.b hb9));(try replace H0:=zA (H0.out.but NS.out.b hb9));(try replace H1:=zA (H1.out.but NS.out.b hb9));(try replace H2:=zA (H2.out.but NS.out.b hb9));(try replace H3:=zA (H3.out.but NS.out.b hb9));replace NS:=zA (NS.out.set hw9);clear hw9 hb9)|(refine pat_load rfl rfl rfl gn rfl _ _ NS.out.b ?_)|(refine pat_load rfl rfl rfl gp rfl _ _ ST.out.p ?_)|(refine pat_store rfl rfl rfl gp rfl _ _ rfl _ _ ST.out.p ?_;intro w9 hw9 hb9;(try replace HL:=zA (HL.out.but ST.out.p hb9));(try replace H0:=zA (H0.out.but ST.out.p hb9));(try replace H1:=zA (H1.out.but ST.out.p hb9));(try replace H2:=zA (H2.out.but ST.out.p hb9));(try replace H3:=zA (H3.out.but ST.out.p hb9));(try replace NS:=zA (NS.out.butP hb9));replace ST:=zA (ST.out.put' hw9 hb9);clear hw9 hb9)|(refine pat_store rfl rfl rfl gr rfl _ _ rfl _ _ ST.out.r ?_;intro w9 hw9 hb9;(try replace HL:=zA (HL.out.but ST.out.r hb9));(try replace H0:=zA (H0.out.but ST.out.r hb9));(try replace H1:=zA (H1.out.but ST.out.r hb9));(try replace H2:=zA (H2.out.but ST.out.r hb9));(try replace H3:=zA (H3.out.but ST.out.r hb9));(try replace NS:=zA (NS.out.butR hb9));replace ST:=zA (ST.out.ret hw9 hb9);clear hw9 hb9))
    unfold finO at hX
    have hw_:IntKind.i64.wrap (q.hash+q.minInt)=q.hash+q.minInt:=by rw [IntKind.wrap_i64];omega
    have c5:World.cell? _ ⟨gp,5,none⟩=some (.int .i64 q.hash):=ST.out.p.cell 5
    have c6:World.cell? _ ⟨gp,6,none⟩=some (.int .i64 q.minInt):=ST.out.p.cell 6
    have c8:World.cell? _ ⟨gp,8,none⟩=some (.int .i64 q.maxFrac):=ST.out.p.cell 8
    have c12:World.cell? _ ⟨gp,12,none⟩=some (.int .i64 q.maxSig):=ST.out.p.cell 12
    have c13:World.cell? _ ⟨gp,13,none⟩=some (.int .i64 q.exp):=ST.out.p.cell 13
    split at hX <;> rename_i e0
    have g0:=eq_true e0
    rotate_left
    have g0:=eq_false e0
    try dsimp only at hX
    by_cases e1:40<q.hash+q.minInt
    rw [if_pos e1] at hX
    have g1:=eq_true e1
    rotate_left
    rw [if_neg e1] at hX
    have g1:=eq_false e1
    by_cases e2:40<q.maxFrac
    rw [if_pos e2] at hX
    have g2:=eq_true e2
    rotate_left
    rw [if_neg e2] at hX
    have g2:=eq_false e2
    by_cases e3:40<q.maxSig
    rw [if_pos e3] at hX
    have g3:=eq_true e3
    rotate_left
    rw [if_neg e3] at hX
    have g3:=eq_false e3
    by_cases e4:40<q.exp
    rw [if_pos e4] at hX
    have g4:=eq_true e4
    rotate_left
    rw [if_neg e4] at hX
    have g4:=eq_false e4
    all_goals
      subst hX
      go_wp2_with (first|(refine pat_build rfl rfl rfl ?_)|(refine pat_load rfl rfl rfl gp rfl _ _ ST.out.p ?_)|(refine pat_store rfl rfl rfl gr rfl _ _ rfl _ _ ST.out.r ?_;intro w9 hw9 hb9;(try replace HL:=zA (HL.out.but ST.out.r hb9));(try replace H0:=zA (H0.out.but ST.out.r hb9));(try replace H1:=zA (H1.out.but ST.out.r hb9));(try replace H2:=zA (H2.out.but ST.out.r hb9));(try replace H3:=zA (H3.out.but ST.out.r hb9));(try replace NS:=zA (NS.out.butR hb9));replace ST:=zA (ST.out.ret hw9 hb9);clear hw9 hb9))
      first
        | exact bodyPost_ret (pat_results rfl _ gr rfl _ _ ST.out.r) rfl (ParseP.none (by decide) ST.out.b)
        | exact bodyPost_ret (pat_results rfl _ gr rfl _ _ ST.out.r) rfl ⟨⟨_,rfl,H0.out,H1.out,H2.out,H3.out⟩,ST.out.b⟩
        | exact bodyPost_ret (pat_results rfl _ gr rfl _ _ ST.out.r) rfl ⟨⟨_,rfl,H0.out,H1.out,TokR.nil _,TokR.nil _⟩,ST.out.b⟩
 iterate 2
  · subst hX
    go_enter Tryz.func66,Tryz.ntmps66
    go_wp2_with (first|((with_reducible refine gate_dst (N:=2) rfl ?_);refine pat_alloc rfl rfl rfl ?_;intro gr w1 hgr hbr hb1;have S0:=zA (And.intro hgr (And.intro hbr hb1));clear hgr hbr hb1)|((with_reducible refine gate_conv rfl ?_);refine goesC_ (some 18) rfl rfl _ _ x rfl rfl ?_;(with_reducible refine (conv_bytes.calls x _ _ HZ.out).mono ?_);rintro e w4 ⟨vv,rfl,hV,hb4⟩;refine ⟨_,rfl,?_⟩;obtain ⟨a4,c4,rfl⟩:=Kd.V_slice hV;have HV:=zA (Kd.V_reads' hV);replace S0:=zA (And.intro S0.out.1 (And.intro (S0.out.2.1.below hb4) (S0.out.2.2.trans (hb4.mono S0.out.2.2.size))));clear hV hb4)|(go_at_call 86;(with_reducible refine (KD.out _ _ _ _ HV.out).mono ?_);rintro e w5 ⟨al,nl_,cl,rfl,hR,hb5⟩;replace S0:=zA (And.intro S0.out.1 (And.intro (S0.out.2.1.below hb5) (S0.out.2.2.trans (hb5.mono S0.out.2.2.size))));have HL:=zA hR;have HN:=zA hR.reads.1;obtain rfl:=HN.out;clear HV HN hR hb5)|(refine pat_build rfl rfl rfl ?_)|(refine pat_store rfl rfl rfl gr rfl _ _ rfl _ _ S0.out.2.1 ?_;intro w9 hw9 hb9;replace S0:=zA (And.intro S0.out.1 (And.intro hw9 (hb9.below _ _ S0.out.2.2 (Nat.le_of_eq S0.out.1.symm))));clear hw9 hb9))
    exact bodyPost_ret (pat_results rfl _ gr rfl _ _ S0.out.2.1) rfl (ParseP.none (by first|decide|assumption) S0.out.2.2)
 all_goals
  subst hX
  try clear h1 c2 hl
  try clear h2 hl c3 m0 m1 m2 m3 f0 ft tl n0 nl
  go_enter Tryz.func66,Tryz.ntmps66
  go_wp2_with (first|((with_reducible refine gate_dst (N:=2) rfl ?_);refine pat_alloc rfl rfl rfl ?_;intro gr w1 hgr hbr hb1;have S0:=zA (And.intro hgr (And.intro hbr hb1));clear hgr hbr hb1)|((with_reducible refine gate_conv rfl ?_);refine goesC_ (some 18) rfl rfl _ _ x rfl rfl ?_;(with_reducible refine (conv_bytes.calls x _ _ HZ.out).mono ?_);rintro e w4 ⟨vv,rfl,hV,hb4⟩;refine ⟨_,rfl,?_⟩;obtain ⟨a4,c4,rfl⟩:=Kd.V_slice hV;have HV:=zA (Kd.V_reads' hV);replace S0:=zA (And.intro S0.out.1 (And.intro (S0.out.2.1.below hb4) (S0.out.2.2.trans (hb4.mono S0.out.2.2.size))));clear hV hb4)|(go_at_call 86;(with_reducible refine (KD.out _ _ _ _ HV.out).mono ?_);rintro e w5 ⟨al,nl_,cl,rfl,hR,hb5⟩;replace S0:=zA (And.intro S0.out.1 (And.intro (S0.out.2.1.below hb5) (S0.out.2.2.trans (hb5.mono S0.out.2.2.size))));have HL:=zA hR;have HN:=zA hR.reads.1;obtain rfl:=HN.out;clear HV HN hR hb5)|(refine pat_build rfl rfl rfl ?_)|(go_at_call 87;(with_reducible refine (KF.out ⟨al,_,cl⟩ _ HL.out).mono ?_);rintro e w6 ⟨hz6,hb6⟩;(first|obtain ⟨u0,u1,rfl,hu0,hu1⟩:=hz6|obtain ⟨q6,v6,f6,t6,n6,rfl⟩:=hz6);replace S0:=zA (And.intro S0.out.1 (And.intro (S0.out.2.1.below hb6) (S0.out.2.2.trans (hb6.mono S0.out.2.2.size))));(try replace HL:=zA (HL.out.below hb6));(try replace H0:=zA (H0.out.below hb6));(try replace H1:=zA (H1.out.below hb6));(try replace H2:=zA (H2.out.below hb6));(try replace H3:=zA (H3.out.below hb6));(try replace NS:=zA (NS.out.below hb6));(try (have H0:=zA hu0;have H1:=zA hu1;clear hu0 hu1));clear hb6)|((with_reducible refine gate_dst (N:=8) rfl ?_);refine pat_alloc rfl rfl rfl ?_;intro gp w2 hgp hbp hb2;have ST:=zA (PSt.start' S0.out.1 S0.out.2.1 S0.out.2.2 hgp hbp hb2);(try replace HL:=zA (HL.out.below hb2));(try replace H0:=zA (H0.out.below hb2));(try replace H1:=zA (H1.out.below hb2));(try replace H2:=zA (H2.out.below hb2));(try replace H3:=zA (H3.out.below hb2));clear S0 hgp hbp hb2)|(go_at_call 88;(with_reducible refine (KA.out ⟨al,_,cl⟩ _ HL.out).mono ?_);rintro e w7 ⟨rfl,hb7⟩;replace ST:=zA (ST.out.below hb7);(try replace HL:=zA (HL.out.below hb7));(try replace H0:=zA (H0.out.below hb7));(try replace H1:=zA (H1.out.below hb7));(try replace H2:=zA (H2.out.below hb7));(try replace H3:=zA (H3.out.below hb7));(try replace NS:=zA (NS.out.below hb7));clear hb7)|(go_at_call 89;(with_reducible refine (KS.out _ ⟨u0,u1,SV.nil,SV.nil⟩ ⟨al,_,cl⟩ _ HL.out).mono ?_);rintro e w10 ⟨⟨q10,v10,n10,rfl⟩,hb10⟩;replace ST:=zA (ST.out.below hb10);(try replace HL:=zA (HL.out.below hb10));(try replace H0:=zA (H0.out.below hb10));(try replace H1:=zA (H1.out.below hb10));(try replace H2:=zA (H2.out.below hb10));(try replace H3:=zA (H3.out.below hb10));(try replace NS:=zA (NS.out.below hb10));clear hb10)|((with_reducible refine gate_dst (N:=13) rfl ?_);refine pat_alloc rfl rfl rfl ?_;intro gn wn hgn hbn hb8;have NS:=zA (Nw.new ST.out hgn hbn);replace ST:=zA (ST.out.below hb8);(try replace HL:=zA (HL.out.below hb8));(try replace H0:=zA (H0.out.below hb8));(try replace H1:=zA (H1.out.below hb8));(try replace H2:=zA (H2.out.below hb8));(try replace H3:=zA (H3.out.below hb8));clear hgn hbn hb8)|(refine pat_store rfl rfl rfl gn rfl _ _ rfl _ _ NS.out.b ?_;intro w9 hw9 hb9;replace ST:=zA (ST.out.other hb9 NS.out.hn NS.out.p NS.out.r);(try replace HL:=zA (HL.out.but NS.out.b hb9));(try replace H0:=zA (H0.out.but NS.out.b hb9));(try replace H1:=zA (H1.out.but NS.out.b hb9));(try replace H2:=zA (H2.out.but NS.out.b hb9));(try replace H3:=zA (H3.out.but NS.out.b hb9));replace NS:=zA (NS.out.set hw9);clear hw9 hb9)|(refine pat_load rfl rfl rfl gn rfl _ _ NS.out.b ?_)|(refine pat_load rfl rfl rfl gp rfl _ _ ST.out.p ?_)|(refine pat_store rfl rfl rfl gp rfl _ _ rfl _ _ ST.out.p ?_;intro w9 hw9 hb9;(try replace HL:=zA (HL.out.but ST.out.p hb9));(try replace H0:=zA (H0.out.but ST.out.p hb9));(try replace H1:=zA (H1.out.but ST.out.p hb9));(try replace H2:=zA (H2.out.but ST.out.p hb9));(try replace H3:=zA (H3.out.but ST.out.p hb9));(try replace NS:=zA (NS.out.butP hb9));replace ST:=zA (ST.out.put' hw9 hb9);clear hw9 hb9)|(refine pat_store rfl rfl rfl gr rfl _ _ rfl _ _ ST.out.r ?_;intro w9 hw9 hb9;(try replace HL:=zA (HL.out.but ST.out.r hb9));(try replace H0:=zA (H0.out.but ST.out.r hb9));(try replace H1:=zA (H1.out.but ST.out.r hb9));(try replace H2:=zA (H2.out.but ST.out.r hb9));(try replace H3:=zA (H3.out.but ST.out.r hb9));(try replace NS:=zA (NS.out.butR hb9));replace ST:=zA (ST.out.ret hw9 hb9);clear hw9 hb9))
  exact bodyPost_ret (pat_results rfl _ gr rfl _ _ ST.out.r) rfl (ParseP.none (by decide) ST.out.b)
end
end Go.Proofs.YtklebhlanidloaaGreatDoor.PZ
end
