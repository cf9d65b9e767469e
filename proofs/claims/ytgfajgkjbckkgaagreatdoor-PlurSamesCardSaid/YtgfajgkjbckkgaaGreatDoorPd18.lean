/- Texts of this seat, joined. Conditions: none beyond each statement's own. -/
import Derived.Test.YtgfajgkjbckkgaaGreatDoorPd17
set_option linter.all false
section
noncomputable section
namespace Go.Proofs.YtgfajgkjbckkgaaGreatDoor.PZ
open Go.RowKit Go.Proofs.YtgfajgkjbckkgaaGreatDoorW.PrintWords Go.Proofs.YtgfajgkjbckkgaaGreatDoorW.PrintLast Go.Proofs.YtgfajgkjbckkgaaGreatDoorW.PrintMore
attribute [local go_sem] max2_int min2_int max_two min_two max_three min_three max_four min_four   -- for this text's walks alone
def exerguelaw12_shown.f (k:Nat)  : Option (Bool):=(plur_Read.f k (([(⟨2,(⟨#[110,32,61,32,49]⟩:ByteArray)⟩:S68)]:List (S68)))).bind fun ab=>(if ab.2.2=0 then (if (ab.1.length:Int)=1 then ((plur_Of.f ab.1 (([1]:List Int)) ([]:List Int) 0 0).bind fun ah=>(if ah=2 then ((plur_Of.f ab.1 (([2]:List Int)) ([]:List Int) 0 0).bind fun ae=>(if ae=0 then ((plur_Name.f 2).bind fun af=>(if af.toList=([111,110,101]:List UInt8) then ((plur_Right.f k ab.1).bind fun aj=>(some aj)) else (none))) else (none))) else (none))) else (none)) else (none))
theorem exerguelaw12_shown.mono:∀ k,LeO (exerguelaw12_shown.f k ) (exerguelaw12_shown.f (k+1) ):=by
 intro  k
 unfold exerguelaw12_shown.f
 repeat' first|(with_reducible first|apply plur_Read.mono|apply plur_Right.mono|apply LeO.refl|apply LeO.none|refine LeO.ite ?_ ?_|refine LeO.bind ?_ (fun _=>?_))|apply plur_Read.mono|apply plur_Right.mono|apply LeO.none
set_option maxHeartbeats 8000000 in
set_option maxRecDepth 100000 in
theorem exerguelaw12_shown.calls (k:Nat)  (r:Bool)(w:World)(hG:GL w)(h:exerguelaw12_shown.f k  = some r) :
  Calls Tryz.prog 14 #[] w fun e w'=>e = .returned (.bool r)∧Below w.heap.size w w':=by
 have hu68:=Tryz.underlying68
 have hu36:=Tryz.underlying36
 have HB:=zS (Below.refl w.heap.size w)
 have HG:=zS hG
 clear hG
 have H:((plur_Read.f k (([(⟨2,(⟨#[110,32,61,32,49]⟩:ByteArray)⟩:S68)]:List (S68)))).bind fun ab=>(if ab.2.2=0 then (if (ab.1.length:Int)=1 then ((plur_Of.f ab.1 (([1]:List Int)) ([]:List Int) 0 0).bind fun ah=>(if ah=2 then ((plur_Of.f ab.1 (([2]:List Int)) ([]:List Int) 0 0).bind fun ae=>(if ae=0 then ((plur_Name.f 2).bind fun af=>(if af.toList=([111,110,101]:List UInt8) then ((plur_Right.f k ab.1).bind fun aj=>(some aj)) else (none))) else (none))) else (none))) else (none)) else (none)))=some r:=h
 clear h
 obtain ⟨aw,ak⟩:∃ y_:List (S68),y_=(([(⟨2,(⟨#[110,32,61,32,49]⟩:ByteArray)⟩:S68)]:List (S68))):=⟨_,rfl⟩
 replace H:((plur_Read.f k aw).bind fun ab=>(if ab.2.2=0 then (if (ab.1.length:Int)=1 then ((plur_Of.f ab.1 (([1]:List Int)) ([]:List Int) 0 0).bind fun ah=>(if ah=2 then ((plur_Of.f ab.1 (([2]:List Int)) ([]:List Int) 0 0).bind fun ae=>(if ae=0 then ((plur_Name.f 2).bind fun af=>(if af.toList=([111,110,101]:List UInt8) then ((plur_Right.f k ab.1).bind fun aj=>(some aj)) else (none))) else (none))) else (none))) else (none)) else (none)))=some r:=by first|(rw [ak];with_reducible exact H)|(have H2_:=(Option.bind_some _ _).symm.trans H;rw [ak];with_reducible exact H2_)|(have H2_:=(Option.bind_some _ _).symm.trans H;with_reducible exact H2_)|with_reducible exact H|(rw [ak];exact H)|exact H
 have ar:=zS ak
 clear ak
 replace H:=Option.bind_eq_some_iff.mp H
 obtain ⟨⟨ai,aA,aq⟩,A10,H⟩:=H
 try dsimp only at H
 have A1:=zS A10
 clear A10
 by_cases c2:aq=0
 rotate_left
 ·rw [if_neg c2] at H
  exact absurd H (by simp)
 rw [if_pos c2] at H
 have aH:(aq == 0)=true:=zH c2
 have aI:(aq != 0)=false:=zG c2
 clear c2
 by_cases c3:(ai.length:Int)=1
 rotate_left
 ·rw [if_neg c3] at H
  exact absurd H (by simp)
 rw [if_pos c3] at H
 have aJ:((ai.length:Int) == 1)=true:=zH c3
 have aK:((ai.length:Int) != 1)=false:=zG c3
 clear c3
 obtain ⟨ax,al⟩:∃ y_:List Int,y_=(([1]:List Int)):=⟨_,rfl⟩
 replace H:((plur_Of.f ai ax ([]:List Int) 0 0).bind fun ah=>(if ah=2 then ((plur_Of.f ai (([2]:List Int)) ([]:List Int) 0 0).bind fun ae=>(if ae=0 then ((plur_Name.f 2).bind fun af=>(if af.toList=([111,110,101]:List UInt8) then ((plur_Right.f k ai).bind fun aj=>(some aj)) else (none))) else (none))) else (none)))=some r:=by first|(rw [al];with_reducible exact H)|(have H2_:=(Option.bind_some _ _).symm.trans H;rw [al];with_reducible exact H2_)|(have H2_:=(Option.bind_some _ _).symm.trans H;with_reducible exact H2_)|with_reducible exact H|(rw [al];exact H)|exact H
 have au:=zS al
 clear al
 replace H:=Option.bind_eq_some_iff.mp H
 obtain ⟨ah,A40,H⟩:=H
 try dsimp only at H
 have A4:=zS A40
 clear A40
 by_cases c5:ah=2
 rotate_left
 ·rw [if_neg c5] at H
  exact absurd H (by simp)
 rw [if_pos c5] at H
 have aL:(ah == 2)=true:=zH c5
 have aM:(ah != 2)=false:=zG c5
 clear c5
 obtain ⟨ay,am⟩:∃ y_:List Int,y_=(([2]:List Int)):=⟨_,rfl⟩
 replace H:((plur_Of.f ai ay ([]:List Int) 0 0).bind fun ae=>(if ae=0 then ((plur_Name.f 2).bind fun af=>(if af.toList=([111,110,101]:List UInt8) then ((plur_Right.f k ai).bind fun aj=>(some aj)) else (none))) else (none)))=some r:=by first|(rw [am];with_reducible exact H)|(have H2_:=(Option.bind_some _ _).symm.trans H;rw [am];with_reducible exact H2_)|(have H2_:=(Option.bind_some _ _).symm.trans H;with_reducible exact H2_)|with_reducible exact H|(rw [am];exact H)|exact H
 have av:=zS am
 clear am
 replace H:=Option.bind_eq_some_iff.mp H
 obtain ⟨ae,A60,H⟩:=H
 try dsimp only at H
 have A6:=zS A60
 clear A60
 by_cases c7:ae=0
 rotate_left
 ·rw [if_neg c7] at H
  exact absurd H (by simp)
 rw [if_pos c7] at H
 have aN:(ae == 0)=true:=zH c7
 have aO:(ae != 0)=false:=zG c7
 clear c7
 replace H:=Option.bind_eq_some_iff.mp H
 obtain ⟨af,A80,H⟩:=H
 try dsimp only at H
 have A8:=zS A80
 clear A80
 by_cases c9:af.toList=([111,110,101]:List UInt8)
 rotate_left
 ·rw [if_neg c9] at H
  exact absurd H (by simp)
 rw [if_pos c9] at H
 have aP:(af.toList == ([111,110,101]:List UInt8))=true:=zH c9
 have aQ:(af.toList != ([111,110,101]:List UInt8))=false:=zG c9
 clear c9
 replace H:=Option.bind_eq_some_iff.mp H
 obtain ⟨aj,az,H⟩:=H
 try dsimp only at H
 have A10:=zS az
 clear az
 obtain rfl:=zE H
 go_enter Tryz.func14,Tryz.ntmps14
 have tok_0:=zA (show Aside0 (0=0) from ⟨rfl⟩)
 have tok_1:=zA (show Aside0 (1=1) from ⟨rfl⟩)
 go_wp2_with (first|((with_reducible refine gate_dst (N:=6) rfl ?_);(try (refine gate_guard (by rfl) ?_;dsimp only));refine Kd.R_lit k68 _ 68 ?hg (N:=6) ?hd (xs:=([(⟨2,(⟨#[110,32,61,32,49]⟩:ByteArray)⟩:S68)]:List (S68))) (inner:=[.int .i64 2,.string (⟨#[110,32,61,32,49]⟩:ByteArray)]) (ok:=fun _=>True) (okp:=fun _=>True) ?hr ?hp (fun _ hk=>hk) trivial (Below.refl _ _) (Nat.le_refl _) (by simp) ?_;(case hd=>rfl);(case hg=>rfl);(case hr=>first|(go_simp;done)|(go_simp;rfl));(case hp=>exact (Reps.c2 (show Kd.M k68 _ _ _ (⟨2,(⟨#[110,32,61,32,49]⟩:ByteArray)⟩:S68) [.int .i64 2,.string (⟨#[110,32,61,32,49]⟩:ByteArray)] from (k68_mkM _ _ _ (⟨2,(⟨#[110,32,61,32,49]⟩:ByteArray)⟩:S68) )) (Reps.none _ _)));intro aR w11 ao hb hg_ hnew_;clear hg_ hnew_;(first|rw [← ar.out] at ao|(simp only [Int.reduceToNat] at ao;rw [← ar.out] at ao));have ac:=zS (Kd.R_lower ao (bz HB));replace HB:=bs HB hb;clear hb ao;obtain ⟨aB,aC,aD⟩:=Kd.R_slice ac.out;subst aD)|((with_reducible refine gate_callee (f:=18) rfl ?_);refine gL (some 7) Tryz.func18 #[.slice aB aw.length aC] ?_;(with_reducible refine (plur_Read.calls k _ _ aw ai aA aq _ ?side3 (rc ac) (rl ac) A1.out).mono ?_);(case side3=>refine GL.below HG.out ?_;exact bQ HB);rintro e w14 ⟨aS,rfl,ho0,hb⟩;refine ⟨_,rfl,?_⟩;replace ac:=rb ac hb;have aa:=zS (Kd.R_lower ho0 (bz HB));replace HB:=bs HB hb;(try clear hb);(try clear ho0);obtain ⟨aT,aU,aE⟩:=Kd.R_slice aa.out;subst aE)|((with_reducible refine gate_dst (N:=20) rfl ?_);(try (refine gate_guard (by rfl) ?_;dsimp only));refine Kd.R_lit (Kd.int .u8) _ 5 ?hg (N:=20) ?hd (xs:=([1]:List Int)) (inner:=[.int .u8 1]) (ok:=fun _=>True) (okp:=fun _=>True) ?hr ?hp (fun _ hk=>hk) trivial (Below.refl _ _) (Nat.le_refl _) (by simp) ?_;(case hd=>rfl);(case hg=>rfl);(case hr=>first|(go_simp;done)|(go_simp;rfl));(case hp=>exact (Reps.one (show Kd.M (Kd.int .u8) _ _ _ 1 [.int .u8 1] from rfl) (Reps.none _ _)));intro aV w16 ap hb hg_ hnew_;clear hg_ hnew_;(first|rw [← au.out] at ap|(simp only [Int.reduceToNat] at ap;rw [← au.out] at ap));replace ac:=rb ac hb;replace aa:=rb aa hb;have ad:=zS (Kd.R_lower ap (bz HB));replace HB:=bs HB hb;clear hb ap;obtain ⟨aW,aX,aF⟩:=Kd.R_slice ad.out;subst aF)|(go_at_call 27;clear tok_0;(refine (plur_Of.calls _ _ ai _ _ ax _ _ ([]:List Int) 0 0 ah _ ?side7 (rc aa) (rl aa) (rc ad) (rl ad) ?side5 ?side6 A4.out).mono ?_);(case side5=>exact Kd.C_nil _ _);(case side6=>exact Nat.le_refl _);(case side7=>refine GL.below HG.out ?_;exact bQ HB);rintro e w19 ⟨rfl,hb⟩;replace ac:=rb ac hb;replace aa:=rb aa hb;replace ad:=rb ad hb;replace HB:=bs HB hb;(try clear hb);(try clear hk))|((with_reducible refine gate_dst (N:=27) rfl ?_);(try (refine gate_guard (by rfl) ?_;dsimp only));refine Kd.R_lit (Kd.int .u8) _ 5 ?hg (N:=27) ?hd (xs:=([2]:List Int)) (inner:=[.int .u8 2]) (ok:=fun _=>True) (okp:=fun _=>True) ?hr ?hp (fun _ hk=>hk) trivial (Below.refl _ _) (Nat.le_refl _) (by simp) ?_;(case hd=>rfl);(case hg=>rfl);(case hr=>first|(go_simp;done)|(go_simp;rfl));(case hp=>exact (Reps.one (show Kd.M (Kd.int .u8) _ _ _ 2 [.int .u8 2] from rfl) (Reps.none _ _)));intro aY w20 an hb hg_ hnew_;clear hg_ hnew_;(first|rw [← av.out] at an|(simp only [Int.reduceToNat] at an;rw [← av.out] at an));replace ac:=rb ac hb;replace aa:=rb aa hb;have ag:=zS (Kd.R_lower (Kd.R_new' an (Kd.R_lt (ro ad))) (bz HB));replace ad:=zS (Kd.R_elder' (ro ad) (Kd.R_base an) hb);replace HB:=bs HB hb;clear hb an;obtain ⟨aZ,a0,aG⟩:=Kd.R_slice ag.out;subst aG)|(go_at_call 27;clear tok_1;(refine (plur_Of.calls _ _ ai _ _ ay _ _ ([]:List Int) 0 0 ae _ ?side7 (rc aa) (rl aa) (rc ag) (rl ag) ?side5 ?side6 A6.out).mono ?_);(case side5=>exact Kd.C_nil _ _);(case side6=>exact Nat.le_refl _);(case side7=>refine GL.below HG.out ?_;exact bQ HB);rintro e w23 ⟨rfl,hb⟩;replace ac:=rb ac hb;replace aa:=rb aa hb;replace ad:=rb ad hb;replace ag:=rb ag hb;replace HB:=bs HB hb;(try clear hb);(try clear hk))|(go_at_call 17;(with_reducible refine (plur_Name.calls 2 af _ A8.out).mono ?_);rintro e w24 ⟨rfl,hb⟩;replace ac:=rb ac hb;replace aa:=rb aa hb;replace ad:=rb ad hb;replace ag:=rb ag hb;replace HB:=bs HB hb;(try clear hb);(try clear hb2);(try clear hk);(try clear hi))|(go_at_call 22;(with_reducible refine (plur_Right.calls k _ _ ai aj _ ?side3 (rc aa) (rl aa) A10.out).mono ?_);(case side3=>refine GL.below HG.out ?_;exact bQ HB);rintro e w25 ⟨rfl,hb⟩;replace ac:=rb ac hb;replace aa:=rb aa hb;replace ad:=rb ad hb;replace ag:=rb ag hb;replace HB:=bs HB hb;(try clear hb);(try clear hb2);(try clear hk);(try clear hi)))
 go_ret
 exact ⟨by first|rfl|(simp <;> rfl)|(simp [*] <;> rfl),bQ HB⟩
end Go.Proofs.YtgfajgkjbckkgaaGreatDoor.PZ
end
end
section
set_option maxRecDepth 100000
namespace Go.Proofs.YtgfajgkjbckkgaaGreatDoor.PZ
open Go.RowKit Go.Proofs.YtgfajgkjbckkgaaGreatDoorW.PrintWords Go.Proofs.YtgfajgkjbckkgaaGreatDoorW.PrintLast
theorem pw_dig {n:Int}(h0:0≤n)(h1:n<10):pw n=[48+n]:=by
 rw [pw_nat h0,digsN_small (by omega)]
 simp only [List.map_cons,List.map_nil,chr]
 congr 1;omega
theorem op_ok (l:List Int)(hl:l=[2,1]∨l=[1,1]∨l=[1]∨l=[2]):OpOk l [] 0 0:=by
 rcases hl with rfl|rfl|rfl|rfl <;> exact ⟨by unfold RightO;decide,by decide,by decide,by decide,by decide⟩
end Go.Proofs.YtgfajgkjbckkgaaGreatDoor.PZ
end
