/- Texts of this seat, joined. Conditions: none beyond each statement's own. -/
import Derived.Test.YtgfajgkjbckkgaaGreatDoorPb27
set_option linter.all false
section
noncomputable section
namespace Go.Proofs.YtgfajgkjbckkgaaGreatDoor.PZ
open Go.RowKit Go.Proofs.YtgfajgkjbckkgaaGreatDoorW.PrintWords Go.Proofs.YtgfajgkjbckkgaaGreatDoorW.PrintLast Go.Proofs.YtgfajgkjbckkgaaGreatDoorW.PrintMore
attribute [local go_sem] max2_int min2_int max_two min_two max_three min_three max_four min_four   -- for this text's walks alone
def exerguelaw12_shown.f (k:Nat)  : Option (Bool):=(plur_Read.f k (([(⟨2,(⟨#[110,32,61,32,49]⟩:ByteArray)⟩:S68)]:List (S68)))).bind fun ab=>(if ab.2.2=0 then (if (ab.1.length:Int)=1 then ((plur_Of.f ab.1 (([1]:List Int)) ([]:List Int) 0 0).bind fun ah=>(if ah=2 then ((plur_Of.f ab.1 (([2]:List Int)) ([]:List Int) 0 0).bind fun ae=>(if ae=0 then ((plur_Name.f 2).bind fun af=>(if af.toList=([111,110,101]:List UInt8) then ((plur_Right.f k ab.1).bind fun aj=>(some aj)) else (none))) else (none))) else (none))) else (none)) else (none))
theorem exerguelaw12_shown.mono:∀ k,LeO (exerguelaw12_shown.f k ) (exerguelaw12_shown.f (k+1) ):=by
 intro  k
 unfold exerguelaw12_shown.f
 repeat' first|(with_reducible first|apply plur_Read.mono|apply plur_Right.mono|apply LeO.refl|apply LeO.none|refine LeO.ite ?_ ?_|refine LeO.bind ?_ (fun _=>?_))|apply plur_Read.mono|apply plur_Right.mono|apply LeO.none
set_option maxHeartbeats 8000000 in
set_option maxRecDepth 100000 in
theorem exerguelaw12_shown.calls (k:Nat)  (r:Bool)(w:World)(hG:GL w)(h:exerguelaw12_shown.f k  = some r) :
  Calls Tryz.prog 14 #[] w fun e w'=>e = .returned (.bool r)∧Below w.heap.size w w':=by
 have hu68:=Tryz.underlying68
 have hu36:=Tryz.underlying36
 have HB:=zS (Below.refl w.heap.size w)
 have HG:=zS hG
 clear hG
 have H:((plur_Read.f k (([(⟨2,(⟨#[110,32,61,32,49]⟩:ByteArray)⟩:S68)]:List (S68)))).bind fun ab=>(if ab.2.2=0 then (if (ab.1.length:Int)=1 then ((plur_Of.f ab.1 (([1]:List Int)) ([]:List Int) 0 0).bind fun ah=>(if ah=2 then ((plur_Of.f ab.1 (([2]:List Int)) ([]:List Int) 0 0).bind fun ae=>(if ae=0 then ((plur_Name.f 2).bind fun af=>(if af.toList=([111,110,101]:List UInt8) then ((plur_Right.f k ab.1).bind fun aj=>(some aj)) else (none))) else (none))) else (none))) else (none)) else (none)))=some r:=h
 clear h
 obtain ⟨aw,ak⟩:∃ y_:List (S68),y_=(([(⟨2,(⟨#[110,32,61,32,49]⟩:ByteArray)⟩:S68)]:List (S68))):=⟨_,rfl⟩
 replace H:((plur_Read.f k aw).bind fun ab=>(if ab.2.2=0 then (if (ab.1.length:Int)=1 then ((plur_Of.f ab.1 (([1]:List Int)) ([]:List Int) 0 0).bind fun ah=>(if ah=2 then ((plur_Of.f ab.1 (([2]:List Int)) ([]:List Int) 0 0).bind fun ae=>(if ae=0 then ((plur_Name.f 2).bind fun af=>(if af.toList=([111,110,101]:List UInt8) then ((plur_Right.f k ab.1).bind fun aj=>(some aj)) else (none))) else (none))) else (none))) else (none)) else (none)))=some r:=by first|(rw [ak];with_reducible exact H)|(have H2_:=(Option.bind_some _ _).symm.trans H;rw [ak];with_reducible exact H2_)|(have H2_:=(Option.bind_some _ _).symm.trans H;with_reducible exact H2_)|with_reducible exact H|(rw [ak];exact H)|exact H
 have ar:=zS ak
 clear ak
 replace H:=Option.bind_eq_some_iff.mp H
 obtain ⟨⟨ai,aA,aq⟩,A10,H⟩:=H
 try dsimp only at H
 have A1:=zS A10
 clear A10
 by_cases c2:aq=0
 rotate_left
 ·rw [if_neg c2] at H
  exact absurd H (by simp)
 rw [if_pos c2] at H
 have aH:(aq == 0)=true:=zH c2
 have aI:(aq != 0)=false:=zG c2
 clear c2
 by_cases c3:(ai.length:Int)=1
 rotate_left
 ·rw [if_neg c3] at H
  exact absurd H (by simp)
 rw [if_pos c3] at H
 have aJ:((ai.length:Int) == 1)=true:=zH c3
 have aK:((ai.length:Int) != 1)=false:=zG c3
 clear c3
 obtain ⟨ax,al⟩:∃ y_:List Int,y_=(([1]:List Int)):=⟨_,rfl⟩
 replace H:((plur_Of.f ai ax ([]:List Int) 0 0).bind fun ah=>(if ah=2 then ((plur_Of.f ai (([2]:List Int)) ([]:List Int) 0 0).bind fun ae=>(if ae=0 then ((plur_Name.f 2).bind fun af=>(if af.toList=([111,110,101]:List UInt8) then ((plur_Right.f k ai).bind fun aj=>(some aj)) else (none))) else (none))) else (none)))=some r:=by first|(rw [al];with_reducible exact H)|(have H2_:=(Option.bind_some _ _).symm.trans H;rw [al];with_reducible exact H2_)|(have H2_:=(Option.bind_some _ _).symm.trans H;with_reducible exact H2_)|with_reducible exact H|(rw [al];exact H)|exact H
 have au:=zS al
 clear al
 replace H:=Option.bind_eq_some_iff.mp H
 obtain ⟨ah,A40,H⟩:=H
 try dsimp only at H
 have A4:=zS A40
 clear A40
 by_cases c5:ah=2
 rotate_left
 ·rw [if_neg c5] at H
  exact absurd H (by simp)
 rw [if_pos c5] at H
 have aL:(ah == 2)=true:=zH c5
 have aM:(ah != 2)=false:=zG c5
 clear c5
 obtain ⟨ay,am⟩:∃ y_:List Int,y_=(([2]:List Int)):=⟨_,rfl⟩
 replace H:((plur_Of.f ai ay ([]:List Int) 0 0).bind fun ae=>(if ae=0 then ((plur_Name.f 2).bind fun af=>(if af.toList=([111,110,101]:List UInt8) then ((plur_Right.f k ai).bind fun aj=>(some aj)) else (none))) else (none)))=some r:=by first|(rw [am];with_reducible exact H)|(have H2_:=(Option.bind_some _ _).symm.trans H;rw [am];with_reducible exact H2_)|(have H2_:=(Option.bind_some _ _).symm.trans H;with_reducible exact H2_)|with_reducible exact H|(rw [am];exact H)|exact H
 have av:=zS am
 clear am
 replace H:=Option.bind_eq_some_iff.mp H
 obtain ⟨ae,A60,H⟩:=H
 try dsimp only at H
 have A6:=zS A60
 clear A60
 by_cases c7:ae=0
 rotate_left
 ·rw [if_neg c7] at H
  exact absurd H (by simp)
 rw [if_pos c7] at H
 have aN:(ae == 0)=true:=zH c7
 have aO:(ae != 0)=false:=zG c7
 clear c7
 replace H:=Option.bind_eq_some_iff.mp H
 obtain ⟨af,A80,H⟩:=H
 try dsimp only at H
 have A8:=zS A80
 clear A80
 by_cases c9:af.toList=([111,110,101]:List UInt8)
 rotate_left
 ·rw [if_neg c9] at H
  exact absurd H (by simp)
 rw [if_pos c9] at H
 have aP:(af.toList == ([111,110,101]:List UInt8))=true:=zH c9
 have aQ:(af.toList != ([111,110,101]:List UInt8))=false:=zG c9
 clear c9
 replace H:=Option.bind_eq_some_iff.mp H
 obtain ⟨aj,az,H⟩:=H
 try dsimp only at H
 have A10:=zS az
 clear az
 obtain rfl:=zE H
 go_enter Tryz.func14,Tryz.ntmps14
 have tok_0:=zA (show Aside0 (0=0) from ⟨rfl⟩)
 have tok_1:=zA (show Aside0 (1=1) from ⟨rfl⟩)
 go_wp2_with (first|((with_reducible refine gate_dst (N:=6) rfl ?_);(try (refine gate_guard (by rfl) ?_;dsimp only));refine Kd.R_lit k68 _ 68 ?hg (N:=6) ?hd (xs:=([(⟨2,(⟨#[110,32,61,32,49]⟩:ByteArray)⟩:S68)]:List (S68))) (inner:=[.int .i64 2,.string (⟨#[110,32,61,32,49]⟩:ByteArray)]) (ok:=fun _=>True) (okp:=fun _=>True) ?hr ?hp (fun _ hk=>hk) trivial (Below.refl _ _) (Nat.le_refl _) (by simp) ?_;(case hd=>rfl);(case hg=>rfl);(case hr=>first|(go_simp;done)|(go_simp;rfl));(case hp=>exact (Reps.c2 (show Kd.M k68 _ _ _ (⟨2,(⟨#[110,32,61,32,49]⟩:ByteArray)⟩:S68) [.int .i64 2,.string (⟨#[110,32,61,32,49]⟩:ByteArray)] from (k68_mkM _ _ _ (⟨2,(⟨#[110,32,61,32,49]⟩:ByteArray)⟩:S68) )) (Reps.none _ _)));intro aR w11 ao hb hg_ hnew_;clear hg_ hnew_;(first|rw [← ar.out] at ao|(simp only [Int.reduceToNat] at ao;rw [← ar.out] at ao));have ac:=zS (Kd.R_lower ao (bz HB));replace HB:=bs HB hb;clear hb ao;obtain ⟨aB,aC,aD⟩:=Kd.R_slice ac.out;subst aD)|((with_reducible refine gate_callee (f:=18) rfl ?_);refine gL (some 7) Tryz.func18 #[.slice aB aw.length aC] ?_;(with_reducible refine (plur_Read.calls k _ _ aw ai aA aq _ ?side3 (rc ac) (rl ac) A1.out).mono ?_);(case side3=>refine GL.below HG.out ?_;exact bQ HB);rintro e w14 ⟨aS,rfl,ho0,hb⟩;refine ⟨_,rfl,?_⟩;replace ac:=rb ac hb;have aa:=zS (Kd.R_lower ho0 (bz HB));replace HB:=bs HB hb;(try clear hb);(try clear ho0);obtain ⟨aT,aU,aE⟩:=Kd.R_slice aa.out;subst aE)|((with_reducible refine gate_dst (N:=20) rfl ?_);(try (refine gate_guard (by rfl) ?_;dsimp only));refine Kd.R_lit (Kd.int .u8) _ 5 ?hg (N:=20) ?hd (xs:=([1]:List Int)) (inner:=[.int .u8 1]) (ok:=fun _=>True) (okp:=fun _=>True) ?hr ?hp (fun _ hk=>hk) trivial (Below.refl _ _) (Nat.le_refl _) (by simp) ?_;(case hd=>rfl);(case hg=>rfl);(case hr=>first|(go_simp;done)|(go_simp;rfl));(case hp=>exact (Reps.one (show Kd.M (Kd.int .u8) _ _ _ 1 [.int .u8 1] from rfl) (Reps.none _ _)));intro aV w16 ap hb hg_ hnew_;clear hg_ hnew_;(first|rw [← au.out] at ap|(simp only [Int.reduceToNat] at ap;rw [← au.out] at ap));replace ac:=rb ac hb;replace aa:=rb aa hb;have ad:=zS (Kd.R_lower ap (bz HB));replace HB:=bs HB hb;clear hb ap;obtain ⟨aW,aX,aF⟩:=Kd.R_slice ad.out;subst aF)|(go_at_call 27;clear tok_0;(refine (plur_Of.calls _ _ ai _ _ ax _ _ ([]:List Int) 0 0 ah _ ?side7 (rc aa) (rl aa) (rc ad) (rl ad) ?side5 ?side6 A4.out).mono ?_);(case side5=>exact Kd.C_nil _ _);(case side6=>exact Nat.le_refl _);(case side7=>refine GL.below HG.out ?_;exact bQ HB);rintro e w19 ⟨rfl,hb⟩;replace ac:=rb ac hb;replace aa:=rb aa hb;replace ad:=rb ad hb;replace HB:=bs HB hb;(try clear hb);(try clear hk))|((with_reducible refine gate_dst (N:=27) rfl ?_);(try (refine gate_guard (by rfl) ?_;dsimp only));refine Kd.R_lit (Kd.int .u8) _ 5 ?hg (N:=27) ?hd (xs:=([2]:List Int)) (inner:=[.int .u8 2]) (ok:=fun _=>True) (okp:=fun _=>True) ?hr ?hp (fun _ hk=>hk) trivial (Below.refl _ _) (Nat.le_refl _) (by simp) ?_;(case hd=>rfl);(case hg=>rfl);(case hr=>first|(go_simp;done)|(go_simp;rfl));(case hp=>exact (Reps.one (show Kd.M (Kd.int .u8) _ _ _ 2 [.int .u8 2] from rfl) (Reps.none _ _)));intro aY w20 an hb hg_ hnew_;clear hg_ hnew_;(first|rw [← av.out] at an|(simp only [Int.reduceToNat] at an;rw [← av.out] at an));replace ac:=rb ac hb;replace aa:=rb aa hb;have ag:=zS (Kd.R_lower (Kd.R_new' an (Kd.R_lt (ro ad))) (bz HB));replace ad:=zS (Kd.R_elder' (ro ad) (Kd.R_base an) hb);replace HB:=bs HB hb;clear hb an;obtain ⟨aZ,a0,aG⟩:=Kd.R_slice ag.out;subst aG)|(go_at_call 27;clear tok_1;(refine (plur_Of.calls _ _ ai _ _ ay _ _ ([]:List Int) 0 0 ae _ ?side7 (rc aa) (rl aa) (rc ag) (rl ag) ?side5 ?side6 A6.out).mono ?_);(case side5=>exact Kd.C_nil _ _);(case side6=>exact Nat.le_refl _);(case side7=>refine GL.below HG.out ?_;exact bQ HB);rintro e w23 ⟨rfl,hb⟩;replace ac:=rb ac hb;replace aa:=rb aa hb;replace ad:=rb ad hb;replace ag:=rb ag hb;replace HB:=bs HB hb;(try clear hb);(try clear hk))|(go_at_call 17;(with_reducible refine (plur_Name.calls 2 af _ A8.out).mono ?_);rintro e w24 ⟨rfl,hb⟩;replace ac:=rb ac hb;replace aa:=rb aa hb;replace ad:=rb ad hb;replace ag:=rb ag hb;replace HB:=bs HB hb;(try clear hb);(try clear hb2);(try clear hk);(try clear hi))|(go_at_call 22;(with_reducible refine (plur_Right.calls k _ _ ai aj _ ?side3 (rc aa) (rl aa) A10.out).mono ?_);(case side3=>refine GL.below HG.out ?_;exact bQ HB);rintro e w25 ⟨rfl,hb⟩;replace ac:=rb ac hb;replace aa:=rb aa hb;replace ad:=rb ad hb;replace ag:=rb ag hb;replace HB:=bs HB hb;(try clear hb);(try clear hb2);(try clear hk);(try clear hi)))
 go_ret
 exact ⟨by first|rfl|(simp <;> rfl)|(simp [*] <;> rfl),bQ HB⟩
end Go.Proofs.YtgfajgkjbckkgaaGreatDoor.PZ
end
end
section
set_option maxRecDepth 100000
namespace Go.Proofs.YtgfajgkjbckkgaaGreatDoor.PZ
open Go.RowKit Go.Proofs.YtgfajgkjbckkgaaGreatDoorW.PrintWords Go.Proofs.YtgfajgkjbckkgaaGreatDoorW.PrintLast
theorem pw_dig {n:Int}(h0:0≤n)(h1:n<10):pw n=[48+n]:=by
 rw [pw_nat h0,digsN_small (by omega)]
 simp only [List.map_cons,List.map_nil,chr]
 congr 1;omega
theorem op_ok (l:List Int)(hl:l=[2,1]∨l=[1,1]∨l=[1]∨l=[2]):OpOk l [] 0 0:=by
 rcases hl with rfl|rfl|rfl|rfl <;> exact ⟨by unfold RightO;decide,by decide,by decide,by decide,by decide⟩
abbrev Tx:=S68
def nextB (last cat:Int):Bool:=decide (last<cat) && decide (cat≤5)
theorem next_f (a b:Int):plur_next.f a b=some (nextB a b):=by
 unfold plur_next.f nextB
 by_cases h:b>a
 · rw [if_pos h,zC (show a<b from h),Bool.true_and]
 rw [if_neg h,zD (show ¬ a<b from h),Bool.false_and]
theorem rd65 {l:List Ru}{i:Nat}(h:i<l.length):rd_T65 l (i:Int)=l[i]:=by
 unfold rd_T65
 simp [List.getD_eq_getElem?_getD,List.getElem?_eq_getElem h]
theorem rd68 {l:List Tx}{i:Nat}(h:i<l.length):rd_T68 l (i:Int)=l[i]:=by
 unfold rd_T68
 simp [List.getD_eq_getElem?_getD,List.getElem?_eq_getElem h]
def rightR:Int→List Ru→Bool
  | _,[]=>true
  | last,x :: l=>nextB last x.f0 && (rightP x.f1 && rightR x.f0 l)
theorem right_l0 {l:List Ru}(hl:∀ x ∈ l,TxtOk x.f1)(hn:l.length≤140737488355328)(n:Nat):∀ (i:Nat) (last:Int),i+n=l.length→Ev (fun k=>plur_Right.l0 k last l (l.length:Int) (i:Int)) (rightR last (l.drop i)):=by
 induction n with
 | zero=>
  intro i last hi
  have q1:¬ ((i:Nat):Int)<(l.length:Int):=by omega
  refine Ev_shift ?_
  simp only [plur_Right.l0,if_neg q1]
  rw [List.drop_of_length_le (by omega)]
  exact Ev.now _
 | succ n ih=>
  intro i last hi
  have hlt:i<l.length:=by omega
  have q1:((i:Nat):Int)<(l.length:Int):=by omega
  have q2:(0:Int)≤(i:Int):=by omega
  have wi:wrap64 ((i:Int)+1)=((i+1:Nat):Int):=by rw [w64 _ (by omega) (by omega)];omega
  refine Ev_shift ?_
  simp only [plur_Right.l0,if_pos q1,if_pos q2,rd65 hlt,next_f,Option.bind_some,wi]
  rw [drop_get hlt]
  simp only [rightR]
  cases hb:nextB last (l[i]).f0 with
  | false=>simp only [Bool.false_eq_true,if_false,Bool.false_and];exact Ev.now _
  | true=>
   simp only [if_true,Bool.true_and]
   refine Ev.bind (ruleRight11 (hl _ (List.getElem_mem hlt))) ?_
   cases hr:rightP (l[i]).f1 with
   | false=>simp only [Bool.false_eq_true,if_false,Bool.false_and];exact Ev.now _
   | true=>
    simp only [if_true,Bool.true_and]
    exact ih (i+1) _ (by omega)
theorem plurRight_ev {l:List Ru}(hl:∀ x ∈ l,TxtOk x.f1)(hn:l.length≤140737488355328):Ev (fun k=>plur_Right.f k l) (rightR 0 l):=by
 unfold plur_Right.f
 have:=right_l0 hl hn l.length 0 0 (by omega)
 rw [List.drop_zero] at this
 exact this
def readR:Int→Nat→List Ru→List Tx→List Ru×Int×Int
  | _,_,acc,[]=>(acc,0,0)
  | last,i,acc,x :: l=>if nextB last x.f0=true then (if (parseP (bytesOf x.f1)).2.2=0∧rightP (parseP (bytesOf x.f1)).1=true then readR x.f0 (i+1) (acc ++ [⟨x.f0,(parseP (bytesOf x.f1)).1⟩]) l else ([],(i:Int),2)) else ([],(i:Int),1)
theorem read_l0 {l:List Tx}(hl:∀ x ∈ l,x.f1.size≤140737488351232)(hn:l.length≤1000000)(n:Nat):∀ (i:Nat) (last:Int) (acc:List Ru),i+n=l.length→acc.length≤i→Ev (fun k=>plur_Read.l0 k acc last l (l.length:Int) (i:Int)) (readR last i acc (l.drop i)):=by
 induction n with
 | zero=>
  intro i last acc hi _
  have q1:¬ ((i:Nat):Int)<(l.length:Int):=by omega
  refine Ev_shift ?_
  simp only [plur_Read.l0,if_neg q1]
  rw [List.drop_of_length_le (by omega)]
  exact Ev.now _
 | succ n ih=>
  intro i last acc hi hacc
  have hlt:i<l.length:=by omega
  have q1:((i:Nat):Int)<(l.length:Int):=by omega
  have q2:(0:Int)≤(i:Int):=by omega
  have q3:acc.length<4398046511104:=by omega
  have wi:wrap64 ((i:Int)+1)=((i+1:Nat):Int):=by rw [w64 _ (by omega) (by omega)];omega
  refine Ev_shift ?_
  simp only [plur_Read.l0,if_pos q1,if_pos q2,rd68 hlt,next_f,Option.bind_some,wi]
  rw [drop_get hlt]
  simp only [readR]
  cases hb:nextB last (l[i]).f0 with
  | false=>simp only [Bool.false_eq_true,if_false];exact Ev.now _
  | true=>
   simp only [if_true,parse_f (hl _ (List.getElem_mem hlt)),Option.bind_some]
   have hg:=parse_good (bytesOf (l[i]).f1)
   by_cases he:(parseP (bytesOf (l[i]).f1)).2.2=0
   ·simp only [if_pos he]
    refine Ev.bind (ruleRight11 hg.txt) ?_
    by_cases hr:rightP (parseP (bytesOf (l[i]).f1)).1=true
    ·simp only [if_pos hr,if_pos q3,if_pos (show (parseP (bytesOf (l[i]).f1)).2.2=0∧rightP (parseP (bytesOf (l[i]).f1)).1=true from ⟨he,hr⟩)]
     exact ih (i+1) _ _ (by omega) (by rw [List.length_append];simp;omega)
    simp only [if_neg hr,if_neg (show ¬ ((parseP (bytesOf (l[i]).f1)).2.2=0∧rightP (parseP (bytesOf (l[i]).f1)).1=true) from fun h=>hr h.2)]
    exact Ev.now _
   simp only [if_neg he,if_neg (show ¬ ((parseP (bytesOf (l[i]).f1)).2.2=0∧rightP (parseP (bytesOf (l[i]).f1)).1=true) from fun h=>he h.1)]
   exact Ev.now _
theorem plurRead_ev {l:List Tx}(hl:∀ x ∈ l,x.f1.size≤140737488351232)(hn:l.length≤1000000):Ev (fun k=>plur_Read.f k l) (readR 0 0 [] l):=by
 unfold plur_Read.f
 have:=read_l0 hl hn l.length 0 0 [] (by omega) (by simp)
 rw [List.drop_zero] at this
 exact this
theorem readR_ok:∀ (l:List Tx) (last:Int) (i:Nat) (acc:List Ru),(readR last i acc l).2.2=0→(readR last i acc l).2.1=0∧∃ m,(readR last i acc l).1=acc ++ m∧m.map (·.f0)=l.map (·.f0)∧rightR last m=true∧∀ x ∈ m,GoodC x.f1
  | [],last,i,acc,_=>⟨rfl,[],by simp [readR],rfl,rfl,by simp⟩
  | x :: l,last,i,acc,h=>by
    simp only [readR] at h ⊢
    by_cases h1:nextB last x.f0=true
    · by_cases h2:(parseP (bytesOf x.f1)).2.2=0∧rightP (parseP (bytesOf x.f1)).1=true
      · simp only [if_pos h1,if_pos h2] at h ⊢
        obtain ⟨g1,m,g2,g3,g4,g5⟩:=readR_ok l _ _ _ h
        refine ⟨g1,⟨x.f0,(parseP (bytesOf x.f1)).1⟩ :: m,by rw [g2];simp,by simp [g3],by simp only [rightR,h1,h2.2,g4,Bool.and_self],?_⟩
        intro y hy
        rcases List.mem_cons.1 hy with rfl|hy
        · exact parse_good _
        · exact g5 y hy
      · simp only [if_pos h1,if_neg h2] at h;cases h
    · simp only [if_neg h1] at h;cases h
theorem readR_bad:∀ (l:List Tx) (last:Int) (i:Nat) (acc:List Ru),(readR last i acc l).2.2≠0→(readR last i acc l).1=[]∧∃ j:Nat,j<l.length∧(readR last i acc l).2.1=((i+j:Nat):Int)∧(readR last i acc (l.take j)).2.2=0∧(readR last i acc (l.take j)).1.length=acc.length+j
  | [],last,i,acc,h=>by simp [readR] at h
  | x :: l,last,i,acc,h=>by
    simp only [readR] at h ⊢
    by_cases h1:nextB last x.f0=true
    · by_cases h2:(parseP (bytesOf x.f1)).2.2=0∧rightP (parseP (bytesOf x.f1)).1=true
      · simp only [if_pos h1,if_pos h2] at h ⊢
        obtain ⟨g1,j,g2,g3,g4,g5⟩:=readR_bad l _ _ _ h
        refine ⟨g1,j+1,by simp;omega,by rw [g3];omega,?_,?_⟩
        · simp only [List.take_succ_cons,readR,if_pos h1,if_pos h2];exact g4
        · simp only [List.take_succ_cons,readR,if_pos h1,if_pos h2];rw [g5];simp;omega
      · simp only [if_pos h1,if_neg h2]
        exact ⟨by simp,0,by simp,by simp,by simp [readR],by simp [readR]⟩
    · simp only [if_neg h1]
      exact ⟨by simp,0,by simp,by simp,by simp [readR],by simp [readR]⟩
theorem short12_ev {l:List Tx}(hl:∀ x ∈ l,x.f1.size≤140737488351232)(hn:l.length≤140737488355328):∃ R,Ev (fun k=>exerguelaw12_short.f k l) R∧(R=true→l.length≤8∧∀ x ∈ l,x.f1.size≤500):=by
 unfold exerguelaw12_short.f
 have:∀ (n i:Nat),i+n=l.length→i≤8→(∀ x ∈ l.take i,x.f1.size≤500)→∃ R,Ev (fun k=>exerguelaw12_short.l0 k l (i:Int)) R∧(R=true→l.length≤8∧∀ x ∈ l,x.f1.size≤500):=by
  intro n
  induction n with
  | zero=>
   intro i hi h8 hs
   have q1:¬ ((i:Nat):Int)<(l.length:Int):=by omega
   rw [List.take_of_length_le (by omega)] at hs
   refine ⟨true,Ev_shift ?_,fun _=>⟨by omega,hs⟩⟩
   simp only [exerguelaw12_short.l0,if_neg q1]
   exact Ev.now _
  | succ n ih=>
   intro i hi h8 hs
   have hlt:i<l.length:=by omega
   have q1:((i:Nat):Int)<(l.length:Int):=by omega
   have q2:(0:Int)≤(i:Int):=by omega
   have wi:wrap64 ((i:Int)+1)=((i+1:Nat):Int):=by rw [w64 _ (by omega) (by omega)];omega
   by_cases h9:(i:Int)≥8
   ·refine ⟨false,Ev_shift ?_,fun h=>by cases h⟩
    simp only [exerguelaw12_short.l0,if_pos q1,if_pos h9]
    exact Ev.now _
   by_cases hb:((l[i]).f1.size:Int)>500
   ·refine ⟨false,Ev_shift ?_,fun h=>by cases h⟩
    simp only [exerguelaw12_short.l0,if_pos q1,if_neg h9,if_pos q2,rd68 hlt,if_pos hb]
    exact Ev.now _
   obtain ⟨R,hR1,hR2⟩:=ih (i+1) (by omega) (by omega) (fun x hx=>by
    rw [List.take_succ_eq_append_getElem hlt] at hx
    rcases List.mem_append.1 hx with hx|hx
    · exact hs x hx
    rw [List.mem_singleton.1 hx];omega)
   refine ⟨R,Ev_shift ?_,hR2⟩
   simp only [exerguelaw12_short.l0,if_pos q1,if_neg h9,if_pos q2,rd68 hlt,if_neg hb,wi]
   exact hR1
 exact this l.length 0 (by omega) (by omega) (by simp)
def catX (i f:List Int)(w c:Int)(l:List Ru):Int:=(hlist (fun x=>condX i f w c x.f1) l).headD 0
theorem catX_nil (i f:List Int)(w c:Int):catX i f w c []=0:=rfl
theorem catX_cons (i f:List Int)(w c:Int)(x:Ru)(l:List Ru):catX i f w c (x :: l)=if condX i f w c x.f1=true then x.f0 else catX i f w c l:=by
 unfold catX hlist
 by_cases h:condX i f w c x.f1=true
 · rw [List.filter_cons_of_pos (by exact h),if_pos h];rfl
 rw [List.filter_cons_of_neg (by exact h),if_neg h]
theorem plurOf_f {i f:List Int}{w c:Int}(h:OpOk i f w c){l:List Ru}(hx:∀ x ∈ l,GoodC x.f1):plur_Of.f l i f w c=some (catX i f w c l):=by
 have e:∀ x ∈ l,rule_Holds.f x.f1 i f w c=some (condX i f w c x.f1):=fun x hl=>holds_f h (hx x hl).num
 unfold plur_Of.f
 rw [if_pos (fun x hl=>by rw [e x hl];rfl)]
 congr 1
 unfold catX hlist
 congr 2
 refine List.filter_congr (fun x hl=>?_)
 rw [e x hl]
 simp
theorem rightR_good:∀ {l:List Ru} {last:Int},rightR last l=true→∀ x ∈ l,GoodC x.f1
  | [],_,_,_,h=>by cases h
  | y :: l,last,h,x,hx=>by
    simp only [rightR,Bool.and_eq_true] at h
    rcases List.mem_cons.1 hx with rfl|hx
    · exact right_good h.2.1
    · exact rightR_good h.2.2 x hx
def sh12:List Ru:=[⟨2,[[⟨110,0,false,[⟨1,1⟩]⟩]]⟩]
theorem sh12_text:condT [32] [[⟨110,0,false,[⟨1,1⟩]⟩]]=[110,32,61,32,49]:=by
 unfold condT rowT relT rgT joinT
 simp only [List.map_cons,List.map_nil,pw_dig (show (0:Int)≤1 by decide) (by decide)]
 decide
theorem sh12_parse:parseP [110,32,61,32,49]=([[⟨110,0,false,[⟨1,1⟩]⟩]],0,0):=by decide +kernel
theorem sh12_right:rightP [[⟨110,0,false,[⟨1,1⟩]⟩]]=true:=by
 unfold rightP
 rw [sh12_text,sh12_parse]
 decide
theorem sh12_read:readR 0 0 [] [(⟨2,(⟨#[110,32,61,32,49]⟩:ByteArray)⟩:Tx)]=(sh12,0,0):=by
 have e:bytesOf (⟨#[110,32,61,32,49]⟩:ByteArray)=[110,32,61,32,49]:=by decide
 have h1:nextB 0 2=true:=by decide
 simp only [readR,h1,if_true,e,sh12_parse,sh12_right,and_self,List.nil_append]
 rfl
theorem sh12_rightR:rightR 0 sh12=true:=by
 simp only [rightR,sh12,sh12_right]
 decide
theorem shown12_ev:Ev (fun k=>exerguelaw12_shown.f k) true:=by
 have hg:=rightR_good sh12_rightR
 have h1:=plurOf_f (op_ok [1] (by simp)) hg
 have h2:=plurOf_f (op_ok [2] (by simp)) hg
 rw [show catX [1] [] 0 0 sh12=2 from by decide] at h1
 rw [show catX [2] [] 0 0 sh12=0 from by decide] at h2
 have q1:(sh12.length:Int)=1:=by decide
 have hread:=plurRead_ev (l:=[(⟨2,(⟨#[110,32,61,32,49]⟩:ByteArray)⟩:Tx)]) (by intro x hx;rw [List.mem_singleton.1 hx];decide) (by simp)
 rw [sh12_read] at hread
 have hname:plur_Name.f 2=some (⟨#[111,110,101]⟩:ByteArray):=rfl
 have e2:((⟨#[111,110,101]⟩:ByteArray)).toList=([111,110,101]:List UInt8):=by rw [ByteArray.toList_eq]
 unfold exerguelaw12_shown.f
 refine Ev.bind hread ?_
 simp only [if_true,if_pos q1,h1,h2,Option.bind_some,hname,if_pos e2]
 have:=plurRight_ev (l:=sh12) (fun x hx=>(hg x hx).txt) (by simp [sh12])
 rw [sh12_rightR] at this
 exact Ev.bind this (Ev.now _)
theorem same12_l0 {a b:List Ru}(ha:∀ x ∈ a,LenOk x.f1)(hn:a.length≤140737488355328)(hl:a.length=b.length)(n:Nat):∀ i:Nat,i+n=a.length→Ev (fun k=>exergueref12_Same.l0 k a b (i:Int)) (decide (a.drop i=b.drop i)):=by
 induction n with
 | zero=>
  intro i hi
  have q1:¬ ((i:Nat):Int)<(a.length:Int):=by omega
  have e:decide (a.drop i=b.drop i)=true:=zC (by rw [List.drop_of_length_le (by omega),List.drop_of_length_le (by omega)])
  refine Ev_shift ?_
  simp only [exergueref12_Same.l0,if_neg q1,e]
  exact Ev.now _
 | succ n ih=>
  intro i hi
  have hlt:i<a.length:=by omega
  have hlt2:i<b.length:=by omega
  have q1:((i:Nat):Int)<(a.length:Int):=by omega
  have q2:(0:Int)≤(i:Int):=by omega
  have q3:((i:Nat):Int)<(b.length:Int):=by omega
  have wi:wrap64 ((i:Int)+1)=((i+1:Nat):Int):=by rw [w64 _ (by omega) (by omega)];omega
  have e1:decide (a.drop i=b.drop i)=(decide (a[i]=b[i]) && decide (a.drop (i+1)=b.drop (i+1))):=by
   rw [drop_get hlt,drop_get hlt2,Bool.eq_iff_iff,Bool.and_eq_true,decide_eq_true_eq,decide_eq_true_eq,decide_eq_true_eq,List.cons.injEq]
  have hnext:=ih (i+1) (by omega)
  have hla:=ha _ (List.getElem_mem hlt)
  have sa:=rd65 hlt
  have sb:=rd65 hlt2
  rw [e1]
  generalize a[i]=x at *
  generalize b[i]=y at *
  refine Ev_shift ?_
  simp only [exergueref12_Same.l0,if_pos q1,if_pos q2,if_pos q3,sa,sb,wi]
  refine Ev.bind (same_ev11 (b:=y.f1) hla) ?_
  by_cases h1:x.f1=y.f1
  ·simp only [zC h1,if_true]
   by_cases h0:x.f0=y.f0
   ·have h:x=y:=by cases x;cases y;simp_all
    simp only [if_pos h0,zC h,Bool.true_and]
    exact hnext
   have h:x≠y:=fun h=>h0 (by rw [h])
   simp only [if_neg h0,zD h,Bool.false_and]
   exact Ev.now _
  have h:x≠y:=fun h=>h1 (by rw [h])
  simp only [zD h1,zD h,Bool.false_eq_true,if_false,Bool.false_and]
  exact Ev.now _
theorem same12_ev {a b:List Ru}(ha:∀ x ∈ a,LenOk x.f1)(hn:a.length≤140737488355328):Ev (fun k=>exergueref12_Same.f k a b) (decide (a=b)):=by
 unfold exergueref12_Same.f
 by_cases h:(a.length:Int)=(b.length:Int)
 ·simp only [if_pos h]
  exact same12_l0 ha hn (by omega) a.length 0 (by omega)
 have hne:decide (a=b)=false:=zD (fun z=>h (by rw [z]))
 simp only [if_neg h,hne]
 exact Ev.now _
def prevT (l:List Tx)(i:Nat):Int:=if i=0 then 0 else (l.getD (i - 1) ⟨0,⟨#[]⟩⟩).f0
theorem refRead_l0 {l:List Tx}(hl:∀ x ∈ l,x.f1.size≤140737488351232)(hn:l.length≤1000000)(n:Nat):∀ (i:Nat) (acc:List Ru),i+n=l.length→acc.length≤i→0≤prevT l i→Ev (fun k=>exergueref12_Read.l0 k l acc (i:Int)) (readR (prevT l i) i acc (l.drop i)):=by
 induction n with
 | zero=>
  intro i acc hi _ _
  have q1:¬ ((i:Nat):Int)<(l.length:Int):=by omega
  refine Ev_shift ?_
  simp only [exergueref12_Read.l0,if_neg q1]
  rw [List.drop_of_length_le (by omega)]
  exact Ev.now _
 | succ n ih=>
  intro i acc hi hacc hp
  have hlt:i<l.length:=by omega
  have q1:((i:Nat):Int)<(l.length:Int):=by omega
  have q2:(0:Int)≤(i:Int):=by omega
  have q3:acc.length<4398046511104:=by omega
  have wi:wrap64 ((i:Int)+1)=((i+1:Nat):Int):=by rw [w64 _ (by omega) (by omega)];omega
  have hpn:prevT l (i+1)=(l[i]).f0:=by unfold prevT;rw [if_neg (by omega)];simp [List.getD_eq_getElem?_getD,hlt]
  rw [drop_get hlt]
  have off:nextB (prevT l i) (l[i]).f0=false→Ev (fun k=>exergueref12_Read.j1 k l acc (i:Int) true) (readR (prevT l i) i acc (l[i] :: l.drop (i+1))):=by
   intro hb
   refine Ev_shift ?_
   simp only [exergueref12_Read.j1,if_true,readR,hb,Bool.false_eq_true,if_false]
   exact Ev.now _
  have on_:nextB (prevT l i) (l[i]).f0=true→Ev (fun k=>exergueref12_Read.j1 k l acc (i:Int) false) (readR (prevT l i) i acc (l[i] :: l.drop (i+1))):=by
   intro hb
   have hpos:0≤(l[i]).f0:=by unfold nextB at hb;simp at hb;omega
   have hg:=parse_good (bytesOf (l[i]).f1)
   refine Ev_shift ?_
   simp only [exergueref12_Read.j1,Bool.false_eq_true,if_false,if_pos q2,if_pos q1,rd68 hlt,wi,readR,hb,if_true]
   refine Ev.bind (refParse_ev _) ?_
   refine Ev.bind (refRight11 hg.txt hg.len) ?_
   by_cases he:(parseP (bytesOf (l[i]).f1)).2.2=0
   ·by_cases hr:rightP (parseP (bytesOf (l[i]).f1)).1=true
    ·simp only [if_pos he,if_pos hr,if_pos q3,if_pos (show (parseP (bytesOf (l[i]).f1)).2.2=0∧rightP (parseP (bytesOf (l[i]).f1)).1=true from ⟨he,hr⟩)]
     have:=ih (i+1) (acc ++ [⟨(l[i]).f0,(parseP (bytesOf (l[i]).f1)).1⟩]) (by omega) (by rw [List.length_append];simp;omega) (by rw [hpn];exact hpos)
     rw [hpn] at this
     exact this
    simp only [if_pos he,if_neg hr,if_neg (show ¬ ((parseP (bytesOf (l[i]).f1)).2.2=0∧rightP (parseP (bytesOf (l[i]).f1)).1=true) from fun h=>hr h.2)]
    exact Ev.now _
   simp only [if_neg he,if_neg (show ¬ ((parseP (bytesOf (l[i]).f1)).2.2=0∧rightP (parseP (bytesOf (l[i]).f1)).1=true) from fun h=>he h.1)]
   exact Ev.now _
  refine Ev_shift ?_
  simp only [exergueref12_Read.l0,if_pos q1,if_pos q2,rd68 hlt]
  by_cases h1:(l[i]).f0<1
  ·simp only [if_pos h1]
   exact off (by unfold nextB;rw [zD (by omega)];rfl)
  by_cases h5:(l[i]).f0>5
  ·simp only [if_neg h1,if_pos h5]
   exact off (by unfold nextB;rw [zD (show ¬ (l[i]).f0≤5 by omega),Bool.and_false])
  simp only [if_neg h1,if_neg h5]
  by_cases h0:i=0
  ·subst h0
   have q4:¬ ((0:Nat):Int)>0:=by omega
   simp only [if_neg q4]
   exact on_ (by unfold nextB prevT;simp;omega)
  have q4:((i:Nat):Int)>0:=by omega
  have w1:wrap64 ((i:Int) - 1)=((i - 1:Nat):Int):=by rw [w64 _ (by omega) (by omega)];omega
  have q5:(0:Int)≤((i - 1:Nat):Int):=by omega
  have q6:((i - 1:Nat):Int)<(l.length:Int):=by omega
  have hpv:(l[i - 1]).f0=prevT l i:=by unfold prevT;rw [if_neg h0];simp [List.getD_eq_getElem?_getD,show i - 1<l.length by omega]
  simp only [if_pos q4,w1,if_pos q5,if_pos q6,rd68 (show i - 1<l.length by omega),hpv]
  by_cases hle:(l[i]).f0≤prevT l i
  ·rw [zC hle]
   exact off (by unfold nextB;rw [zD (by omega)];rfl)
  rw [zD hle]
  exact on_ (by unfold nextB;rw [zC (by omega),zC (by omega)];rfl)
theorem refRead12_ev {l:List Tx}(hl:∀ x ∈ l,x.f1.size≤140737488351232)(hn:l.length≤1000000):Ev (fun k=>exergueref12_Read.f k l) (readR 0 0 [] l):=by
 unfold exergueref12_Read.f
 have:=refRead_l0 hl hn l.length 0 [] (by omega) (by simp) (by simp [prevT])
 rw [List.drop_zero] at this
 exact this
theorem readR_good (l:List Tx):∀ x ∈ (readR 0 0 [] l).1,GoodC x.f1:=by
 by_cases h:(readR 0 0 [] l).2.2=0
 ·obtain ⟨_,m,h2,_,_,h5⟩:=readR_ok l 0 0 [] h
  rw [h2];simpa using h5
 rw [(readR_bad l 0 0 [] h).1];simp
theorem readR_len {l:List Tx}(hn:l.length≤1000000):(readR 0 0 [] l).1.length≤140737488355328:=by
 by_cases h:(readR 0 0 [] l).2.2=0
 ·obtain ⟨_,m,h2,h3,_,_⟩:=readR_ok l 0 0 [] h
  have:=congrArg List.length h3
  rw [List.length_map,List.length_map] at this
  rw [h2];simp;omega
 rw [(readR_bad l 0 0 [] h).1];simp
end Go.Proofs.YtgfajgkjbckkgaaGreatDoor.PZ
end
