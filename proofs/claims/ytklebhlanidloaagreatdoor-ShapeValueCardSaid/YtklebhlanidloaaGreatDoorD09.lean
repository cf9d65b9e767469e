/- Texts of this seat, joined. Conditions: none beyond each statement's own. -/
import Derived.Test.YtklebhlanidloaaGreatDoorD07
set_option linter.all false
section
noncomputable section
namespace Go.Proofs.YtklebhlanidloaaGreatDoor.PZ
open Go.RowKit Go.Proofs.YtklebhlanidloaaGreatDoorW.PrintWords Go.Proofs.YtklebhlanidloaaGreatDoorW.PrintLast Go.Proofs.YtklebhlanidloaaGreatDoorW.PrintMore
attribute [local go_sem] max2_int min2_int max_two min_two max_three min_three max_four min_four   -- for this text's walks alone
def dec_Right.f (aK:Bool)(ab:List Int)(aA:Int):Option (Bool):=if (ab.length:Int)=0 then (some (aA == 0)) else (if (ab.length:Int)≤1000 then ((slices_ContainsFunc_byte_byte.f ab 81).bind fun be=>(if be=true then (some false) else (if 0<(ab.length:Int) then (if (rd ab 0)=0 then (some false) else (if 0≤(wrap64 ((ab.length:Int) - 1)) then (if (wrap64 ((ab.length:Int) - 1))<(ab.length:Int) then (if (rd ab (wrap64 ((ab.length:Int) - 1)))=0 then (some false) else ((dec_tooFar.f aA 1000).bind fun a5=>(some (!a5)))) else (none)) else (none))) else (none)))) else (some false))
set_option maxHeartbeats 8000000 in
set_option maxRecDepth 100000 in
theorem dec_Right.calls (aK:Bool)(aR:Option Addr)(aS:Nat)(ab:List Int)(aA:Int)(r:Bool)(w:World)(bE:Kd.C (Kd.int .u8) w aR ab.length ab)(bF:ab.length≤aS)(h:dec_Right.f aK ab aA=some r) :
  Calls Tryz.prog 84 #[.agg #[.bool aK,.slice aR ab.length aS,.int .i64 aA]] w fun e w'=>e = .returned (.bool r)∧Below w.heap.size w w':=by
 have hu29:=Tryz.underlying29
 have aB:=zS bE
 have a9:=zS bF
 clear bE bF
 have HB:=zS (Below.refl w.heap.size w)
 have H:(if (ab.length:Int)=0 then (some (aA == 0)) else (if (ab.length:Int)≤1000 then ((slices_ContainsFunc_byte_byte.f ab 81).bind fun be=>(if be=true then (some false) else (if 0<(ab.length:Int) then (if (rd ab 0)=0 then (some false) else (if 0≤(wrap64 ((ab.length:Int) - 1)) then (if (wrap64 ((ab.length:Int) - 1))<(ab.length:Int) then (if (rd ab (wrap64 ((ab.length:Int) - 1)))=0 then (some false) else ((dec_tooFar.f aA 1000).bind fun a5=>(some (!a5)))) else (none)) else (none))) else (none)))) else (some false)))=some r:=h
 clear h
 by_cases c2:(ab.length:Int)=0
 ·rw [if_pos c2] at H
  have bR:((ab.length:Int) == 0)=true:=zH c2
  have cr:((ab.length:Int) != 0)=false:=zG c2
  clear c2
  obtain rfl:=zE H
  go_enter Tryz.func84,Tryz.ntmps84
  go_wp2_with (first|((with_reducible refine gate_dst (N:=1) rfl ?_);refine box_event ?hg (N:=1) ?hd (cs:=#[.bool aK,.slice aR ab.length aS,.int .i64 aA]) (t:=29) ?hr ?_;(case hd=>rfl);(case hg=>rfl);(case hr=>first|(go_simp;done)|(go_simp;rfl));intro aT hg w3 hbox hb;have ac:=zS (hbox);have aU:=bg HB hg;replace HB:=bs HB hb;clear hb hbox hg;have dD:=blkc3 ac.out;have dE:=blkf3 ac.out))
  go_ret
  exact ⟨by first|rfl|(simp <;> rfl)|(simp [*] <;> rfl),bl HB⟩
 rw [if_neg c2] at H
 have bR:((ab.length:Int) == 0)=false:=zF c2
 have cr:((ab.length:Int) != 0)=true:=zI c2
 have dF:¬ (ab=[]):=fun h_=>c2 (by rw [h_];rfl)
 by_cases c5:(ab.length:Int)≤1000
 rotate_left
 ·rw [if_neg c5] at H
  have bB:=zD c5
  have ct:decide (ab.length≤1000)=false:=zD (by omega)
  clear c5
  obtain rfl:=zE H
  go_enter Tryz.func84,Tryz.ntmps84
  go_wp2_with (first|((with_reducible refine gate_dst (N:=1) rfl ?_);refine box_event ?hg (N:=1) ?hd (cs:=#[.bool aK,.slice aR ab.length aS,.int .i64 aA]) (t:=29) ?hr ?_;(case hd=>rfl);(case hg=>rfl);(case hr=>first|(go_simp;done)|(go_simp;rfl));intro aT hg w30 hbox hb;have ac:=zS (hbox);have aU:=bg HB hg;replace HB:=bs HB hb;clear hb hbox hg;have bG:=blkc3 ac.out;have bH:=blkf3 ac.out))
  go_ret
  exact ⟨by first|rfl|(simp <;> rfl)|(simp [*] <;> rfl),bl HB⟩
 rw [if_pos c5] at H
 have bB:=zC c5
 have ct:decide (ab.length≤1000)=true:=zC (by omega)
 clear c5
 replace H:=Option.bind_eq_some_iff.mp H
 obtain ⟨be,A60,H⟩:=H
 try dsimp only at H
 have A6:=zS A60
 clear A60
 by_cases c7:be=true
 ·subst c7
  rw [if_pos rfl] at H
  obtain rfl:=zE H
  go_enter Tryz.func84,Tryz.ntmps84
  go_wp2_with (first|((with_reducible refine gate_dst (N:=1) rfl ?_);refine box_event ?hg (N:=1) ?hd (cs:=#[.bool aK,.slice aR ab.length aS,.int .i64 aA]) (t:=29) ?hr ?_;(case hd=>rfl);(case hg=>rfl);(case hr=>first|(go_simp;done)|(go_simp;rfl));intro aT hg w8 hbox hb;have ac:=zS (hbox);have aU:=bg HB hg;replace HB:=bs HB hb;clear hb hbox hg;have dG:=blkc3 ac.out;have dH:=blkf3 ac.out)|(go_at_call 80;(with_reducible refine (slices_ContainsFunc_byte_byte.calls _ _ ab 81 true _ (cb aB HB) a9.out A6.out).mono ?_);rintro e w10 ⟨rfl,hb⟩;replace ac:=kb ac hb;replace HB:=bs HB hb;(try clear hb)))
  go_ret
  exact ⟨by first|rfl|(simp <;> rfl)|(simp [*] <;> rfl),bl HB⟩
 replace c7:=Bool.eq_false_iff.mpr c7
 subst c7
 rw [if_neg (show ¬ (false=true) by decide)] at H
 by_cases c11:0<(ab.length:Int)
 rotate_left
 ·rw [if_neg c11] at H
  exact absurd H (by simp)
 rw [if_pos c11] at H
 have cM:=zC c11
 have cN:decide (0<ab.length)=true:=zC (by omega)
 clear c11
 by_cases c12:(rd ab 0)=0
 ·rw [if_pos c12] at H
  have b5:((rd ab 0) == 0)=true:=zH c12
  have b6:((rd ab 0) != 0)=false:=zG c12
  clear c12
  obtain rfl:=zE H
  go_enter Tryz.func84,Tryz.ntmps84
  go_wp2_with (first|((with_reducible refine gate_dst (N:=1) rfl ?_);refine box_event ?hg (N:=1) ?hd (cs:=#[.bool aK,.slice aR ab.length aS,.int .i64 aA]) (t:=29) ?hr ?_;(case hd=>rfl);(case hg=>rfl);(case hr=>first|(go_simp;done)|(go_simp;rfl));intro aT hg w13 hbox hb;have ac:=zS (hbox);have aU:=bg HB hg;replace HB:=bs HB hb;clear hb hbox hg;have cO:=blkc3 ac.out;have cP:=blkf3 ac.out)|(go_at_call 80;(with_reducible refine (slices_ContainsFunc_byte_byte.calls _ _ ab 81 false _ (cb aB HB) a9.out A6.out).mono ?_);rintro e w15 ⟨rfl,hb⟩;replace ac:=kb ac hb;replace HB:=bs HB hb;(try clear hb);have cQ:=blkc3 ac.out;have cR:=blkf3 ac.out;have aD:0≤(0:Int):=(by omega);have aE:0<(ab.length:Int):=zB (by first|(with_reducible assumption)|assumption);obtain ⟨ba,bf,ae⟩:=Kd.at_int aB.out 0 aD aE;cases bf;have qi103:(0<ab.length)=True:=eq_true (by omega);(try rw [show ((0:Int)).toNat=0 from rfl] at ae);(try rw [Addr.add_zero'] at ae);replace ae:=(HB.out.cell (World.block_lt_of_cell? w _ ae)).trans ae;replace aD:=eq_true aD;replace aE:=eq_true aE))
  go_ret
  exact ⟨by first|rfl|(simp <;> rfl)|(simp [*] <;> rfl),bl HB⟩
 rw [if_neg c12] at H
 have b5:((rd ab 0) == 0)=false:=zF c12
 have b6:((rd ab 0) != 0)=true:=zI c12
 obtain ⟨av,aJ⟩:∃ j_:Int,(wrap64 ((ab.length:Int) - 1))=j_:=⟨_,rfl⟩
 replace H:(if 0≤(av) then (if (av)<(ab.length:Int) then (if (rd ab (av))=0 then (some false) else ((dec_tooFar.f aA 1000).bind fun a5=>(some (!a5)))) else (none)) else (none))=some r:=by first|(rw [aJ] at H;exact H)|(simp only [aJ] at H ⊢;exact H)
 (try rw [aJ] at A6)
 have cu:(IntKind.i64.wrap ((ab.length:Int) - 1))=av:=(i64_w _).trans aJ
 by_cases c18:0≤(av)
 rotate_left
 ·rw [if_neg c18] at H
  exact absurd H (by simp)
 rw [if_pos c18] at H
 have cS:=zC c18
 clear c18
 by_cases c19:(av)<(ab.length:Int)
 rotate_left
 ·rw [if_neg c19] at H
  exact absurd H (by simp)
 rw [if_pos c19] at H
 have cT:=zC c19
 clear c19
 by_cases c20:(rd ab (av))=0
 ·rw [if_pos c20] at H
  have aC:((rd ab (av)) == 0)=true:=zH c20
  have aF:((rd ab (av)) != 0)=false:=zG c20
  clear c20
  obtain rfl:=zE H
  go_enter Tryz.func84,Tryz.ntmps84
  go_wp2_with (first|((with_reducible refine gate_dst (N:=1) rfl ?_);refine box_event ?hg (N:=1) ?hd (cs:=#[.bool aK,.slice aR ab.length aS,.int .i64 aA]) (t:=29) ?hr ?_;(case hd=>rfl);(case hg=>rfl);(case hr=>first|(go_simp;done)|(go_simp;rfl));intro aT hg w21 hbox hb;have ac:=zS (hbox);have aU:=bg HB hg;replace HB:=bs HB hb;clear hb hbox hg;have cU:=blkc3 ac.out;have cV:=blkf3 ac.out)|(go_at_call 80;(with_reducible refine (slices_ContainsFunc_byte_byte.calls _ _ ab 81 false _ (cb aB HB) a9.out A6.out).mono ?_);rintro e w23 ⟨rfl,hb⟩;replace ac:=kb ac hb;replace HB:=bs HB hb;(try clear hb);have cW:=blkc3 ac.out;have cX:=blkf3 ac.out;have aD:0≤(0:Int):=(by omega);have aE:0<(ab.length:Int):=zB (by first|(with_reducible assumption)|assumption);obtain ⟨ba,bf,ae⟩:=Kd.at_int aB.out 0 aD aE;cases bf;have qi103:(0<ab.length)=True:=eq_true (by omega);(try rw [show ((0:Int)).toNat=0 from rfl] at ae);(try rw [Addr.add_zero'] at ae);replace ae:=(HB.out.cell (World.block_lt_of_cell? w _ ae)).trans ae;replace aD:=eq_true aD;replace aE:=eq_true aE;have a6:0≤((av):Int):=zB (by first|(with_reducible assumption)|assumption);have a7:(av)<(ab.length:Int):=zB (by first|(with_reducible assumption)|assumption);obtain ⟨bh,bS,aq⟩:=Kd.at_int aB.out (av) a6 a7;obtain rfl:ba=bh:=(by injection bS);replace aq:=(HB.out.cell (World.block_lt_of_cell? w _ aq)).trans aq;replace a6:=eq_true a6;replace a7:=eq_true a7))
  go_ret
  exact ⟨by first|rfl|(simp <;> rfl)|(simp only [← aJ];first|rfl|(simp <;> rfl))|(simp [*] <;> rfl),bl HB⟩
 rw [if_neg c20] at H
 have aC:((rd ab (av)) == 0)=false:=zF c20
 have aF:((rd ab (av)) != 0)=true:=zI c20
 replace H:=Option.bind_eq_some_iff.mp H
 obtain ⟨a5,b7,H⟩:=H
 try dsimp only at H
 have A25:=zS b7
 clear b7
 obtain rfl:=zE H
 go_enter Tryz.func84,Tryz.ntmps84
 go_wp2_with (first|((with_reducible refine gate_dst (N:=1) rfl ?_);refine box_event ?hg (N:=1) ?hd (cs:=#[.bool aK,.slice aR ab.length aS,.int .i64 aA]) (t:=29) ?hr ?_;(case hd=>rfl);(case hg=>rfl);(case hr=>first|(go_simp;done)|(go_simp;rfl));intro aT hg w26 hbox hb;have ac:=zS (hbox);have aU:=bg HB hg;replace HB:=bs HB hb;clear hb hbox hg;have cY:=blkc3 ac.out;have cZ:=blkf3 ac.out)|(go_at_call 80;(with_reducible refine (slices_ContainsFunc_byte_byte.calls _ _ ab 81 false _ (cb aB HB) a9.out A6.out).mono ?_);rintro e w28 ⟨rfl,hb⟩;replace ac:=kb ac hb;replace HB:=bs HB hb;(try clear hb);have c0:=blkc3 ac.out;have da:=blkf3 ac.out;have aD:0≤(0:Int):=(by omega);have aE:0<(ab.length:Int):=zB (by first|(with_reducible assumption)|assumption);obtain ⟨ba,bf,ae⟩:=Kd.at_int aB.out 0 aD aE;cases bf;have qi103:(0<ab.length)=True:=eq_true (by omega);(try rw [show ((0:Int)).toNat=0 from rfl] at ae);(try rw [Addr.add_zero'] at ae);replace ae:=(HB.out.cell (World.block_lt_of_cell? w _ ae)).trans ae;replace aD:=eq_true aD;replace aE:=eq_true aE;have a6:0≤((av):Int):=zB (by first|(with_reducible assumption)|assumption);have a7:(av)<(ab.length:Int):=zB (by first|(with_reducible assumption)|assumption);obtain ⟨bh,bS,aq⟩:=Kd.at_int aB.out (av) a6 a7;obtain rfl:ba=bh:=(by injection bS);replace aq:=(HB.out.cell (World.block_lt_of_cell? w _ aq)).trans aq;replace a6:=eq_true a6;replace a7:=eq_true a7)|(go_at_call 82;(with_reducible refine (dec_tooFar.calls aA 1000 a5 _ A25.out).mono ?_);rintro e w' ⟨rfl,⟨nd,rfl⟩⟩))
 go_ret
 exact ⟨by first|rfl|(simp <;> rfl)|(simp only [← aJ];first|rfl|(simp <;> rfl))|(simp [*] <;> rfl),bl HB⟩
mutual
def dec_Norm.j1:Nat→List Int→Int→Bool→Int→Option (Bool×List Int×Int×Int)
 | 0,_,_,_,_=>none
 | k+1,x1,x2,ak,ap=>if (x1.length:Int)=0 then (some (ak,([]:List Int),ap,0)) else (dec_Norm.l1 k x1 x2 ak ap)
def dec_Norm.l1:Nat→List Int→Int→Bool→Int→Option (Bool×List Int×Int×Int)
 | 0,_,_,_,_=>none
 | k+1,x1,x2,ak,ap=>if 0≤(wrap64 ((x1.length:Int) - 1)) then (if (wrap64 ((x1.length:Int) - 1))<(x1.length:Int) then (if (rd x1 (wrap64 ((x1.length:Int) - 1)))=0 then (if (wrap64 ((x1.length:Int) - 1))≤(x1.length:Int) then (dec_Norm.l1 k (x1.take ((wrap64 ((x1.length:Int) - 1)):Int).toNat) (wrap64 (x2+1)) ak ap) else (none)) else ((slices_Clone_byte_byte.f x1).bind fun al=>((dec_Right.f ak al x2).bind fun bi=>(if bi=true then (some (ak,al,x2,0)) else (some (false,([]:List Int),0,11)))))) else (none)) else (none)
def dec_Norm.l0:Nat→List Int→Int→Bool→Int→Option (Bool×List Int×Int×Int)
 | 0,_,_,_,_=>none
 | k+1,x1,x2,ak,ap=>if (x1.length:Int)>0 then (if 0<(x1.length:Int) then (if (rd x1 0)=0 then (if 1≤(x1.length:Int) then (dec_Norm.l0 k (x1.drop 1) x2 ak ap) else (none)) else (dec_Norm.j1 k x1 x2 ak ap)) else (none)) else (dec_Norm.j1 k x1 x2 ak ap)
end
def dec_Norm.f (k:Nat)(a0:Bool)(l1:List Int)(a2:Int):Option (Bool×List Int×Int×Int):=(slices_ContainsFunc_byte_byte.f l1 81).bind fun bj=>(if bj=true then (some (false,([]:List Int),0,1)) else ((dec_tooFar.f a2 1099511627776).bind fun bk=>(if bk=true then (some (false,([]:List Int),0,11)) else (dec_Norm.l0 k l1 a2 a0 0))))
theorem dec_Norm.mono_l:∀ k,(∀ y0 y1 y2 y3,LeO (dec_Norm.j1 k y0 y1 y2 y3) (dec_Norm.j1 (k+1) y0 y1 y2 y3))∧(∀ y0 y1 y2 y3,LeO (dec_Norm.l1 k y0 y1 y2 y3) (dec_Norm.l1 (k+1) y0 y1 y2 y3))∧(∀ y0 y1 y2 y3,LeO (dec_Norm.l0 k y0 y1 y2 y3) (dec_Norm.l0 (k+1) y0 y1 y2 y3))
 | 0=>⟨fun _ _ _ _ r h=>by simp [dec_Norm.j1] at h,fun _ _ _ _ r h=>by simp [dec_Norm.l1] at h,fun _ _ _ _ r h=>by simp [dec_Norm.l0] at h⟩
 | k+1=>by
  obtain ⟨ih0,ih1,ih2⟩:=dec_Norm.mono_l k
  refine ⟨?_,?_,?_⟩
  ·intro y0 y1 y2 y3
   unfold dec_Norm.j1
   repeat' first|(with_reducible first|apply ih0|apply ih1|apply ih2|apply LeO.refl|apply LeO.none|refine LeO.ite ?_ ?_|refine LeO.bind ?_ (fun _=>?_))|apply ih0|apply ih1|apply ih2|apply LeO.none
  ·intro y0 y1 y2 y3
   unfold dec_Norm.l1
   repeat' first|(with_reducible first|apply ih0|apply ih1|apply ih2|apply LeO.refl|apply LeO.none|refine LeO.ite ?_ ?_|refine LeO.bind ?_ (fun _=>?_))|apply ih0|apply ih1|apply ih2|apply LeO.none
  ·intro y0 y1 y2 y3
   unfold dec_Norm.l0
   repeat' first|(with_reducible first|apply ih0|apply ih1|apply ih2|apply LeO.refl|apply LeO.none|refine LeO.ite ?_ ?_|refine LeO.bind ?_ (fun _=>?_))|apply ih0|apply ih1|apply ih2|apply LeO.none
theorem dec_Norm.mono:∀ a0 a1 a2 k,LeO (dec_Norm.f k a0 a1 a2) (dec_Norm.f (k+1) a0 a1 a2):=by
 intro a0 a1 a2 k
 obtain ⟨ih0,ih1,ih2⟩:=dec_Norm.mono_l k
 unfold dec_Norm.f
 repeat' first|(with_reducible first|apply ih0|apply ih1|apply ih2|apply LeO.refl|apply LeO.none|refine LeO.ite ?_ ?_|refine LeO.bind ?_ (fun _=>?_))|apply ih0|apply ih1|apply ih2|apply LeO.none
set_option maxHeartbeats 8000000 in
set_option maxRecDepth 100000 in
theorem dec_Norm.calls (k:Nat)(a0:Bool)(P1_:Nat→Prop)(A1:Option Addr)(c1:Nat)(l1:List Int)(a2:Int)(r1:Bool)(r2:List Int)(r3:Int)(r4:Int)(w:World)(hs1:Kd.V (Kd.int .u8) 5 w w.heap.size (fun k_=>P1_ k_) (.slice A1 l1.length c1) l1)(h:dec_Norm.f k a0 l1 a2=some (r1,r2,r3,r4)) :
  Calls Tryz.prog 58 #[.bool a0,.slice A1 l1.length c1,.int .i64 a2] w fun e w'=>∃ v1_:Value,e = .returned (.tuple #[.agg #[.bool r1,v1_,.int .i64 r3],.int .i64 r4])∧Kd.R (Kd.int .u8) 5 w' w.heap.size (fun k_=>(w.heap.size≤k_)) v1_ r2∧Below w.heap.size w w':=by
 have hu29:=Tryz.underlying29
 have HO1:=zS (show Kd.V (Kd.int .u8) 5 w w.heap.size (fun k_=>(P1_ k_∨w.heap.size≤k_)) (.slice A1 l1.length c1) l1 from Kd.V_mono hs1 (fun k_ hk=>.inl hk))
 have HB:=zS (Below.refl w.heap.size w)
 have H:((slices_ContainsFunc_byte_byte.f l1 81).bind fun bj=>(if bj=true then (some (false,([]:List Int),0,1)) else ((dec_tooFar.f a2 1099511627776).bind fun bk=>(if bk=true then (some (false,([]:List Int),0,11)) else (dec_Norm.l0 k l1 a2 a0 0)))))=some (r1,r2,r3,r4):=h
 clear h
 replace H:=Option.bind_eq_some_iff.mp H
 obtain ⟨bj,A40,H⟩:=H
 try dsimp only at H
 have A4:=zS A40
 clear A40
 by_cases c5:bj=true
 ·subst c5
  rw [if_pos rfl] at H
  simp only [Option.some.injEq,Prod.mk.injEq] at H
  obtain ⟨rfl,rfl,rfl,rfl⟩:=H
  go_enter Tryz.func58,Tryz.ntmps58
  go_wp2_with (first|((with_reducible refine gate_dst (N:=6) rfl ?_);refine box_event ?hg (N:=6) ?hd (cs:=#[.bool false,.slice none 0 0,.int .i64 0]) (t:=29) ?hr ?_;(case hd=>rfl);(case hg=>rfl);(case hr=>first|(go_simp;done)|(go_simp;rfl));intro ag hg w6 hbox hb;replace HO1:=zS (Kd.V_below (Kd.V_elderB (vo HO1) ag (Nat.le_of_eq hg.symm)) hb);have aa:=zS (hbox);have bI:=bg HB hg;replace HB:=bs HB hb;clear hb hbox hg)|((with_reducible refine gate_callee (f:=80) rfl ?_);refine gL (some 10) Tryz.func80 #[.slice A1 l1.length c1,.func (.func 81) #[] #[]] ?_;(with_reducible refine (slices_ContainsFunc_byte_byte.calls _ _ l1 81 true _ (vc HO1) (vl HO1) A4.out).mono ?_);rintro e w7 ⟨rfl,hb⟩;refine ⟨_,rfl,?_⟩;replace HO1:=vb HO1 hb;replace aa:=kb aa hb;replace HB:=bs HB hb;(try clear hb);have bT:=blkc3 aa.out;have bU:=blkf3 aa.out))
  refine bodyPost_ret (results_ct rfl _ _ ag 29 #[.bool false,.slice none 0 0,.int .i64 0] (0,0) _ rfl (kp aa rfl) Tryz.underlying29 rfl (by kernel_rfl)) rfl ?_
  exact ⟨_,by first|rfl|(simp <;> rfl)|(simp [*] <;> rfl),by first|exact Kd.R_nil _ _ _ _ _|exact Kd.N_nil _ _ _ _ _|exact Kd.V_nil _ _ _ _ _|exact Kd.Q_nil _ _ _ _ _|exact Kd.S_nil _ _ _ _ _,bl HB⟩
 replace c5:=Bool.eq_false_iff.mpr c5
 subst c5
 rw [if_neg (show ¬ (false=true) by decide)] at H
 replace H:=Option.bind_eq_some_iff.mp H
 obtain ⟨bk,A90,H⟩:=H
 try dsimp only at H
 have A9:=zS A90
 clear A90
 by_cases c10:bk=true
 ·subst c10
  rw [if_pos rfl] at H
  simp only [Option.some.injEq,Prod.mk.injEq] at H
  obtain ⟨rfl,rfl,rfl,rfl⟩:=H
  go_enter Tryz.func58,Tryz.ntmps58
  go_wp2_with (first|((with_reducible refine gate_dst (N:=6) rfl ?_);refine box_event ?hg (N:=6) ?hd (cs:=#[.bool false,.slice none 0 0,.int .i64 0]) (t:=29) ?hr ?_;(case hd=>rfl);(case hg=>rfl);(case hr=>first|(go_simp;done)|(go_simp;rfl));intro ag hg w11 hbox hb;replace HO1:=zS (Kd.V_below (Kd.V_elderB (vo HO1) ag (Nat.le_of_eq hg.symm)) hb);have aa:=zS (hbox);have bI:=bg HB hg;replace HB:=bs HB hb;clear hb hbox hg)|((with_reducible refine gate_callee (f:=80) rfl ?_);refine gL (some 10) Tryz.func80 #[.slice A1 l1.length c1,.func (.func 81) #[] #[]] ?_;(with_reducible refine (slices_ContainsFunc_byte_byte.calls _ _ l1 81 false _ (vc HO1) (vl HO1) A4.out).mono ?_);rintro e w12 ⟨rfl,hb⟩;refine ⟨_,rfl,?_⟩;replace HO1:=vb HO1 hb;replace aa:=kb aa hb;replace HB:=bs HB hb;(try clear hb))|((with_reducible refine gate_callee (f:=82) rfl ?_);refine gL (some 13) Tryz.func82 #[.int .i64 a2,.int .i64 1099511627776] ?_;(with_reducible refine (dec_tooFar.calls a2 1099511627776 true _ A9.out).mono ?_);rintro e w' ⟨rfl,⟨nd,rfl⟩⟩;refine ⟨_,rfl,?_⟩;(try (rw [drewN_self w12];generalize hq_:World.drewN w12 _=w12;replace HO1:Sd (Kd.V (Kd.int .u8) 5 w12 w.heap.size (fun k_=>(P1_ k_∨w.heap.size≤k_)∧k_≠ag) (.slice A1 l1.length c1) l1):=⟨by rw [← hq_];exact (vo HO1)⟩;replace aa:Sd (w12.heap[ag]?=some (.cells #[.bool false,.slice none 0 0,.int .i64 0] 29 (0,0))):=⟨by rw [← hq_];exact (ko aa)⟩;replace HB:Sd (Below w.heap.size w w12):=⟨by rw [← hq_];exact (bl HB)⟩;clear hq_));have bm:=blkc3 aa.out;have bn:=blkf3 aa.out))
  refine bodyPost_ret (results_ct rfl _ _ ag 29 #[.bool false,.slice none 0 0,.int .i64 0] (0,0) _ rfl (kp aa rfl) Tryz.underlying29 rfl (by kernel_rfl)) rfl ?_
  exact ⟨_,by first|rfl|(simp <;> rfl)|(simp [*] <;> rfl),by first|exact Kd.R_nil _ _ _ _ _|exact Kd.N_nil _ _ _ _ _|exact Kd.V_nil _ _ _ _ _|exact Kd.Q_nil _ _ _ _ _|exact Kd.S_nil _ _ _ _ _,bl HB⟩
 replace c10:=Bool.eq_false_iff.mpr c10
 subst c10
 rw [if_neg (show ¬ (false=true) by decide)] at H
 have bV:=zS H
 clear H
 go_enter Tryz.func58,Tryz.ntmps58
 go_upto_block 0 with (first|((with_reducible refine gate_dst (N:=6) rfl ?_);refine box_event ?hg (N:=6) ?hd (cs:=#[.bool false,.slice none 0 0,.int .i64 0]) (t:=29) ?hr ?_;(case hd=>rfl);(case hg=>rfl);(case hr=>first|(go_simp;done)|(go_simp;rfl));intro ag hg w15 hbox hb;replace HO1:=zS (Kd.V_below (Kd.V_elderB (vo HO1) ag (Nat.le_of_eq hg.symm)) hb);have aa:=zS (hbox);have bI:=bg HB hg;replace HB:=bs HB hb;clear hb hbox hg)|((with_reducible refine gate_callee (f:=80) rfl ?_);refine gL (some 10) Tryz.func80 #[.slice A1 l1.length c1,.func (.func 81) #[] #[]] ?_;(with_reducible refine (slices_ContainsFunc_byte_byte.calls _ _ l1 81 false _ (vc HO1) (vl HO1) A4.out).mono ?_);rintro e w16 ⟨rfl,hb⟩;refine ⟨_,rfl,?_⟩;replace HO1:=vb HO1 hb;replace aa:=kb aa hb;replace HB:=bs HB hb;(try clear hb))|((with_reducible refine gate_callee (f:=82) rfl ?_);refine gL (some 13) Tryz.func82 #[.int .i64 a2,.int .i64 1099511627776] ?_;(with_reducible refine (dec_tooFar.calls a2 1099511627776 false _ A9.out).mono ?_);rintro e w' ⟨rfl,⟨nd,rfl⟩⟩;refine ⟨_,rfl,?_⟩;(try (rw [drewN_self w16];generalize hq_:World.drewN w16 _=w16;replace HO1:Sd (Kd.V (Kd.int .u8) 5 w16 w.heap.size (fun k_=>(P1_ k_∨w.heap.size≤k_)∧k_≠ag) (.slice A1 l1.length c1) l1):=⟨by rw [← hq_];exact (vo HO1)⟩;replace aa:Sd (w16.heap[ag]?=some (.cells #[.bool false,.slice none 0 0,.int .i64 0] 29 (0,0))):=⟨by rw [← hq_];exact (ko aa)⟩;replace HB:Sd (Below w.heap.size w w16):=⟨by rw [← hq_];exact (bl HB)⟩;clear hq_)))|((with_reducible refine gate_dst (N:=8) rfl ?_);refine box_event ?hg (N:=8) ?hd (cs:=#[.bool false,.slice none 0 0,.int .i64 0]) (t:=29) ?hr ?_;(case hd=>rfl);(case hg=>rfl);(case hr=>first|(go_simp;done)|(go_simp;rfl));intro af hg w17 hbox hb;replace HO1:=zS (Kd.V_below (Kd.V_elderB (vo HO1) af (Nat.le_of_eq hg.symm)) hb);have ad:=zS (hbox);have db:=bg HB hg;replace HB:=bs HB hb;have ax:=kn aa hg;have ay:=km aa hg;replace aa:=kb aa hb;clear hb hbox hg;have dc:=ay.out;have dd:=ax.out;have bo:=blkc3 ad.out;have bp:=blkf3 ad.out))
 (try simp only [Act.put,sA,sB,sC])
 go_cut [1] (fun v1 wc=>∃ (kq:Nat) (az:List Int),Sd (dec_Norm.j1 kq az a2 a0 0=some (r1,r2,r3,r4))∧Sd (kq≤k)∧Sd (Kd.V (Kd.int .u8) 5 wc w.heap.size (fun k_=>(P1_ k_∨w.heap.size≤k_)∧k_≠ag∧k_≠af) v1 az)∧Sd (wc.heap[ag]?=some (.cells #[.bool false,(.slice none 0 0),.int .i64 0] 29 (0,0)))∧Sd (wc.heap[af]?=some (.cells #[.bool a0,(.slice none 0 0),.int .i64 0] 29 (0,0)))∧Sd (Below w.heap.size w wc))
 case first=>
  have H:=bV.out
  clear bV
  have H':=zS H
  clear H
  go_wp2
  go_loopg [1] k (fun kq v1 w'=>∃ (ah:List Int),Sd (dec_Norm.l0 kq ah a2 a0 0=some (r1,r2,r3,r4))∧Sd (kq≤k)∧Sd (Kd.V (Kd.int .u8) 5 w' w.heap.size (fun k_=>(P1_ k_∨w.heap.size≤k_)∧k_≠ag∧k_≠af) v1 ah)∧Sd (w'.heap[ag]?=some (.cells #[.bool false,(.slice none 0 0),.int .i64 0] 29 (0,0)))∧Sd (w'.heap[af]?=some (.cells #[.bool a0,(.slice none 0 0),.int .i64 0] 29 (0,0)))∧Sd (Below w.heap.size w w'))
  case atStart=>exact ⟨(l1),H',⟨Nat.le_refl _⟩,⟨by (with_reducible repeat (first|apply Kd.V_alloc|apply Kd.V_drewN|apply Kd.V_drew));exact Kd.V_mono (Kd.V_far (p:=⟨af,2,none⟩) (Kd.V_far (p:=⟨af,1,none⟩) (Kd.V_far (p:=⟨af,0,none⟩) (Kd.V_mono HO1.out (fun k_ hk=>(⟨hk,hk.2⟩:_∧k_≠af))) (fun _ hk=>hk.2) (.bool a0)) (fun _ hk=>hk.2) (.slice none 0 0)) (fun _ hk=>hk.2) (.int .i64 0)) (fun _ hk=>⟨hk.1.1.1,⟨hk.1.1.2,hk.1.2⟩⟩)⟩,⟨ko aa⟩,⟨kp ad rfl⟩,⟨bl HB⟩⟩
  case round=>
   clear H'
   try clear c1
   try clear p2
   try clear c5
   try clear c8
   try clear c10
   try clear c18
   try clear bm
   try clear bo
   try clear bT
   try clear bn
   try clear bp
   try clear bU
   obtain ⟨ah,HA,HK1,HO_1,aa,ad,HB⟩:=hrel
   cases gk with
   | zero=>exact absurd HA.out (by simp [dec_Norm.l0])
   | succ k1=>
    have H:=HA.out
    clear HA
    simp only [dec_Norm.l0] at H
    by_cases c20:(ah.length:Int)>0
    rotate_left
    ·rw [if_neg c20] at H
     have aC:decide (0<(ah.length:Int))=false:=zD c20
     have aF:decide (0<ah.length)=false:=zD (by omega)
     clear c20
     (first|rw [aC]|(simp only [i64_w,i32_w];rw [aC])|rw [aF]|skip)
     have H':=zS H
     clear H
     obtain ⟨dI,dJ,cv⟩:=Kd.V_slice HO_1.out
     subst cv
     go_wp2
     go_meet
     case rel=>exact ⟨_,(ah),H',⟨by have:=HK1.out;first|omega|exact Nat.le_refl _⟩,⟨vo HO_1⟩,⟨ko aa⟩,⟨ko ad⟩,⟨bl HB⟩⟩
    rw [if_pos c20] at H
    have aC:decide (0<(ah.length:Int))=true:=zC c20
    have aF:decide (0<ah.length)=true:=zC (by omega)
    clear c20
    (first|rw [aC]|(simp only [i64_w,i32_w];rw [aC])|rw [aF]|skip)
    by_cases c21:0<(ah.length:Int)
    rotate_left
    ·rw [if_neg c21] at H
     exact absurd H (by simp)
    rw [if_pos c21] at H
    have bJ:=zC c21
    have bK:decide (0<ah.length)=true:=zC (by omega)
    clear c21
    by_cases c22:(rd ah 0)=0
    rotate_left
    ·rw [if_neg c22] at H
     have bq:((rd ah 0) == 0)=false:=zF c22
     have br:((rd ah 0) != 0)=true:=zI c22
     have H':=zS H
     clear H
     obtain ⟨dK,dL,cw⟩:=Kd.V_slice HO_1.out
     subst cw
     have aL:0≤(0:Int):=(by omega)
     have aM:0<(ah.length:Int):=zB (by first|(with_reducible assumption)|assumption)
     obtain ⟨aV,bW,ar⟩:=Kd.at_int (Kd.V_reads' HO_1.out).2.2 0 aL aM
     cases bW
     have qi110:(0<ah.length)=True:=eq_true (by omega)
     (try rw [show ((0:Int)).toNat=0 from rfl] at ar)
     (try rw [Addr.add_zero'] at ar)
     replace aL:=eq_true aL
     replace aM:=eq_true aM
     go_wp2
     go_meet
     case rel=>exact ⟨_,(ah),H',⟨by have:=HK1.out;first|omega|exact Nat.le_refl _⟩,⟨vo HO_1⟩,⟨ko aa⟩,⟨ko ad⟩,⟨bl HB⟩⟩
    rw [if_pos c22] at H
    have bq:((rd ah 0) == 0)=true:=zH c22
    have br:((rd ah 0) != 0)=false:=zG c22
    clear c22
    by_cases c23:1≤(ah.length:Int)
    rotate_left
    ·rw [if_neg c23] at H
     exact absurd H (by simp)
    rw [if_pos c23] at H
    have bL:=eq_true c23
    have bM:=zC c23
    clear c23
    obtain ⟨aN,aW⟩:∃ y_:List Int,y_=(ah.drop 1):=⟨_,rfl⟩
    replace H:(dec_Norm.l0 k1 aN a2 a0 0)=some (r1,r2,r3,r4):=by first|(rw [aW];with_reducible exact H)|(have H2_:=(Option.bind_some _ _).symm.trans H;rw [aW];with_reducible exact H2_)|(have H2_:=(Option.bind_some _ _).symm.trans H;with_reducible exact H2_)|with_reducible exact H|(rw [aW];exact H)|exact H
    have bN:=zS aW
    clear aW
    have H':=zS H
    clear H
    obtain ⟨dM,bu,cx⟩:=Kd.V_slice HO_1.out
    subst cx
    have aL:0≤(0:Int):=(by omega)
    have aM:0<(ah.length:Int):=zB (by first|(with_reducible assumption)|assumption)
    obtain ⟨aV,bW,ar⟩:=Kd.at_int (Kd.V_reads' HO_1.out).2.2 0 aL aM
    cases bW
    have qi110:(0<ah.length)=True:=eq_true (by omega)
    (try rw [show ((0:Int)).toNat=0 from rfl] at ar)
    (try rw [Addr.add_zero'] at ar)
    replace aL:=eq_true aL
    replace aM:=eq_true aM
    have q25:(1:Int)≤((ah.length:Int):Int):=zB (by first|(with_reducible assumption)|assumption)
    obtain ⟨i025,hi025,_,hsz25,_⟩:=info_parts info5
    have hroom25:ah.length≤bu:=(Kd.V_reads' HO_1.out).2.1
    have hC25:Kd.F (Kd.int .u8) _ _ (some aV) ah.length ah:=(Kd.V_at (base:=w.heap.size) HO_1.out).2.2
    have hcut25:=cut_from (P:=Tryz.prog) 27 5 .i64 Tryz.underlying27 hi025 1 hsz25 (some aV) ah.length bu 1 (by omega) q25
    have bv:=Kd.F_cut (m:=(1:Int).toNat) (c:=bu) hC25 (by omega) hroom25
    obtain ⟨A25,hA25⟩:∃ Az_,Az_=(if bu=(1:Int).toNat then (some aV) else ((some aV):Option Addr).map (·.add ((1:Int).toNat * 1))):=⟨_,rfl⟩
    obtain ⟨c25,bC⟩:∃ cz_,cz_=bu - (1:Int).toNat:=⟨_,rfl⟩
    have bw:aN.length=ah.length - (1:Int).toNat:=(by rw [bN.out,List.length_drop] <;> omega)
    rw [show (ah).drop (1:Int).toNat=aN from bN.out.symm] at bv
    replace bv:Kd.F (Kd.int .u8) _ _ A25 aN.length aN:=(by rw [hA25];exact bv)
    rw [← bw,← hA25,← bC] at hcut25
    have b8:=zS (show Kd.V (Kd.int .u8) 5 _ w.heap.size _ (.slice A25 aN.length c25) aN from Kd.V_mk (by rw [bw,bC];exact Nat.sub_le_sub_right hroom25 _) bv)
    have de:=zS (show aN.length≤c25 from by rw [bw,bC];exact Nat.sub_le_sub_right hroom25 _)
    clear bv hC25 hroom25 hi025 hsz25 bC
    have KY25:=zS bw
    have KA25:=zS hA25
    clear bw hA25
    replace q25:=eq_true q25
    go_wp2
    go_roundg k1
    case measure=>have:=HK1.out;omega
    case rel=>exact ⟨(aN),H',⟨by have:=HK1.out;omega⟩,⟨vo b8⟩,⟨ko aa⟩,⟨ko ad⟩,⟨bl HB⟩⟩
 case rest=>
  clear bV
  try clear c1
  try clear p1
  try clear q1
  try clear hx1
  try clear qi1
  try clear c2
  try clear p2
  try clear q2
  try clear c5
  try clear c8
  try clear c10
  try clear p11
  try clear q11
  try clear cy
  try clear qi11
  try clear c18
  try clear c20
  try clear aC
  try clear aF
  try clear c21
  try clear bJ
  try clear bK
  try clear c22
  try clear bq
  try clear br
  try clear c23
  try clear bL
  try clear bM
  try clear c25
  try clear q25
  try clear bm
  try clear bo
  try clear bT
  try clear bn
  try clear bp
  try clear bU
  try clear ar
  try clear aL
  try clear p2
  try clear aM
  try clear q25
  obtain ⟨kq,az,HA,HJ13,HO_1,aa,ad,HB⟩:=hcut
  cases kq with
  | zero=>exact absurd HA.out (by simp [dec_Norm.j1])
  | succ kj13=>
   have H:=HA.out
   clear HA
   simp only [dec_Norm.j1] at H
   by_cases c28:(az.length:Int)=0
   ·rw [if_pos c28] at H
    have bO:((az.length:Int) == 0)=true:=zH c28
    have bP:((az.length:Int) != 0)=false:=zG c28
    clear c28
    simp only [Option.some.injEq,Prod.mk.injEq] at H
    obtain ⟨rfl,rfl,rfl,rfl⟩:=H
    obtain ⟨dN,dO,cz⟩:=Kd.V_slice HO_1.out
    subst cz
    have df:=ay.out
    have dg:=ax.out
    have bG:=blkc3 ad.out
    have bH:=blkf3 ad.out
    have b9:=blkc3 aa.out
    have ca:=blkf3 aa.out
    go_wp2
    refine bodyPost_ret (results_ct rfl _ _ ag 29 #[.bool a0,.slice none 0 0,.int .i64 0] (0,0) _ rfl (kp aa rfl) Tryz.underlying29 rfl (by kernel_rfl)) rfl ?_
    exact ⟨_,by first|rfl|(simp <;> rfl)|(simp [*] <;> rfl),by first|exact Kd.R_nil _ _ _ _ _|exact Kd.N_nil _ _ _ _ _|exact Kd.V_nil _ _ _ _ _|exact Kd.Q_nil _ _ _ _ _|exact Kd.S_nil _ _ _ _ _,bl HB⟩
   rw [if_neg c28] at H
   have bO:((az.length:Int) == 0)=false:=zF c28
   have bP:((az.length:Int) != 0)=true:=zI c28
   have cc:¬ (az=[]):=fun h_=>c28 (by rw [h_];rfl)
   have H':=zS H
   clear H
   obtain ⟨dP,dQ,cA⟩:=Kd.V_slice HO_1.out
   subst cA
   go_wp2
   go_loopg [1,2] kj13 (fun kq v1 v2 w'=>∃ (ai:List Int) (am:Int),v2 = .int .i64 am∧Sd (dec_Norm.l1 kq ai am a0 0=some (r1,r2,r3,r4))∧Sd (kq≤kj13)∧Sd (Kd.V (Kd.int .u8) 5 w' w.heap.size (fun k_=>(P1_ k_∨w.heap.size≤k_)∧k_≠ag∧k_≠af) v1 ai)∧Sd (w'.heap[ag]?=some (.cells #[.bool false,(.slice none 0 0),.int .i64 0] 29 (0,0)))∧Sd (w'.heap[af]?=some (.cells #[.bool a0,(.slice none 0 0),.int .i64 0] 29 (0,0)))∧Sd (Below w.heap.size w w'))
   case atStart=>exact ⟨(az),(a2),(by first|rfl|(simp;done)|(simp [*];done)),H',⟨Nat.le_refl _⟩,⟨vo HO_1⟩,⟨ko aa⟩,⟨ko ad⟩,⟨bl HB⟩⟩
   case round=>
    clear H'
    try clear c1
    try clear p1
    try clear q1
    try clear hx1
    try clear qi1
    try clear c2
    try clear p2
    try clear q2
    try clear c3
    try clear c5
    try clear c8
    try clear c10
    try clear p11
    try clear q11
    try clear cy
    try clear qi11
    try clear c18
    try clear c20
    try clear aC
    try clear aF
    try clear c21
    try clear bJ
    try clear bK
    try clear c22
    try clear bq
    try clear br
    try clear c23
    try clear bL
    try clear bM
    try clear c25
    try clear q25
    try clear c28
    try clear bO
    try clear bP
    try clear cc
    try clear c30
    try clear bm
    try clear bo
    try clear bG
    try clear b9
    try clear bT
    try clear bn
    try clear bp
    try clear bH
    try clear ca
    try clear bU
    try clear ar
    try clear p1
    try clear p11
    try clear aL
    try clear p2
    try clear q1
    try clear q11
    try clear aM
    try clear q2
    try clear q25
    obtain ⟨ai,am,rfl,HA,HK2,HO_1,aa,ad,HB⟩:=hrel
    cases gk with
    | zero=>exact absurd HA.out (by simp [dec_Norm.l1])
    | succ k2=>
     have H:=HA.out
     clear HA
     simp only [dec_Norm.l1] at H
     obtain ⟨aj,aX⟩:∃ j_:Int,(wrap64 ((ai.length:Int) - 1))=j_:=⟨_,rfl⟩
     replace H:(if 0≤(aj) then (if (aj)<(ai.length:Int) then (if (rd ai (aj))=0 then (if (aj)≤(ai.length:Int) then (dec_Norm.l1 k2 (ai.take ((aj):Int).toNat) (wrap64 (am+1)) a0 0) else (none)) else ((slices_Clone_byte_byte.f ai).bind fun al=>((dec_Right.f a0 al am).bind fun bi=>(if bi=true then (some (a0,al,am,0)) else (some (false,([]:List Int),0,11)))))) else (none)) else (none))=some (r1,r2,r3,r4):=by first|(rw [aX] at H;exact H)|(simp only [aX] at H ⊢;exact H)
     have cB:(IntKind.i64.wrap ((ai.length:Int) - 1))=aj:=(i64_w _).trans aX
     by_cases c35:0≤(aj)
     rotate_left
     ·rw [if_neg c35] at H
      exact absurd H (by simp)
     rw [if_pos c35] at H
     have dh:=zC c35
     clear c35
     by_cases c36:(aj)<(ai.length:Int)
     rotate_left
     ·rw [if_neg c36] at H
      exact absurd H (by simp)
     rw [if_pos c36] at H
     have di:=zC c36
     clear c36
     by_cases c37:(rd ai (aj))=0
     ·rw [if_pos c37] at H
      have cd:((rd ai (aj)) == 0)=true:=zH c37
      have ce:((rd ai (aj)) != 0)=false:=zG c37
      clear c37
      have dj:=eq_true (zB (by first|(with_reducible assumption)|assumption):0≤(aj))
      by_cases c39:(aj)≤(ai.length:Int)
      rotate_left
      ·rw [if_neg c39] at H
       exact absurd H (by simp)
      rw [if_pos c39] at H
      have dk:=eq_true c39
      have dl:=zC c39
      clear c39
      obtain ⟨bc,aY⟩:∃ y_:List Int,y_=(ai.take ((aj):Int).toNat):=⟨_,rfl⟩
      replace H:(dec_Norm.l1 k2 bc (wrap64 (am+1)) a0 0)=some (r1,r2,r3,r4):=by first|(rw [aY];with_reducible exact H)|(have H2_:=(Option.bind_some _ _).symm.trans H;rw [aY];with_reducible exact H2_)|(have H2_:=(Option.bind_some _ _).symm.trans H;with_reducible exact H2_)|with_reducible exact H|(rw [aY];exact H)|exact H
      have bQ:=zS aY
      clear aY
      have H':=zS H
      clear H
      obtain ⟨dR,bD,cC⟩:=Kd.V_slice HO_1.out
      subst cC
      have aG:0≤((aj):Int):=zB (by first|(with_reducible assumption)|assumption)
      have aH:(aj)<(ai.length:Int):=zB (by first|(with_reducible assumption)|assumption)
      obtain ⟨aI,bx,bb⟩:=Kd.at_int (Kd.V_reads' HO_1.out).2.2 (aj) aG aH
      cases bx
      replace aG:=eq_true aG
      replace aH:=eq_true aH
      have q41:((aj):Int)≤((ai.length:Int):Int):=zB (by first|(with_reducible assumption)|assumption)
      obtain ⟨i041,hi041,_,hsz41,_⟩:=info_parts info5
      have hroom41:ai.length≤bD:=(Kd.V_reads' HO_1.out).2.1
      have hC41:Kd.F (Kd.int .u8) _ _ (some aI) ai.length ai:=(Kd.V_at (base:=w.heap.size) HO_1.out).2.2
      have hcut41:=cut_to (P:=Tryz.prog) 27 5 .i64 Tryz.underlying27 hi041 (some aI) ai.length bD (aj) (zB (by first|(with_reducible assumption)|assumption)) q41 hroom41
      have bX:=Kd.F_take (m:=((aj):Int).toNat) hC41 (by omega)
      have bY:bc.length=((aj):Int).toNat:=(by rw [bQ.out,List.length_take];omega)
      rw [← bQ.out] at bX
      rw [← bY] at hcut41
      have cf:=zS (show Kd.V (Kd.int .u8) 5 _ w.heap.size _ (.slice (some aI) bc.length bD) bc from Kd.V_mk (by omega) bX)
      have dm:=zS (show bc.length≤bD from by omega)
      clear bX hC41 hroom41 hi041 hsz41
      have KY41:=zS bY
      clear bY
      replace q41:=eq_true q41
      go_wp2
      go_roundg k2
      case measure=>have:=HJ13.out;have:=HK2.out;omega
      case rel=>exact ⟨(bc),(wrap64 (am+1)),(by first|rfl|(simp;done)|(simp [*];done)),H',⟨by have:=HJ13.out;have:=HK2.out;omega⟩,⟨vo cf⟩,⟨ko aa⟩,⟨ko ad⟩,⟨bl HB⟩⟩
     rw [if_neg c37] at H
     have cd:((rd ai (aj)) == 0)=false:=zF c37
     have ce:((rd ai (aj)) != 0)=true:=zI c37
     replace H:=Option.bind_eq_some_iff.mp H
     obtain ⟨al,cg,H⟩:=H
     try dsimp only at H
     have A42:=zS cg
     clear cg
     replace H:=Option.bind_eq_some_iff.mp H
     obtain ⟨bi,ch,H⟩:=H
     try dsimp only at H
     have A43:=zS ch
     clear ch
     by_cases c44:bi=true
     ·subst c44
      rw [if_pos rfl] at H
      simp only [Option.some.injEq,Prod.mk.injEq] at H
      obtain ⟨rfl,rfl,rfl,rfl⟩:=H
      obtain ⟨dS,cD,cE⟩:=Kd.V_slice HO_1.out
      subst cE
      have aG:0≤((aj):Int):=zB (by first|(with_reducible assumption)|assumption)
      have aH:(aj)<(ai.length:Int):=zB (by first|(with_reducible assumption)|assumption)
      obtain ⟨aI,bx,bb⟩:=Kd.at_int (Kd.V_reads' HO_1.out).2.2 (aj) aG aH
      cases bx
      replace aG:=eq_true aG
      replace aH:=eq_true aH
      go_wp2_with (first|((with_reducible refine gate_callee (f:=83) rfl ?_);refine gL (some 47) Tryz.func83 #[.slice (some aI) ai.length cD] ?_;(with_reducible refine (slices_Clone_byte_byte.calls _ _ ai al _ (vc HO_1) (vl HO_1) A42.out).mono ?_);rintro e w46 ⟨cF,rfl,ho0,hb⟩;refine ⟨_,rfl,?_⟩;replace HO_1:=zS (Kd.V_elder' (vo HO_1) (Kd.R_base ho0) hb);have au:=zS (Kd.R_lower (Kd.R_newM (M:=fun k_=>(w.heap.size≤k_)) ho0 (bz HB) (fun k_ h_=>h_)) (bz HB));replace aa:=kb aa hb;replace ad:=kb ad hb;replace HB:=bs HB hb;(try clear hb);(try clear ho0);obtain ⟨a8,aZ,cG⟩:=Kd.R_slice au.out;subst cG;have dn:=ay.out;have dp:=ax.out;have dq:=blkc3 ad.out;have dr:=blkf3 ad.out)|((with_reducible refine gate_callee (f:=84) rfl ?_);refine gL (some 52) Tryz.func84 #[.agg #[.bool a0,.slice a8 al.length aZ,.int .i64 am]] ?_;(with_reducible refine (dec_Right.calls a0 _ _ al am true _ ?side1 (rl au) A43.out).mono ?_);(case side1=>refine (Kd.R_reads' (e:=5) (base:=w.heap.size) (ok:=fun k_=>((w.heap.size≤k_)∧True)) (n:=al.length) (c:=aZ) ?_).2.2;exact (by (with_reducible repeat (first|apply Kd.R_alloc|apply Kd.R_drewN|apply Kd.R_drew));exact (Kd.R_mono (Kd.R_far (p:=⟨af,2,none⟩) (Kd.R_far (p:=⟨af,1,none⟩) (Kd.R_types au.out ad.out (by decide)) (fun _ hk=>hk.2) (.slice a8 al.length aZ)) (fun _ hk=>hk.2) (.int .i64 am)) (fun _ h_=>h_.1))));rintro e w50 ⟨rfl,hb⟩;refine ⟨_,rfl,?_⟩;replace HO_1:=zS (Kd.V_below (by (with_reducible repeat (first|apply Kd.V_alloc|apply Kd.V_drewN|apply Kd.V_drew));exact (Kd.V_mono (Kd.V_far (p:=⟨af,2,none⟩) (Kd.V_far (p:=⟨af,1,none⟩) (Kd.V_mono HO_1.out (fun k_ hk=>(⟨hk,hk.1.2.2⟩:_∧k_≠af))) (fun _ hk=>hk.2) (.slice a8 al.length aZ)) (fun _ hk=>hk.2) (.int .i64 am)) (fun _ h_=>h_.1))) hb);replace au:=zS (Kd.R_below (by (with_reducible repeat (first|apply Kd.R_alloc|apply Kd.R_drewN|apply Kd.R_drew));exact (Kd.R_mono (Kd.R_far (p:=⟨af,2,none⟩) (Kd.R_far (p:=⟨af,1,none⟩) (Kd.R_types au.out ad.out (by decide)) (fun _ hk=>hk.2) (.slice a8 al.length aZ)) (fun _ hk=>hk.2) (.int .i64 am)) (fun _ h_=>h_.1))) hb);replace aa:=kb aa hb;replace ad:=zS (blk_below (g:=af) (o:=.cells #[.bool a0,.slice a8 al.length aZ,.int .i64 am] 29 (0,0)) (kp ad rfl) hb);replace HB:=bs HB hb;(try clear hb);(try clear hk);have dt:=blkc3 ad.out;have du:=blkf3 ad.out;have dv:=blkc3 aa.out;have dw:=blkf3 aa.out))
      refine bodyPost_ret (results_ct rfl _ _ ag 29 #[.bool a0,.slice a8 al.length aZ,.int .i64 am] (0,0) _ rfl (kp aa rfl) Tryz.underlying29 rfl (by kernel_rfl)) rfl ?_
      exact ⟨_,by first|rfl|(simp <;> rfl)|(simp only [← aX];first|rfl|(simp <;> rfl))|(simp [*] <;> rfl),by (with_reducible repeat (first|apply Kd.R_alloc|apply Kd.R_drewN|apply Kd.R_drew));exact Kd.R_mono (Kd.R_far (p:=⟨ag,2,none⟩) (Kd.R_far (p:=⟨ag,1,none⟩) (Kd.R_far (p:=⟨ag,0,none⟩) (Kd.R_types au.out aa.out (by decide)) (fun _ hk=>hk.2) (.bool a0)) (fun _ hk=>hk.2) (.slice a8 al.length aZ)) (fun _ hk=>hk.2) (.int .i64 am)) (fun _ hk=>hk.1.1),bl HB⟩
     replace c44:=Bool.eq_false_iff.mpr c44
     subst c44
     rw [if_neg (show ¬ (false=true) by decide)] at H
     simp only [Option.some.injEq,Prod.mk.injEq] at H
     obtain ⟨rfl,rfl,rfl,rfl⟩:=H
     obtain ⟨dT,cH,cI⟩:=Kd.V_slice HO_1.out
     subst cI
     have aG:0≤((aj):Int):=zB (by first|(with_reducible assumption)|assumption)
     have aH:(aj)<(ai.length:Int):=zB (by first|(with_reducible assumption)|assumption)
     obtain ⟨aI,bx,bb⟩:=Kd.at_int (Kd.V_reads' HO_1.out).2.2 (aj) aG aH
     cases bx
     replace aG:=eq_true aG
     replace aH:=eq_true aH
     go_wp2_with (first|((with_reducible refine gate_callee (f:=83) rfl ?_);refine gL (some 47) Tryz.func83 #[.slice (some aI) ai.length cH] ?_;(with_reducible refine (slices_Clone_byte_byte.calls _ _ ai al _ (vc HO_1) (vl HO_1) A42.out).mono ?_);rintro e w54 ⟨cF,rfl,ho0,hb⟩;refine ⟨_,rfl,?_⟩;replace HO_1:=zS (Kd.V_elder' (vo HO_1) (Kd.R_base ho0) hb);have au:=zS (Kd.R_lower (Kd.R_newM (M:=fun k_=>(w.heap.size≤k_)) ho0 (bz HB) (fun k_ h_=>h_)) (bz HB));replace aa:=kb aa hb;replace ad:=kb ad hb;replace HB:=bs HB hb;(try clear hb);(try clear ho0);obtain ⟨bA,bd,cJ⟩:=Kd.R_slice au.out;subst cJ;have dx:=ay.out;have dy:=ax.out;have dz:=blkc3 ad.out;have dA:=blkf3 ad.out)|((with_reducible refine gate_callee (f:=84) rfl ?_);refine gL (some 52) Tryz.func84 #[.agg #[.bool a0,.slice bA al.length bd,.int .i64 am]] ?_;(with_reducible refine (dec_Right.calls a0 _ _ al am false _ ?side1 (rl au) A43.out).mono ?_);(case side1=>refine (Kd.R_reads' (e:=5) (base:=w.heap.size) (ok:=fun k_=>((w.heap.size≤k_)∧True)) (n:=al.length) (c:=bd) ?_).2.2;exact (by (with_reducible repeat (first|apply Kd.R_alloc|apply Kd.R_drewN|apply Kd.R_drew));exact (Kd.R_mono (Kd.R_far (p:=⟨af,2,none⟩) (Kd.R_far (p:=⟨af,1,none⟩) (Kd.R_types au.out ad.out (by decide)) (fun _ hk=>hk.2) (.slice bA al.length bd)) (fun _ hk=>hk.2) (.int .i64 am)) (fun _ h_=>h_.1))));rintro e w58 ⟨rfl,hb⟩;refine ⟨_,rfl,?_⟩;replace HO_1:=zS (Kd.V_below (by (with_reducible repeat (first|apply Kd.V_alloc|apply Kd.V_drewN|apply Kd.V_drew));exact (Kd.V_mono (Kd.V_far (p:=⟨af,2,none⟩) (Kd.V_far (p:=⟨af,1,none⟩) (Kd.V_mono HO_1.out (fun k_ hk=>(⟨hk,hk.1.2.2⟩:_∧k_≠af))) (fun _ hk=>hk.2) (.slice bA al.length bd)) (fun _ hk=>hk.2) (.int .i64 am)) (fun _ h_=>h_.1))) hb);replace au:=zS (Kd.R_below (by (with_reducible repeat (first|apply Kd.R_alloc|apply Kd.R_drewN|apply Kd.R_drew));exact (Kd.R_mono (Kd.R_far (p:=⟨af,2,none⟩) (Kd.R_far (p:=⟨af,1,none⟩) (Kd.R_types au.out ad.out (by decide)) (fun _ hk=>hk.2) (.slice bA al.length bd)) (fun _ hk=>hk.2) (.int .i64 am)) (fun _ h_=>h_.1))) hb);replace aa:=kb aa hb;replace ad:=zS (blk_below (g:=af) (o:=.cells #[.bool a0,.slice bA al.length bd,.int .i64 am] 29 (0,0)) (kp ad rfl) hb);replace HB:=bs HB hb;(try clear hb);(try clear hk);have dB:=blkc3 aa.out;have dC:=blkf3 aa.out))
     refine bodyPost_ret (results_ct rfl _ _ ag 29 #[.bool false,.slice none 0 0,.int .i64 0] (0,0) _ rfl (kp aa rfl) Tryz.underlying29 rfl (by kernel_rfl)) rfl ?_
     exact ⟨_,by first|rfl|(simp <;> rfl)|(simp only [← aX];first|rfl|(simp <;> rfl))|(simp [*] <;> rfl),by first|exact Kd.R_nil _ _ _ _ _|exact Kd.N_nil _ _ _ _ _|exact Kd.V_nil _ _ _ _ _|exact Kd.Q_nil _ _ _ _ _|exact Kd.S_nil _ _ _ _ _,bl HB⟩
def round_Is.f (a0:Int):Option (Bool):=if a0≥0 then (some (decide (a0≤7))) else (some false)
set_option maxHeartbeats 8000000 in
set_option maxRecDepth 100000 in
theorem round_Is.calls (a0:Int)(r:Bool)(w:World)(h:round_Is.f a0=some r) :
  Calls Tryz.prog 73 #[.int .i64 a0] w fun e w'=>e = .returned (.bool r)∧Drawn0 w w':=by
 have H:(if a0≥0 then (some (decide (a0≤7))) else (some false))=some r:=h
 clear h
 by_cases c2:a0≥0
 ·rw [if_pos c2] at H
  have bR:decide (0≤a0)=true:=zC c2
  clear c2
  obtain rfl:=zE H
  go_enter Tryz.func73,Tryz.ntmps73
  go_wp2
  go_ret
  exact ⟨by first|rfl|(simp;done)|(simp [*];done),by repeat (first|exact Drawn0.refl _|apply Drawn0.step)⟩
 rw [if_neg c2] at H
 have bR:decide (0≤a0)=false:=zD c2
 clear c2
 obtain rfl:=zE H
 go_enter Tryz.func73,Tryz.ntmps73
 go_wp2
 go_ret
 exact ⟨by first|rfl|(simp;done)|(simp [*];done),by repeat (first|exact Drawn0.refl _|apply Drawn0.step)⟩
def round_isUnit.f (a0:Int)(a1:Int):Option (Bool):=if a0≥1 then (if a0≤1000000000 then (if a1≥(-1000) then (some (decide (a1≤1000))) else (some false)) else (some false)) else (some false)
set_option maxHeartbeats 8000000 in
set_option maxRecDepth 100000 in
theorem round_isUnit.calls (a0:Int)(a1:Int)(r:Bool)(w:World)(h:round_isUnit.f a0 a1=some r) :
  Calls Tryz.prog 94 #[.int .i64 a0,.int .i64 a1] w fun e w'=>e = .returned (.bool r)∧Drawn0 w w':=by
 have H:(if a0≥1 then (if a0≤1000000000 then (if a1≥(-1000) then (some (decide (a1≤1000))) else (some false)) else (some false)) else (some false))=some r:=h
 clear h
 by_cases c3:a0≥1
 rotate_left
 ·rw [if_neg c3] at H
  have b0:decide (1≤a0)=false:=zD c3
  clear c3
  obtain rfl:=zE H
  go_enter Tryz.func94,Tryz.ntmps94
  go_wp2
  go_ret
  exact ⟨by first|rfl|(simp;done)|(simp [*];done),by repeat (first|exact Drawn0.refl _|apply Drawn0.step)⟩
 rw [if_pos c3] at H
 have b0:decide (1≤a0)=true:=zC c3
 clear c3
 by_cases c4:a0≤1000000000
 ·rw [if_pos c4] at H
  have ci:=zC c4
  clear c4
  by_cases c5:a1≥(-1000)
  ·rw [if_pos c5] at H
   have bB:decide ((-1000)≤a1)=true:=zC c5
   clear c5
   obtain rfl:=zE H
   go_enter Tryz.func94,Tryz.ntmps94
   go_wp2
   go_ret
   exact ⟨by first|rfl|(simp;done)|(simp [*];done),by repeat (first|exact Drawn0.refl _|apply Drawn0.step)⟩
  rw [if_neg c5] at H
  have bB:decide ((-1000)≤a1)=false:=zD c5
  clear c5
  obtain rfl:=zE H
  go_enter Tryz.func94,Tryz.ntmps94
  go_wp2
  go_ret
  exact ⟨by first|rfl|(simp;done)|(simp [*];done),by repeat (first|exact Drawn0.refl _|apply Drawn0.step)⟩
 rw [if_neg c4] at H
 have ci:=zD c4
 clear c4
 obtain rfl:=zE H
 go_enter Tryz.func94,Tryz.ntmps94
 go_wp2
 go_ret
 exact ⟨by first|rfl|(simp;done)|(simp [*];done),by repeat (first|exact Drawn0.refl _|apply Drawn0.step)⟩
def slices_Reverse_byte_byte.l0:Nat→List Int→Int→Int→Option (List Int)
 | 0,_,_,_=>none
 | k+1,x0,x2,x3=>if x2<x3 then (if 0≤x3 then (if x3<(x0.length:Int) then (if 0≤x2 then (if x2<(x0.length:Int) then (slices_Reverse_byte_byte.l0 k ((x0.set (x2:Int).toNat (rd x0 x3)).set (x3:Int).toNat (rd x0 x2)) (wrap64 (x2+1)) (wrap64 (x3 - 1))) else (none)) else (none)) else (none)) else (none)) else (some x0)
def slices_Reverse_byte_byte.f (k:Nat)(l0:List Int):Option (List Int):=slices_Reverse_byte_byte.l0 k l0 0 (wrap64 ((l0.length:Int) - 1))
theorem slices_Reverse_byte_byte.mono_l:∀ k,(∀ y0 y1 y2,LeO (slices_Reverse_byte_byte.l0 k y0 y1 y2) (slices_Reverse_byte_byte.l0 (k+1) y0 y1 y2))
 | 0=>fun _ _ _ r h=>by simp [slices_Reverse_byte_byte.l0] at h
 | k+1=>by
  have ih0:=slices_Reverse_byte_byte.mono_l k
  ·intro y0 y1 y2
   unfold slices_Reverse_byte_byte.l0
   repeat' first|(with_reducible first|apply ih0|apply LeO.refl|apply LeO.none|refine LeO.ite ?_ ?_|refine LeO.bind ?_ (fun _=>?_))|apply ih0|apply LeO.none
theorem slices_Reverse_byte_byte.mono:∀ a0 k,LeO (slices_Reverse_byte_byte.f k a0) (slices_Reverse_byte_byte.f (k+1) a0):=by
 intro a0 k
 have ih0:=slices_Reverse_byte_byte.mono_l k
 unfold slices_Reverse_byte_byte.f
 repeat' first|(with_reducible first|apply ih0|apply LeO.refl|apply LeO.none|refine LeO.ite ?_ ?_|refine LeO.bind ?_ (fun _=>?_))|apply ih0|apply LeO.none
def slices_Reverse_byte_byte.T3:Bool×List (List Nat×List Nat):=(true,[([],[]),([],[]),([],[]),([],[]),([],[]),([],[]),([4,5],[4,5]),([6],[6]),([],[]),([],[]),([8,9],[8,9]),([10],[10]),([0,1,0,1,4,5,6,7,11],[0,1]),([12,7,0,1,4,5,6,7,11],[7,12]),([2,3,0,1,2,3,4,5,6,7,8,9,10,11,12,13],[2,3]),([14,11,13,0,1,2,3,4,5,6,7,8,9,10,11,12,13],[11,14])])
def slices_Reverse_byte_byte.B3:List Nat:=[0,0,0,0,0,0,48,112,0,0,768,1792,4083,8179,16383,32767]
theorem slices_Reverse_byte_byte.tab3:rtab .any (opsOf Tryz.f126 3)=slices_Reverse_byte_byte.T3:=by kernel_rfl
theorem slices_Reverse_byte_byte.bits3:waitsOk slices_Reverse_byte_byte.T3.2 slices_Reverse_byte_byte.B3=true:=by kernel_rfl
set_option maxHeartbeats 8000000 in
set_option maxRecDepth 100000 in
theorem slices_Reverse_byte_byte.calls (k:Nat)(P0_:Nat→Prop)(aO:Value)(l0:List Int)(r:List Int)(w0 w:World)(hB:Below w0.heap.size w0 w)(ho0:Kd.R (Kd.int .u8) 5 w w0.heap.size P0_ aO l0)(h:slices_Reverse_byte_byte.f k l0=some r) :
  Calls Tryz.prog 126 #[aO] w fun e w'=>e = .returned (.tuple #[])∧Kd.R (Kd.int .u8) 5 w' w0.heap.size (fun k_=>(P0_ k_∨w.heap.size≤k_)) aO r∧Below w0.heap.size w0 w'∧Kept w w' (fun k_=>P0_ k_):=by
 have HO0:=zS (show Kd.R (Kd.int .u8) 5 w w0.heap.size (fun k_=>(P0_ k_∨w.heap.size≤k_)) aO l0 from Kd.R_mono ho0 (fun k_ hk=>(.inl hk)))
 have HK:=zS (Kept.refl w (fun k_=>P0_ k_))
 have HW0:=zS hB.size
 have HB:=zS hB
 clear hB
 have H:(slices_Reverse_byte_byte.l0 k l0 0 (wrap64 ((l0.length:Int) - 1)))=some r:=h
 clear h
 have H':=zS H
 clear H
 obtain ⟨Ao2,co2,eo2⟩:=Kd.R_slice HO0.out
 subst eo2
 go_enter Tryz.func126,Tryz.ntmps126
 go_wp2
 go_loopg [2,3] k (fun kq v2 v3 w'=>∃ (aw:List Int) (an:Int) (ao:Int),v2 = .int .i64 an∧v3 = .int .i64 ao∧Sd (slices_Reverse_byte_byte.l0 kq aw an ao=some r)∧Sd (kq≤k)∧Sd (Kd.R (Kd.int .u8) 5 w' w0.heap.size (fun k_=>(P0_ k_∨w.heap.size≤k_)) (.slice Ao2 l0.length co2) aw)∧Sd (Kept w w' (fun k_=>P0_ k_))∧Sd (Below w0.heap.size w0 w'))
 case atStart=>exact ⟨(l0),(0),(wrap64 ((l0.length:Int) - 1)),(by first|rfl|(simp;done)|(simp [*];done)),(by first|rfl|(simp;done)|(simp [*];done)),H',⟨Nat.le_refl _⟩,⟨ro HO0⟩,⟨by repeat (first|(with_reducible first|exact HK.out|apply Kept.alloc|apply Kept.drewN|apply Kept.drew)|exact HK.out)⟩,⟨bl HB⟩⟩
 case round=>
  clear H'
  try clear c1
  try clear p2
  obtain ⟨aw,an,ao,rfl,rfl,HA,HK1,HO_0,HK,HB⟩:=hrel
  have hl0_1:=(Kd.R_reads' HO_0.out).1
  rw [hl0_1] at HO_0
  (try simp only [hl0_1])
  cases gk with
  | zero=>exact absurd HA.out (by simp [slices_Reverse_byte_byte.l0])
  | succ k1=>
   have H:=HA.out
   clear HA
   simp only [slices_Reverse_byte_byte.l0] at H
   by_cases c3:an<ao
   rotate_left
   ·rw [if_neg c3] at H
    have b0:=zD c3
    clear c3
    obtain rfl:=zE H
    go_wp2
    first|go_end0|((try simp only [Exit.inBlock,Exit.then]);refine bodyPost_ret (results_none rfl _ _ _) rfl ?_)
    exact ⟨by first|rfl|(simp <;> rfl)|(simp [*] <;> rfl),(by first|exact (ro HO_0)|(simp only [hl0_1];exact (ro HO_0))),bl HB,by repeat (first|(with_reducible first|exact HK.out|apply Kept.alloc|apply Kept.drewN|apply Kept.drew)|exact HK.out)⟩
   rw [if_pos c3] at H
   have b0:=zC c3
   clear c3
   by_cases c4:0≤ao
   rotate_left
   ·rw [if_neg c4] at H
    exact absurd H (by simp)
   rw [if_pos c4] at H
   have ci:=zC c4
   clear c4
   by_cases c5:ao<(aw.length:Int)
   rotate_left
   ·rw [if_neg c5] at H
    exact absurd H (by simp)
   rw [if_pos c5] at H
   have bB:=zC c5
   clear c5
   by_cases c6:0≤an
   rotate_left
   ·rw [if_neg c6] at H
    exact absurd H (by simp)
   rw [if_pos c6] at H
   have dU:=zC c6
   clear c6
   by_cases c7:an<(aw.length:Int)
   rotate_left
   ·rw [if_neg c7] at H
    exact absurd H (by simp)
   rw [if_pos c7] at H
   have dV:=zC c7
   clear c7
   obtain ⟨cj,a3⟩:∃ y_:List Int,y_=(aw.set (an:Int).toNat (rd aw ao)):=⟨_,rfl⟩
   replace H:(slices_Reverse_byte_byte.l0 k1 (cj.set (ao:Int).toNat (rd aw an)) (wrap64 (an+1)) (wrap64 (ao - 1)))=some r:=by first|(rw [a3];with_reducible exact H)|(have H2_:=(Option.bind_some _ _).symm.trans H;rw [a3];with_reducible exact H2_)|(have H2_:=(Option.bind_some _ _).symm.trans H;with_reducible exact H2_)|with_reducible exact H|(rw [a3];exact H)|exact H
   have ck:=zS a3
   clear a3
   obtain ⟨cl,a4⟩:∃ y_:List Int,y_=(cj.set (ao:Int).toNat (rd aw an)):=⟨_,rfl⟩
   replace H:(slices_Reverse_byte_byte.l0 k1 cl (wrap64 (an+1)) (wrap64 (ao - 1)))=some r:=by first|(rw [a4];with_reducible exact H)|(have H2_:=(Option.bind_some _ _).symm.trans H;rw [a4];with_reducible exact H2_)|(have H2_:=(Option.bind_some _ _).symm.trans H;with_reducible exact H2_)|with_reducible exact H|(rw [a4];exact H)|exact H
   have cm:=zS a4
   clear a4
   have H':=zS H
   clear H
   try go_wp2
   replace HO_0:=zS (Kd.R_drew HO_0.out)
   replace HK:=zS (Kept.drew HK.out)
   replace HB:=zS (below_drew1 HB.out)
   have b1:0≤(ao:Int):=zB (by first|(with_reducible assumption)|assumption)
   have b2:ao<(aw.length:Int):=zB (by first|(with_reducible assumption)|assumption)
   obtain ⟨cn,cK,aP⟩:=Kd.at_int (Kd.R_reads' HO_0.out).2.2 ao b1 b2
   cases cK
   replace b1:=eq_true b1
   replace b2:=eq_true b2
   have b3:0≤(an:Int):=zB (by first|(with_reducible assumption)|assumption)
   have b4:an<(aw.length:Int):=zB (by first|(with_reducible assumption)|assumption)
   obtain ⟨co,cL,aQ⟩:=Kd.at_int (Kd.R_reads' HO_0.out).2.2 an b3 b4
   obtain rfl:cn=co:=(by injection cL)
   replace b3:=eq_true b3
   replace b4:=eq_true b4
   have p8:0≤(an:Int):=zB (by first|(with_reducible assumption)|assumption)
   have q8:(an:Int)<((aw.length:Int):Int):=zB (by first|(with_reducible assumption)|assumption)
   obtain ⟨go8,co8,eo8,gb8,gl8,cl8,HG8⟩:=Kd.R_form HO_0.out (by omega)
   (first|cases eo8|(injection eo8 with ea_ en_ ec_;(first|subst ea_|(injection ea_ with ea_;subst ea_));subst ec_;clear en_))
   have GB8:=zS gb8
   have GG8:=zS HG8
   clear gb8 gl8 HG8
   have HMgo8:=zS (show (P0_ go8∨w.heap.size≤go8) from (HO_0.out.1 _ rfl))
   (first|simp only [add_plain] at aP|skip)
   (first|simp only [add_plain] at aQ|skip)
   obtain ⟨cp,hf8_0⟩:=Kd.R_celln 0 HO_0.out (an:Int) p8 q8
   replace p8:=eq_true p8
   replace q8:=eq_true q8
   have HP11:=Kd.R_putn HO_0.out (an:Int) (rd aw ao)
   rw [← ck.out] at HP11
   have HQ11:=zS HP11
   clear HP11
   have p9:0≤(ao:Int):=zB (by first|(with_reducible assumption)|assumption)
   have q9:(ao:Int)<((aw.length:Int):Int):=zB (by first|(with_reducible assumption)|assumption)
   obtain ⟨cq,hf9_0⟩:=Kd.R_celln 0 HQ11.out (ao:Int) p9 q9
   replace p9:=eq_true p9
   replace q9:=eq_true q9
   have HP12:=Kd.R_putn HQ11.out (ao:Int) (rd aw an)
   rw [← cm.out] at HP12
   have HQ12:=zS HP12
   clear HP12
   refine start_ (n:=16) (S:=fun w'=>w'.cell? ⟨go8,(ao).toNat,none⟩=some (.int .u8 (rd aw ao))∧w'.cell? ⟨go8,(an).toNat,none⟩=some (.int .u8 (rd aw an))) (ds:=[13,15]) (bZ 16 0) (by kernel_rfl) rfl (by kernel_rfl) ⟨aP,aQ⟩ (fun hHeld=>?_);refine with_tabW slices_Reverse_byte_byte.tab3 slices_Reverse_byte_byte.bits3 (fun HT_ HW_=>?_)
   generalize wr.drew=w10 at HO_0 HK HB GG8 HQ11 HQ12 hf8_0 hf9_0 aP aQ cp cq hHeld ⊢
   refine p1 0 14 1 HT_ (v:=?_) ?_ (a':=?_) ?_ ?_
   rotate_left
   ·intro w';go_simp;with_reducible rfl
   rotate_left
   ·simp only [Act.put,sA,sB,sC,i64_w,i32_w];rfl
   refine p1 1 15 3 HT_ (v:=?_) ?_ (a':=?_) ?_ ?_
   rotate_left
   ·intro w';go_simp;with_reducible rfl
   rotate_left
   ·simp only [Act.put,sA,sB,sC,i64_w,i32_w];rfl
   refine p1 2 16 7 HT_ (v:=?_) ?_ (a':=?_) ?_ ?_
   rotate_left
   ·intro w';go_simp;with_reducible rfl
   rotate_left
   ·simp only [Act.put,sA,sB,sC,i64_w,i32_w];rfl
   refine p1 3 17 15 HT_ (v:=?_) ?_ (a':=?_) ?_ ?_
   rotate_left
   ·intro w';go_simp;with_reducible rfl
   rotate_left
   ·simp only [Act.put,sA,sB,sC,i64_w,i32_w];rfl
   refine p1 4 18 31 HT_ (v:=?_) ?_ (a':=?_) ?_ ?_
   rotate_left
   ·intro w';go_simp;with_reducible rfl
   rotate_left
   ·simp only [Act.put,sA,sB,sC,i64_w,i32_w];rfl
   refine p1 5 19 63 HT_ (v:=?_) ?_ (a':=?_) ?_ ?_
   rotate_left
   ·intro w';go_simp;with_reducible rfl
   rotate_left
   ·simp only [Act.put,sA,sB,sC,i64_w,i32_w];rfl
   refine p1 6 20 127 HT_ (v:=?_) ?_ (a':=?_) ?_ ?_
   rotate_left
   ·intro w';go_simp;with_reducible rfl
   rotate_left
   ·simp only [Act.put,sA,sB,sC,i64_w,i32_w];rfl
   refine p1 8 22 383 HT_ (v:=?_) ?_ (a':=?_) ?_ ?_
   rotate_left
   ·intro w';go_simp;with_reducible rfl
   rotate_left
   ·simp only [Act.put,sA,sB,sC,i64_w,i32_w];rfl
   refine p1 9 23 895 HT_ (v:=?_) ?_ (a':=?_) ?_ ?_
   rotate_left
   ·intro w';go_simp;with_reducible rfl
   rotate_left
   ·simp only [Act.put,sA,sB,sC,i64_w,i32_w];rfl
   refine p1 10 24 1919 HT_ (v:=?_) ?_ (a':=?_) ?_ ?_
   rotate_left
   ·intro w';go_simp;with_reducible rfl
   rotate_left
   ·simp only [Act.put,sA,sB,sC,i64_w,i32_w];rfl
   refine p2 7 21 2047 HT_ HW_ (v:=?_) ?_ hHeld (a':=?_) ?_ ?_
   rotate_left
   ·rintro w' ⟨s0,s1⟩;go_simp;with_reducible rfl
   rotate_left
   ·simp only [Act.put,sA,sB,sC,i64_w,i32_w];rfl
   refine p2 11 25 4095 HT_ HW_ (v:=?_) ?_ hHeld (a':=?_) ?_ ?_
   rotate_left
   ·rintro w' ⟨s0,s1⟩;go_simp;with_reducible rfl
   rotate_left
   ·simp only [Act.put,sA,sB,sC,i64_w,i32_w];rfl
   refine p1 12 26 8191 HT_ (v:=?_) ?_ (a':=?_) ?_ ?_
   rotate_left
   ·intro w';go_simp;with_reducible rfl
   rotate_left
   ·simp only [Act.put,sA,sB,sC,i64_w,i32_w];rfl
   refine last_ (i:=13) (N:=none) (bZ 16 16383) rfl rfl (one_of HT_.out (by kernel_rfl)) (by decide) (fun K hK=>?_)
   refine skip_ (w1:=?_) (by rfl) rfl ?_ ?_
   rotate_left
   ·go_simp
    rfl
   refine hK.out _ _ ?_
   clear hK K
   refine p1 14 27 32767 HT_ (v:=?_) ?_ (a':=?_) ?_ ?_
   rotate_left
   ·intro w';go_simp;with_reducible rfl
   rotate_left
   ·simp only [Act.put,sA,sB,sC,i64_w,i32_w];rfl
   refine last_ (i:=15) (N:=none) (bZ 16 65535) rfl rfl (one_of HT_.out (by kernel_rfl)) (by decide) (fun K hK=>?_)
   refine skip_ (w1:=?_) (by rfl) rfl ?_ ?_
   rotate_left
   ·go_simp
    rfl
   refine hK.out _ _ ?_
   clear hK K
   refine done_ (done_of HT_.out (by kernel_rfl)) ?_
   try go_wp2
   (try simp only [← hl0_1])
   go_roundg k1
   case measure=>have:=HK1.out;omega
   case rel=>exact ⟨(cl),(wrap64 (an+1)),(wrap64 (ao - 1)),(by first|rfl|(simp;done)|(simp [*];done)),(by first|rfl|(simp;done)|(simp [*];done)),H',⟨by have:=HK1.out;omega⟩,⟨by (try simp only [hl0_1]);(with_reducible repeat (first|apply Kd.R_alloc|apply Kd.R_drewN|apply Kd.R_drew));exact HQ12.out⟩,⟨by repeat (first|(with_reducible first|exact HK.out|apply Kept.alloc|apply Kept.drewN|apply Kept.drew|refine Kept.setCell ?_ HMgo8.out _|refine Kept.setCell ?_ HMgo8.out _)|exact HK.out)⟩,⟨by repeat (first|(with_reducible first|exact HB.out|apply below_alloc|apply pw_below_drewN|apply below_drew1|refine below_set ?_ GB8.out|refine below_set ?_ GB8.out)|exact HB.out)⟩⟩
end Go.Proofs.YtklebhlanidloaaGreatDoor.PZ
end
end
