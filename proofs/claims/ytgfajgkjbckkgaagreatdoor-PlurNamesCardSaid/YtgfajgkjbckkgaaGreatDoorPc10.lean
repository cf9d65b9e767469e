/- Texts of this seat, joined. Conditions: none beyond each statement's own. -/
import Derived.Test.YtgfajgkjbckkgaaGreatDoorPc07
import Derived.Test.YtgfajgkjbckkgaaGreatDoorPc06
set_option linter.all false
section
noncomputable section
namespace Go.Proofs.YtgfajgkjbckkgaaGreatDoor.PZ
open Go.RowKit Go.Proofs.YtgfajgkjbckkgaaGreatDoorW.PrintWords Go.Proofs.YtgfajgkjbckkgaaGreatDoorW.PrintLast Go.Proofs.YtgfajgkjbckkgaaGreatDoorW.PrintMore
attribute [local go_sem] max2_int min2_int max_two min_two max_three min_three max_four min_four   -- for this text's walks alone
def oper_told_t.f (ai:List Int)(aa:List Int)(ab:Int)(an:Int):Option (List Int):=if 0≤ab then (if ab≤(aa.length:Int) then ((oper_bare.f (aa.take (ab:Int).toNat)).bind fun aj=>(some aj)) else (none)) else (none)
set_option maxHeartbeats 8000000 in
set_option maxRecDepth 100000 in
theorem oper_told_t.calls (ar:Option Addr)(au:Nat)(ai:List Int)(ae:Nat→Prop)(af:Option Addr)(ad:Nat)(aa:List Int)(ab:Int)(an:Int)(r:List Int)(w:World)(ao:Kd.C (Kd.int .u8) w ar ai.length ai)(ap:ai.length≤au)(av:Kd.V (Kd.int .u8) 5 w w.heap.size (fun k_=>ae k_) (.slice af aa.length ad) aa)(h:oper_told_t.f ai aa ab an=some r) :
  Calls Tryz.prog 105 #[.agg #[.slice ar ai.length au,.slice af aa.length ad,.int .i64 ab,.int .i64 an]] w fun e w'=>∃ v0_:Value,e = .returned (v0_)∧Kd.V (Kd.int .u8) 5 w' w.heap.size (fun k_=>(ae k_∨w.heap.size≤k_)) v0_ r∧Below w.heap.size w w':=by
 have hu136:=Tryz.underlying136
 have ax:=zS ao
 have ay:=zS ap
 clear ao ap
 have ac:=zS (show Kd.V (Kd.int .u8) 5 w w.heap.size (fun k_=>(ae k_∨w.heap.size≤k_)) (.slice af aa.length ad) aa from Kd.V_mono av (fun k_ hk=>.inl hk))
 have HB:=zS (Below.refl w.heap.size w)
 have H:(if 0≤ab then (if ab≤(aa.length:Int) then ((oper_bare.f (aa.take (ab:Int).toNat)).bind fun aj=>(some aj)) else (none)) else (none))=some r:=h
 clear h
 by_cases c2:0≤ab
 rotate_left
 ·rw [if_neg c2] at H
  exact absurd H (by simp)
 rw [if_pos c2] at H
 have aB:=eq_true c2
 have aC:=zC c2
 clear c2
 by_cases c3:ab≤(aa.length:Int)
 rotate_left
 ·rw [if_neg c3] at H
  exact absurd H (by simp)
 rw [if_pos c3] at H
 have aD:=eq_true c3
 have aE:=zC c3
 clear c3
 obtain ⟨ak,ag⟩:∃ y_:List Int,y_=(aa.take (ab:Int).toNat):=⟨_,rfl⟩
 replace H:((oper_bare.f ak).bind fun aj=>(some aj))=some r:=by first|(rw [ag];with_reducible exact H)|(have H2_:=(Option.bind_some _ _).symm.trans H;rw [ag];with_reducible exact H2_)|(have H2_:=(Option.bind_some _ _).symm.trans H;with_reducible exact H2_)|with_reducible exact H|(rw [ag];exact H)|exact H
 have aq:=zS ag
 clear ag
 replace H:=Option.bind_eq_some_iff.mp H
 obtain ⟨aj,A40,H⟩:=H
 try dsimp only at H
 have A4:=zS A40
 clear A40
 obtain rfl:=zE H
 go_enter Tryz.func105,Tryz.ntmps105
 go_wp2_with (first|((with_reducible refine gate_dst (N:=1) rfl ?_);refine box_event ?hg (N:=1) ?hd (cs:=#[.slice ar ai.length au,.slice af aa.length ad,.int .i64 ab,.int .i64 an]) (t:=136) ?hr ?_;(case hd=>rfl);(case hg=>rfl);(case hr=>first|(go_simp;done)|(go_simp;rfl));intro al hg w5 hbox hb;replace ac:=zS (Kd.V_below (Kd.V_elderB (vo ac) al (Nat.le_of_eq hg.symm)) hb);have ah:=zS (hbox);have az:=bg HB hg;replace HB:=bs HB hb;clear hb hbox hg;have aF:=blkc4 ah.out;have aG:=blkf4 ah.out;have q7:(ab:Int)≤((aa.length:Int):Int):=zB (by first|(with_reducible assumption)|assumption);obtain ⟨i07,hi07,_,hsz7,_⟩:=info_parts info5;have hroom7:aa.length≤ad:=(Kd.V_reads' ac.out).2.1;have hC7:Kd.F (Kd.int .u8) _ _ af aa.length aa:=(Kd.V_at (base:=w.heap.size) ac.out).2.2;have hcut7:=cut_to (P:=Tryz.prog) 34 5 .i64 Tryz.underlying34 hi07 af aa.length ad ab (zB (by first|(with_reducible assumption)|assumption)) q7 hroom7;have hr7:=Kd.F_take (m:=(ab:Int).toNat) hC7 (by omega);have hy7:ak.length=(ab:Int).toNat:=(by rw [aq.out,List.length_take];omega);rw [← aq.out] at hr7;rw [← hy7] at hcut7;have am:=zS (show Kd.V (Kd.int .u8) 5 _ w.heap.size _ (.slice af ak.length ad) ak from Kd.V_mk (by omega) hr7);have aA:=zS (show ak.length≤ad from by omega);clear hr7 hC7 hroom7 hi07 hsz7;have KY7:=zS hy7;clear hy7;replace q7:=eq_true q7)|((with_reducible refine gate_callee (f:=107) rfl ?_);refine gL (some 8) Tryz.func107 #[.slice af ak.length ad] ?_;(with_reducible refine (oper_bare.calls (fun k_=>((ae k_∨w.heap.size≤k_)∧k_≠al)) _ _ ak aj _ ?side1 A4.out).mono ?_);(case side1=>exact am.out);rintro e w8 ⟨aH,rfl,ho0,hb⟩;refine ⟨_,rfl,?_⟩;replace ac:=vb ac hb;replace am:=vb am hb;have aw:=zS (Kd.V_lower (Kd.V_mono (ok':=fun k_=>(ae k_∨w.heap.size≤k_)∧k_≠al) ho0 (fun k_ hk_=>⟨Or.elim hk_ (fun hs_=>hs_.1) (fun hn_=>(.inr (Nat.le_trans (bz HB) hn_))),Or.elim hk_ (fun hs_=>hs_.2) (fun hn_=>(Kd.freshB (ko ah) k_ hn_))⟩)) (bz HB));replace ah:=kb ah hb;replace HB:=bs HB hb;(try clear hb);(try clear ho0)))
 go_ret
 exact ⟨_,by first|rfl|(simp <;> rfl)|(simp [*] <;> rfl),by (with_reducible repeat (first|apply Kd.V_alloc|apply Kd.V_drewN|apply Kd.V_drew));exact Kd.V_mono aw.out (fun _ hk=>hk.1),bQ HB⟩
end Go.Proofs.YtgfajgkjbckkgaaGreatDoor.PZ
end
end
section
noncomputable section
namespace Go.Proofs.YtgfajgkjbckkgaaGreatDoor.PZ
open Go.RowKit Go.Proofs.YtgfajgkjbckkgaaGreatDoorW.PrintWords Go.Proofs.YtgfajgkjbckkgaaGreatDoorW.PrintLast Go.Proofs.YtgfajgkjbckkgaaGreatDoorW.PrintMore
attribute [local go_sem] max2_int min2_int max_two min_two max_three min_three max_four min_four   -- for this text's walks alone
def oper_compared.f (l0:List Int)(l1:List Int):Option (Int):=if (l0.length:Int)=(l1.length:Int) then ((bytes_Compare.f l0 l1).bind fun aa=>(some aa)) else (some (wrap64 ((l0.length:Int) - (l1.length:Int))))
set_option maxHeartbeats 8000000 in
set_option maxRecDepth 100000 in
theorem oper_compared.calls (A0:Option Addr)(c0:Nat)(l0:List Int)(A1:Option Addr)(c1:Nat)(l1:List Int)(r:Int)(w:World)(hr0:Kd.C (Kd.int .u8) w A0 l0.length l0)(hc0:l0.length≤c0)(hr1:Kd.C (Kd.int .u8) w A1 l1.length l1)(hc1:l1.length≤c1)(h:oper_compared.f l0 l1=some r) :
  Calls Tryz.prog 108 #[.slice A0 l0.length c0,.slice A1 l1.length c1] w fun e w'=>e = .returned (.int .i64 r)∧Drawn0 w w':=by
 have HR0:=zS hr0
 have HC0:=zS hc0
 clear hr0 hc0
 have HR1:=zS hr1
 have HC1:=zS hc1
 clear hr1 hc1
 have H:(if (l0.length:Int)=(l1.length:Int) then ((bytes_Compare.f l0 l1).bind fun aa=>(some aa)) else (some (wrap64 ((l0.length:Int) - (l1.length:Int)))))=some r:=h
 clear h
 by_cases c3:(l0.length:Int)=(l1.length:Int)
 ·rw [if_pos c3] at H
  have ab:((l0.length:Int) == (l1.length:Int))=true:=zH c3
  have ac:((l0.length:Int) != (l1.length:Int))=false:=zG c3
  have ad:(l0.length == l1.length)=true:=by first|simpa using c3|(simp at c3 ⊢;omega)
  clear c3
  replace H:=Option.bind_eq_some_iff.mp H
  obtain ⟨aa,A40,H⟩:=H
  try dsimp only at H
  have A4:=zS A40
  clear A40
  obtain rfl:=zE H
  go_enter Tryz.func108,Tryz.ntmps108
  go_wp2_with (first|((with_reducible refine gate_callee (f:=119) rfl ?_);refine gL (some 17) Tryz.func119 #[.slice A0 l0.length c0,.slice A1 l1.length c1] ?_;(with_reducible refine (bytes_Compare.calls _ _ l0 _ _ l1 aa _ ?side1 HC0.out ?side3 HC1.out A4.out).mono ?_);(case side1=>repeat (first|exact HR0.out|(with_reducible refine Kd.C_alloc ?_ _)|(with_reducible refine Kd.C_drewN ?_ _)|(with_reducible refine Kd.C_drew ?_)));(case side3=>repeat (first|exact HR1.out|(with_reducible refine Kd.C_alloc ?_ _)|(with_reducible refine Kd.C_drewN ?_ _)|(with_reducible refine Kd.C_drew ?_)));rintro e w' ⟨rfl,⟨nd,rfl⟩⟩;refine ⟨_,rfl,?_⟩))
  go_ret
  exact ⟨by first|rfl|(simp;done)|(simp [*];done),by repeat (first|exact Drawn0.refl _|apply Drawn0.step)⟩
 rw [if_neg c3] at H
 have ab:((l0.length:Int) == (l1.length:Int))=false:=zF c3
 have ac:((l0.length:Int) != (l1.length:Int))=true:=zI c3
 have ad:(l0.length == l1.length)=false:=by first|simpa using c3|(simp at c3 ⊢;omega)
 obtain rfl:=zE H
 go_enter Tryz.func108,Tryz.ntmps108
 go_wp2
 go_ret
 exact ⟨by first|rfl|(simp;done)|(simp [*];done),by repeat (first|exact Drawn0.refl _|apply Drawn0.step)⟩
end Go.Proofs.YtgfajgkjbckkgaaGreatDoor.PZ
end
end
section
set_option maxRecDepth 100000
namespace Go.Proofs.YtgfajgkjbckkgaaGreatDoor.PZ
open Go.RowKit Go.Proofs.YtgfajgkjbckkgaaGreatDoorW.PrintWords Go.Proofs.YtgfajgkjbckkgaaGreatDoorW.PrintLast
def oper_number.f (n:Int):Option (List Int):=if -9223372036854775808≤n∧n≤9223372036854775807 then some (if n=0 then [] else (bytesOf (numText n)).map lessB) else none
set_option maxHeartbeats 1000000 in
theorem oper_number.calls (a0:Int)(r:List Int)(w:World)(hG:GL w)(h:oper_number.f a0=some r) :
    Calls Tryz.prog 109 #[.int .i64 a0] w fun e w'=>∃ v0_:Value,e = .returned (v0_)∧Kd.V (Kd.int .u8) 5 w' w.heap.size (fun k_=>w.heap.size≤k_) v0_ r∧Below w.heap.size w w':=by
 unfold oper_number.f at h
 by_cases hb : -9223372036854775808≤a0∧a0≤9223372036854775807
 rotate_left
 ·rw [if_neg hb] at h
  cases h
 rw [if_pos hb] at h
 obtain rfl:=zE h
 clear h
 by_cases h0:a0=0
 ·subst h0
  simp only [if_true]
  go_enter Tryz.func109,Tryz.ntmps109
  go_wp2
  go_ret
  exact ⟨_,rfl,Kd.V_nil _ _ _ _ _,Below.refl _ _⟩
 rw [if_neg h0]
 have e0:(a0 == 0)=false:=by simpa using h0
 have hsz:=numText_size a0 hb.1 hb.2
 have hIt:=strconv_Itoa.calls a0 (numText a0) w hG (by unfold strconv_Itoa.f numText;rw [if_pos hb])
 have hlen:(bytesOf (numText a0)).length=(numText a0).size:=bytesOf_length _
 clear hb h0 hG
 generalize numText a0=s at *
 have kc:=fun (W:World)=>print_bytes (P:=Tryz.prog) 9 34 5 Tryz.underlying9 Tryz.underlying34 Tryz.underlying5 s W
 have HSZ:=zA hsz
 have HLEN:=zA hlen
 clear hsz hlen
 go_enter Tryz.func109,Tryz.ntmps109
 go_wp2_with (go_at_call 75;refine hIt.mono ?_;rintro e w1 ⟨rfl,hb1⟩;have HB1:=zA hb1;clear hb1)
 have H0:=zA (MixSt.start w1 s)
 have HB2:=zA (bytes_below HB1.out HB1.out.size 5 s)
 go_loopg [4,12] s.size (fun gg _ s12 wr=>∃ k:Nat,k≤s.size∧s.size - k≤gg∧s12 = .int .i64 k∧Aside0 (MixSt w1.heap.size (bytesOf s) k wr)∧Aside0 (Below w.heap.size w wr))
 case atStart=>exact ⟨0,Nat.zero_le _,by omega,rfl,H0,HB2⟩
 case round=>
  obtain ⟨k,hk,hg,rfl,HM,HB⟩:=hrel
  have hs21:=HSZ.out
  by_cases hlt:k<s.size
  ·have hlt1:=zC hlt
   obtain ⟨hcell,hfz⟩:=HM.out.2 k (by rw [HLEN.out];exact hlt)
   rw [if_neg (Nat.lt_irrefl k)] at hcell
   have HP:=zA (HM.out.put (by rw [HLEN.out];exact hlt))
   generalize hy:rd (bytesOf s) (k:Int)=y at hcell HP
   clear hy
   go_wp2
   go_roundg (s.size - (k+1))
   case measure=>omega
   case rel=>exact ⟨k+1,by omega,by omega,by go_num,HP,⟨Below.setCell HB.out HB1.out.size _⟩⟩
  have:k=s.size:=by omega
  subst this
  have hlt1:=zD hlt
  go_wp2
  go_ret
  have hd:=HM.out
  rw [← HLEN.out] at hd
  have hV:=hd.done w.heap.size HB1.out.size (grownCap w1 s.size 0 5) (by rw [HLEN.out];exact grownCap_ge _ _ _ _) (by rw [HLEN.out];omega)
  rw [HLEN.out] at hV
  exact ⟨_,rfl,hV,HB.out⟩
section
theorem rg_at {w:World}{A:Option Addr}{n:Nat}{xs:List Rg}(h:Kd.C k57 w A n xs)(i:Nat)(hi:i<n) :
    ∃ ad,A=some ad∧w.cell? (ad.add (i * 2))=some (.int .i64 (xs.getD i ⟨0,0⟩).f0)∧w.cell? ⟨(ad.add (i * 2)).block,(ad.add (i * 2)).off+1,none⟩=some (.int .i64 (xs.getD i ⟨0,0⟩).f1):=by
 have:=at_T57 h (i:Int) (by omega) (by omega)
 simpa [rd_T57,z57] using this
theorem rel_at {w:World}{A:Option Addr}{n:Nat}{xs:List Rl}(h:Kd.C k60 w A n xs)(i:Nat)(hi:i<n) :
    ∃ ad A3 c3,A=some ad∧w.cell? (ad.add (i * 4))=some (.int .u8 (xs.getD i ⟨0,0,false,[]⟩).f0)∧w.cell? ⟨(ad.add (i * 4)).block,(ad.add (i * 4)).off+1,none⟩=some (.int .i64 (xs.getD i ⟨0,0,false,[]⟩).f1)∧w.cell? ⟨(ad.add (i * 4)).block,(ad.add (i * 4)).off+2,none⟩=some (.bool (xs.getD i ⟨0,0,false,[]⟩).f2) ∧
      w.cell? ⟨(ad.add (i * 4)).block,(ad.add (i * 4)).off+3,none⟩=some (.slice A3 (xs.getD i ⟨0,0,false,[]⟩).f3.length c3)∧(xs.getD i ⟨0,0,false,[]⟩).f3.length≤c3∧Kd.C k57 w A3 (xs.getD i ⟨0,0,false,[]⟩).f3.length (xs.getD i ⟨0,0,false,[]⟩).f3:=by
 have:=at_T60 h (i:Int) (by omega) (by omega)
 simpa [rd_T60,z60] using this
theorem row_at {w:World}{A:Option Addr}{n:Nat}{xs:List (List Rl)}(h:Kd.C (Kd.slice 60 k60) w A n xs)(i:Nat)(hi:i<n) :
    ∃ ad A0 c0,A=some ad∧w.cell? (ad.add i)=some (.slice A0 (xs.getD i []).length c0)∧(xs.getD i []).length≤c0∧Kd.C k60 w A0 (xs.getD i []).length (xs.getD i []):=by
 obtain ⟨ad,c,e,hl,hK,hc⟩:=Kd.C_get h ([]:List Rl) (i:Int) (by omega) (by omega)
 simp only [Int.toNat_natCast] at hK hc
 obtain ⟨A0,c0,rfl,h1,h2⟩:=hK
 have:=hc 0 _ rfl
 have hz:(Kd.slice 60 k60).sz=1:=rfl
 rw [hz,Nat.mul_one,Nat.add_zero] at this
 exact ⟨ad,A0,c0,e,this,h1,h2⟩
section
variable {α:Type}{xs ys:List α}
theorem same_more {k:Nat}(z:α)(hl:xs.length=ys.length)(hk:k<xs.length)(h:xs.take k=ys.take k)(he:xs.getD k z=ys.getD k z):xs.take (k+1)=ys.take (k+1):=by
 rw [List.take_succ_eq_append_getElem hk,List.take_succ_eq_append_getElem (by omega),h]
 congr 2
 simpa [List.getD_eq_getElem?_getD,List.getElem?_eq_getElem hk,List.getElem?_eq_getElem (show k<ys.length by omega)] using he
theorem same_end {k:Nat}(hl:xs.length=ys.length)(hk:k=xs.length)(h:xs.take k=ys.take k):xs=ys:=by
 rw [List.take_of_length_le (by omega),List.take_of_length_le (by omega)] at h
 exact h
theorem same_not {k:Nat}(z:α)(he:xs.getD k z≠ys.getD k z):xs≠ys:=fun h=>he (by rw [h])
end
end
end Go.Proofs.YtgfajgkjbckkgaaGreatDoor.PZ
end
section
noncomputable section
namespace Go.Proofs.YtgfajgkjbckkgaaGreatDoor.PZ
open Go.RowKit Go.Proofs.YtgfajgkjbckkgaaGreatDoorW.PrintWords Go.Proofs.YtgfajgkjbckkgaaGreatDoorW.PrintLast Go.Proofs.YtgfajgkjbckkgaaGreatDoorW.PrintMore
attribute [local go_sem] max2_int min2_int max_two min_two max_three min_three max_four min_four   -- for this text's walks alone
end Go.Proofs.YtgfajgkjbckkgaaGreatDoor.PZ
end
end
