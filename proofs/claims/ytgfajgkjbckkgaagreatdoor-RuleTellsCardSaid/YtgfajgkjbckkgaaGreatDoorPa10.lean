/- Texts of this seat, joined. Conditions: none beyond each statement's own. -/
import Derived.Test.YtgfajgkjbckkgaaGreatDoorPa07
section
set_option maxRecDepth 100000
namespace Go.Proofs.YtgfajgkjbckkgaaGreatDoor.PZ
open Go.RowKit Go.Proofs.YtgfajgkjbckkgaaGreatDoorW.PrintWords Go.Proofs.YtgfajgkjbckkgaaGreatDoorW.PrintLast
def oper_number.f (n:Int):Option (List Int):=if -9223372036854775808≤n∧n≤9223372036854775807 then some (if n=0 then [] else (bytesOf (numText n)).map lessB) else none
set_option maxHeartbeats 1000000 in
theorem oper_number.calls (a0:Int)(r:List Int)(w:World)(hG:GL w)(h:oper_number.f a0=some r) :
    Calls Tryz.prog 109 #[.int .i64 a0] w fun e w'=>∃ v0_:Value,e = .returned (v0_)∧Kd.V (Kd.int .u8) 5 w' w.heap.size (fun k_=>w.heap.size≤k_) v0_ r∧Below w.heap.size w w':=by
 unfold oper_number.f at h
 by_cases hb : -9223372036854775808≤a0∧a0≤9223372036854775807
 rotate_left
 ·rw [if_neg hb] at h
  cases h
 rw [if_pos hb] at h
 obtain rfl:=Option.some.inj h
 clear h
 by_cases h0:a0=0
 ·subst h0
  simp only [if_true]
  go_enter Tryz.func109,Tryz.ntmps109
  go_wp2
  go_ret
  exact ⟨_,rfl,Kd.V_nil _ _ _ _ _,Below.refl _ _⟩
 rw [if_neg h0]
 have e0:(a0 == 0)=false:=by simpa using h0
 have hsz:=numText_size a0 hb.1 hb.2
 have hIt:=strconv_Itoa.calls a0 (numText a0) w hG (by unfold strconv_Itoa.f numText;rw [if_pos hb])
 have hlen:(bytesOf (numText a0)).length=(numText a0).size:=bytesOf_length _
 clear hb h0 hG
 generalize numText a0=s at *
 have kc:=fun (W:World)=>print_bytes (P:=Tryz.prog) 9 34 5 Tryz.underlying9 Tryz.underlying34 Tryz.underlying5 s W
 have HSZ:=Aside0.mk hsz
 have HLEN:=Aside0.mk hlen
 clear hsz hlen
 go_enter Tryz.func109,Tryz.ntmps109
 go_wp2_with (go_at_call 75;refine hIt.mono ?_;rintro e w1 ⟨rfl,hb1⟩;have HB1:=Aside0.mk hb1;clear hb1)
 have H0:=Aside0.mk (MixSt.start w1 s)
 have HB2:=Aside0.mk (bytes_below HB1.out HB1.out.size 5 s)
 go_loopg [4,12] s.size (fun gg _ s12 wr=>∃ k:Nat,k≤s.size∧s.size - k≤gg∧s12 = .int .i64 k∧Aside0 (MixSt w1.heap.size (bytesOf s) k wr)∧Aside0 (Below w.heap.size w wr))
 case atStart=>exact ⟨0,Nat.zero_le _,by omega,rfl,H0,HB2⟩
 case round=>
  obtain ⟨k,hk,hg,rfl,HM,HB⟩:=hrel
  have hs21:=HSZ.out
  by_cases hlt:k<s.size
  ·have hlt1:=decide_eq_true hlt
   obtain ⟨hcell,hfz⟩:=HM.out.2 k (by rw [HLEN.out];exact hlt)
   rw [if_neg (Nat.lt_irrefl k)] at hcell
   have HP:=Aside0.mk (HM.out.put (by rw [HLEN.out];exact hlt))
   generalize hy:rd (bytesOf s) (k:Int)=y at hcell HP
   clear hy
   go_wp2
   go_roundg (s.size - (k+1))
   case measure=>omega
   case rel=>exact ⟨k+1,by omega,by omega,by go_num,HP,⟨Below.setCell HB.out HB1.out.size _⟩⟩
  have:k=s.size:=by omega
  subst this
  have hlt1:=decide_eq_false hlt
  go_wp2
  go_ret
  have hd:=HM.out
  rw [← HLEN.out] at hd
  have hV:=hd.done w.heap.size HB1.out.size (grownCap w1 s.size 0 5) (by rw [HLEN.out];exact grownCap_ge _ _ _ _) (by rw [HLEN.out];omega)
  rw [HLEN.out] at hV
  exact ⟨_,rfl,hV,HB.out⟩
end Go.Proofs.YtgfajgkjbckkgaaGreatDoor.PZ
end
section
set_option maxRecDepth 100000
set_option linter.unusedSimpArgs false
set_option linter.unusedVariables false
namespace Go.Proofs.YtgfajgkjbckkgaaGreatDoor.PZ
open Go.RowKit Go.Proofs.YtgfajgkjbckkgaaGreatDoorW.PrintWords Go.Proofs.YtgfajgkjbckkgaaGreatDoorW.PrintLast
theorem rg_at {w:World}{A:Option Addr}{n:Nat}{xs:List Rg}(h:Kd.C k57 w A n xs)(i:Nat)(hi:i<n) :
    ∃ ad,A=some ad∧w.cell? (ad.add (i * 2))=some (.int .i64 (xs.getD i ⟨0,0⟩).f0)∧w.cell? ⟨(ad.add (i * 2)).block,(ad.add (i * 2)).off+1,none⟩=some (.int .i64 (xs.getD i ⟨0,0⟩).f1):=by
 have:=at_T57 h (i:Int) (by omega) (by omega)
 simpa [rd_T57,z57] using this
theorem rel_at {w:World}{A:Option Addr}{n:Nat}{xs:List Rl}(h:Kd.C k60 w A n xs)(i:Nat)(hi:i<n) :
    ∃ ad A3 c3,A=some ad∧w.cell? (ad.add (i * 4))=some (.int .u8 (xs.getD i ⟨0,0,false,[]⟩).f0)∧w.cell? ⟨(ad.add (i * 4)).block,(ad.add (i * 4)).off+1,none⟩=some (.int .i64 (xs.getD i ⟨0,0,false,[]⟩).f1)∧w.cell? ⟨(ad.add (i * 4)).block,(ad.add (i * 4)).off+2,none⟩=some (.bool (xs.getD i ⟨0,0,false,[]⟩).f2) ∧
      w.cell? ⟨(ad.add (i * 4)).block,(ad.add (i * 4)).off+3,none⟩=some (.slice A3 (xs.getD i ⟨0,0,false,[]⟩).f3.length c3)∧(xs.getD i ⟨0,0,false,[]⟩).f3.length≤c3∧Kd.C k57 w A3 (xs.getD i ⟨0,0,false,[]⟩).f3.length (xs.getD i ⟨0,0,false,[]⟩).f3:=by
 have:=at_T60 h (i:Int) (by omega) (by omega)
 simpa [rd_T60,z60] using this
theorem row_at {w:World}{A:Option Addr}{n:Nat}{xs:List (List Rl)}(h:Kd.C (Kd.slice 60 k60) w A n xs)(i:Nat)(hi:i<n) :
    ∃ ad A0 c0,A=some ad∧w.cell? (ad.add i)=some (.slice A0 (xs.getD i []).length c0)∧(xs.getD i []).length≤c0∧Kd.C k60 w A0 (xs.getD i []).length (xs.getD i []):=by
 obtain ⟨ad,c,e,hl,hK,hc⟩:=Kd.C_get h ([]:List Rl) (i:Int) (by omega) (by omega)
 simp only [Int.toNat_natCast] at hK hc
 obtain ⟨A0,c0,rfl,h1,h2⟩:=hK
 have:=hc 0 _ rfl
 have hz:(Kd.slice 60 k60).sz=1:=rfl
 rw [hz,Nat.mul_one,Nat.add_zero] at this
 exact ⟨ad,A0,c0,e,this,h1,h2⟩
section
variable {α:Type}{xs ys:List α}
theorem same_more {k:Nat}(z:α)(hl:xs.length=ys.length)(hk:k<xs.length)(h:xs.take k=ys.take k)(he:xs.getD k z=ys.getD k z):xs.take (k+1)=ys.take (k+1):=by
 rw [List.take_succ_eq_append_getElem hk,List.take_succ_eq_append_getElem (by omega),h]
 congr 2
 simpa [List.getD_eq_getElem?_getD,List.getElem?_eq_getElem hk,List.getElem?_eq_getElem (show k<ys.length by omega)] using he
theorem same_end {k:Nat}(hl:xs.length=ys.length)(hk:k=xs.length)(h:xs.take k=ys.take k):xs=ys:=by
 rw [List.take_of_length_le (by omega),List.take_of_length_le (by omega)] at h
 exact h
theorem same_not {k:Nat}(z:α)(he:xs.getD k z≠ys.getD k z):xs≠ys:=fun h=>he (by rw [h])
end
end Go.Proofs.YtgfajgkjbckkgaaGreatDoor.PZ
end
section
set_option maxRecDepth 100000
set_option linter.unusedSimpArgs false
set_option linter.unusedVariables false
namespace Go.Proofs.YtgfajgkjbckkgaaGreatDoor.PZ
open Go.RowKit Go.Proofs.YtgfajgkjbckkgaaGreatDoorW.PrintWords Go.Proofs.YtgfajgkjbckkgaaGreatDoorW.PrintLast
def Bls (b:List Int):Prop:=∀ c ∈ b,c=32
theorem runL_cons (p:Int→Bool)(c:Int)(t:List Int):runL p (c :: t)=if p c then runL p t+1 else 0:=by
 unfold runL
 rw [List.takeWhile_cons]
 split <;> simp
theorem runL_le (p:Int→Bool)(t:List Int):runL p t≤t.length:=(List.takeWhile_sublist _).length_le
theorem pw_nat {n:Int}(h:0≤n):pw n=(digsN n.toNat).map chr:=by unfold pw;rw [if_neg (by omega)]
theorem decv_chr (l:List Int):decv (l.map chr)=num l:=by
 unfold decv num
 rw [List.foldl_map]
 congr 1
 funext n c
 unfold chr
 omega
def GoodG (r:Rg):Prop:=0≤r.f0∧r.f0≤r.f1∧r.f1≤999999999
def GoodX (x:Rl):Prop:=isOp x.f0=true∧0≤x.f1∧x.f1≤999999999∧x.f3≠[]∧∀ r ∈ x.f3,GoodG r
theorem op_low {c:Int}(h:isOp c=true):isLo c=true∧c≠32:=by
 unfold isOp at h
 unfold isLo
 simp at h
 simp
 omega
structure Sp (sp:List Int):Prop where
  bls:Bls sp
  ne:sp≠[]
theorem Sp.cons {sp:List Int}(h:Sp sp):∃ q,sp=32 :: q∧Bls q:=by
 match sp,h with
 | [],h=>exact absurd rfl h.ne
 | c :: q,h=>exact ⟨q,by rw [h.bls c (by simp)],fun x hx=>h.bls x (by simp [hx])⟩
def Ends (r:List (Rl×Bool)):Prop:=∃ a x,r=a ++ [(x,false)]
def wrd (o:Bool):List Int:=if o then wordOr else wordAnd
theorem runT_cons (sp:List Int)(x:Rl)(o:Bool){r:List (Rl×Bool)}(h:r≠[]):runT sp ((x,o) :: r)=relT sp x ++ (sp ++ (wrd o ++ (sp ++ runT sp r))):=by
 cases r with
 | nil=>exact absurd rfl h
 | cons y r=>rfl
end Go.Proofs.YtgfajgkjbckkgaaGreatDoor.PZ
end
