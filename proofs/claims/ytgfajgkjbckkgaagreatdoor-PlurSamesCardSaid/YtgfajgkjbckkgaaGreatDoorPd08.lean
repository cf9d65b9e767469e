/- Texts of this seat, joined. Conditions: none beyond each statement's own. -/
import Derived.Test.YtgfajgkjbckkgaaGreatDoorPd05
import Derived.Shelf.Abstract
import Derived.Handy
import Derived.Test.YtgfajgkjbckkgaaGreatDoorPd06
set_option linter.all false
section
set_option maxRecDepth 100000
namespace Go.Proofs.YtgfajgkjbckkgaaGreatDoor.PZ
open Go.RowKit Go.Proofs.YtgfajgkjbckkgaaGreatDoorW.PrintWords Go.Proofs.YtgfajgkjbckkgaaGreatDoorW.PrintLast
section
theorem rg_at {w:World}{A:Option Addr}{n:Nat}{xs:List Rg}(h:Kd.C k57 w A n xs)(i:Nat)(hi:i<n) :
    ∃ ad,A=some ad∧w.cell? (ad.add (i * 2))=some (.int .i64 (xs.getD i ⟨0,0⟩).f0)∧w.cell? ⟨(ad.add (i * 2)).block,(ad.add (i * 2)).off+1,none⟩=some (.int .i64 (xs.getD i ⟨0,0⟩).f1):=by
 have:=at_T57 h (i:Int) (by omega) (by omega)
 simpa [rd_T57,z57] using this
theorem rel_at {w:World}{A:Option Addr}{n:Nat}{xs:List Rl}(h:Kd.C k60 w A n xs)(i:Nat)(hi:i<n) :
    ∃ ad A3 c3,A=some ad∧w.cell? (ad.add (i * 4))=some (.int .u8 (xs.getD i ⟨0,0,false,[]⟩).f0)∧w.cell? ⟨(ad.add (i * 4)).block,(ad.add (i * 4)).off+1,none⟩=some (.int .i64 (xs.getD i ⟨0,0,false,[]⟩).f1)∧w.cell? ⟨(ad.add (i * 4)).block,(ad.add (i * 4)).off+2,none⟩=some (.bool (xs.getD i ⟨0,0,false,[]⟩).f2) ∧
      w.cell? ⟨(ad.add (i * 4)).block,(ad.add (i * 4)).off+3,none⟩=some (.slice A3 (xs.getD i ⟨0,0,false,[]⟩).f3.length c3)∧(xs.getD i ⟨0,0,false,[]⟩).f3.length≤c3∧Kd.C k57 w A3 (xs.getD i ⟨0,0,false,[]⟩).f3.length (xs.getD i ⟨0,0,false,[]⟩).f3:=by
 have:=at_T60 h (i:Int) (by omega) (by omega)
 simpa [rd_T60,z60] using this
theorem row_at {w:World}{A:Option Addr}{n:Nat}{xs:List (List Rl)}(h:Kd.C (Kd.slice 60 k60) w A n xs)(i:Nat)(hi:i<n) :
    ∃ ad A0 c0,A=some ad∧w.cell? (ad.add i)=some (.slice A0 (xs.getD i []).length c0)∧(xs.getD i []).length≤c0∧Kd.C k60 w A0 (xs.getD i []).length (xs.getD i []):=by
 obtain ⟨ad,c,e,hl,hK,hc⟩:=Kd.C_get h ([]:List Rl) (i:Int) (by omega) (by omega)
 simp only [Int.toNat_natCast] at hK hc
 obtain ⟨A0,c0,rfl,h1,h2⟩:=hK
 have:=hc 0 _ rfl
 have hz:(Kd.slice 60 k60).sz=1:=rfl
 rw [hz,Nat.mul_one,Nat.add_zero] at this
 exact ⟨ad,A0,c0,e,this,h1,h2⟩
section
variable {α:Type}{xs ys:List α}
theorem same_more {k:Nat}(z:α)(hl:xs.length=ys.length)(hk:k<xs.length)(h:xs.take k=ys.take k)(he:xs.getD k z=ys.getD k z):xs.take (k+1)=ys.take (k+1):=by
 rw [List.take_succ_eq_append_getElem hk,List.take_succ_eq_append_getElem (by omega),h]
 congr 2
 simpa [List.getD_eq_getElem?_getD,List.getElem?_eq_getElem hk,List.getElem?_eq_getElem (show k<ys.length by omega)] using he
theorem same_end {k:Nat}(hl:xs.length=ys.length)(hk:k=xs.length)(h:xs.take k=ys.take k):xs=ys:=by
 rw [List.take_of_length_le (by omega),List.take_of_length_le (by omega)] at h
 exact h
theorem same_not {k:Nat}(z:α)(he:xs.getD k z≠ys.getD k z):xs≠ys:=fun h=>he (by rw [h])
end
end
def plNames:List ByteArray:=[⟨#[111,116,104,101,114]⟩,⟨#[122,101,114,111]⟩,⟨#[111,110,101]⟩,⟨#[116,119,111]⟩,⟨#[102,101,119]⟩,⟨#[109,97,110,121]⟩]
set_option maxHeartbeats 2000000 in
set_option maxRecDepth 100000 in
theorem pl_names (w:World):Calls Tryz.prog 43 #[] w fun e w'=>e = .returned (.agg #[.string ⟨#[111,116,104,101,114]⟩,.string ⟨#[122,101,114,111]⟩,.string ⟨#[111,110,101]⟩,.string ⟨#[116,119,111]⟩,.string ⟨#[102,101,119]⟩,.string ⟨#[109,97,110,121]⟩])∧Below w.heap.size w w':=by
 go_enter Tryz.func43,Tryz.ntmps43
 go_wp2
 go_returns
 exact ⟨rfl,below_alloc (Below.refl _ _) _⟩
def plur_Name.f (a0:Int):Option ByteArray:=some (if 0≤a0∧a0<6 then plNames.getD a0.toNat ⟨#[]⟩ else ⟨#[]⟩)
set_option maxHeartbeats 2000000 in
set_option maxRecDepth 100000 in
theorem plur_Name.calls (a0:Int)(r:ByteArray)(w:World)(h:plur_Name.f a0=some r) :
    Calls Tryz.prog 17 #[.int .i64 a0] w fun e w'=>e = .returned (.string r)∧Below w.heap.size w w':=by
 have HL:=zA (pl_names w)
 have e:=zE h
 clear h
 by_cases h0:a0<0
 ·have g1:decide (a0<0)=true:=zC h0
  rw [if_neg (by omega)] at e
  subst e
  clear h0
  go_enter Tryz.func17,Tryz.ntmps17
  go_wp2_with (go_at_call 43;refine HL.out.mono ?_;rintro e w5 ⟨rfl,hb5⟩;have HB:=zA hb5;clear hb5)
  go_ret
  exact ⟨rfl,below_alloc HB.out _⟩
 have g1:decide (a0<0)=false:=zD h0
 by_cases h6:a0≥6
 ·have g2:decide (a0≥6)=true:=zC h6
  rw [if_neg (by omega)] at e
  subst e
  clear h0 h6
  go_enter Tryz.func17,Tryz.ntmps17
  go_wp2_with (go_at_call 43;refine HL.out.mono ?_;rintro e w5 ⟨rfl,hb5⟩;have HB:=zA hb5;clear hb5)
  go_ret
  exact ⟨rfl,below_alloc HB.out _⟩
 have hc:a0=0∨a0=1∨a0=2∨a0=3∨a0=4∨a0=5:=by omega
 clear h0 h6 g1
 rcases hc with rfl|rfl|rfl|rfl|rfl|rfl
 all_goals
  (subst e
   go_enter Tryz.func17,Tryz.ntmps17
   go_wp2_with (go_at_call 43;refine HL.out.mono ?_;rintro e w5 ⟨rfl,hb5⟩;have HB:=zA hb5;clear hb5)
   go_ret
   exact ⟨rfl,below_alloc HB.out _⟩)
def Bls (b:List Int):Prop:=∀ c ∈ b,c=32
theorem runL_cons (p:Int→Bool)(c:Int)(t:List Int):runL p (c :: t)=if p c then runL p t+1 else 0:=by
 unfold runL
 rw [List.takeWhile_cons]
 split <;> simp
theorem runL_le (p:Int→Bool)(t:List Int):runL p t≤t.length:=(List.takeWhile_sublist _).length_le
theorem pw_nat {n:Int}(h:0≤n):pw n=(digsN n.toNat).map chr:=by unfold pw;rw [if_neg (by omega)]
theorem decv_chr (l:List Int):decv (l.map chr)=num l:=by
 unfold decv num
 rw [List.foldl_map]
 congr 1
 funext n c
 unfold chr
 omega
def GoodG (r:Rg):Prop:=0≤r.f0∧r.f0≤r.f1∧r.f1≤999999999
def GoodX (x:Rl):Prop:=isOp x.f0=true∧0≤x.f1∧x.f1≤999999999∧x.f3≠[]∧∀ r ∈ x.f3,GoodG r
theorem op_low {c:Int}(h:isOp c=true):isLo c=true∧c≠32:=by
 unfold isOp at h
 unfold isLo
 simp at h
 simp
 omega
structure Sp (sp:List Int):Prop where
  bls:Bls sp
  ne:sp≠[]
theorem Sp.cons {sp:List Int}(h:Sp sp):∃ q,sp=32 :: q∧Bls q:=by
 match sp,h with
 | [],h=>exact absurd rfl h.ne
 | c :: q,h=>exact ⟨q,by rw [h.bls c (by simp)],fun x hx=>h.bls x (by simp [hx])⟩
theorem Sp.stop {sp:List Int}(h:Sp sp){p:Int→Bool}(hp:p 32=false)(t:List Int):runL p (sp ++ t)=0:=by
 obtain ⟨q,rfl,_⟩:=h.cons
 rw [List.cons_append,runL_cons,hp]
 rfl
def Ends (r:List (Rl×Bool)):Prop:=∃ a x,r=a ++ [(x,false)]
def wrd (o:Bool):List Int:=if o then wordOr else wordAnd
theorem runT_cons (sp:List Int)(x:Rl)(o:Bool){r:List (Rl×Bool)}(h:r≠[]):runT sp ((x,o) :: r)=relT sp x ++ (sp ++ (wrd o ++ (sp ++ runT sp r))):=by
 cases r with
 | nil=>exact absurd rfl h
 | cons y r=>rfl
theorem bytesOf_nums {l:List Int}(h:∀ c ∈ l,0≤c∧c≤255):bytesOf (strOfNums l)=l:=by
 unfold bytesOf
 rw [strOfNums_data,List.map_map]
 conv=>rhs;rw [← List.map_id l]
 apply List.map_congr_left
 intro c hc
 have:=h c hc
 simp only [Function.comp_apply,id,UInt8.toNat_ofNat']
 omega
theorem bytesInj {s t:ByteArray}(h:bytesOf s=bytesOf t):s=t:=by
 unfold bytesOf at h
 have h1:s.data.toList=t.data.toList:=by
  refine List.map_inj_right (f:=fun b:UInt8=>(b.toNat:Int)) ?_ |>.1 h
  intro x y hxy
  exact UInt8.toNat_inj.1 (Int.ofNat_inj.1 hxy)
 have h2:s.data=t.data:=by rw [← Array.toArray_toList (xs:=s.data),h1,Array.toArray_toList]
 cases s;cases t;simpa using h2
theorem digsN_20 {u:Nat}(hu:u≤9223372036854775807):(digsN u).length≤19:=digsN_length 18 u (by omega)
def NumOk (e:Int):Prop:=-1000000000000≤e∧e≤9223372036854775807
theorem pw_len {e:Int}(he:NumOk e):(pw e).length≤20:=by
 obtain ⟨h1,h2⟩:=he
 unfold pw
 split
 ·have:=digsN_20 (u:=e.natAbs) (by omega)
  simp;omega
 have:=digsN_20 (u:=e.toNat) (by omega)
 simp;omega
theorem pw_bytes {e:Int}:∀ c ∈ pw e,0≤c∧c≤255:=by
 have:∀ u,∀ c ∈ (digsN u).map chr,0≤c∧c≤255:=by
  intro u c hc
  obtain ⟨d,hd,rfl⟩:=List.mem_map.1 hc
  have:=digsN_figs u d hd
  unfold chr;omega
 intro c hc
 unfold pw at hc
 split at hc
 ·rcases List.mem_cons.1 hc with rfl|h
  · omega
  exact this _ c h
 exact this _ c hc
end Go.Proofs.YtgfajgkjbckkgaaGreatDoor.PZ
end
section
noncomputable section
namespace Go.Proofs.YtgfajgkjbckkgaaGreatDoor.PZ
open Go.RowKit Go.Proofs.YtgfajgkjbckkgaaGreatDoorW.PrintWords Go.Proofs.YtgfajgkjbckkgaaGreatDoorW.PrintLast Go.Proofs.YtgfajgkjbckkgaaGreatDoorW.PrintMore
attribute [local go_sem] max2_int min2_int max_two min_two max_three min_three max_four min_four   -- for this text's walks alone
end Go.Proofs.YtgfajgkjbckkgaaGreatDoor.PZ
end
end
section
noncomputable section
namespace Go.Proofs.YtgfajgkjbckkgaaGreatDoor.PZ
open Go.RowKit Go.Proofs.YtgfajgkjbckkgaaGreatDoorW.PrintWords Go.Proofs.YtgfajgkjbckkgaaGreatDoorW.PrintLast Go.Proofs.YtgfajgkjbckkgaaGreatDoorW.PrintMore
attribute [local go_sem] max2_int min2_int max_two min_two max_three min_three max_four min_four   -- for this text's walks alone
end Go.Proofs.YtgfajgkjbckkgaaGreatDoor.PZ
end
end
section
noncomputable section
namespace Go.Proofs.YtgfajgkjbckkgaaGreatDoor.PZ
open Go.RowKit Go.Proofs.YtgfajgkjbckkgaaGreatDoorW.PrintWords Go.Proofs.YtgfajgkjbckkgaaGreatDoorW.PrintLast Go.Proofs.YtgfajgkjbckkgaaGreatDoorW.PrintMore
attribute [local go_sem] max2_int min2_int max_two min_two max_three min_three max_four min_four   -- for this text's walks alone
end Go.Proofs.YtgfajgkjbckkgaaGreatDoor.PZ
end
end
section
noncomputable section
namespace Go.Proofs.YtgfajgkjbckkgaaGreatDoor.PZ
open Go.RowKit Go.Proofs.YtgfajgkjbckkgaaGreatDoorW.PrintWords Go.Proofs.YtgfajgkjbckkgaaGreatDoorW.PrintLast Go.Proofs.YtgfajgkjbckkgaaGreatDoorW.PrintMore
attribute [local go_sem] max2_int min2_int max_two min_two max_three min_three max_four min_four   -- for this text's walks alone
end Go.Proofs.YtgfajgkjbckkgaaGreatDoor.PZ
end
end
section
noncomputable section
namespace Go.Proofs.YtgfajgkjbckkgaaGreatDoor.PZ
open Go.RowKit Go.Proofs.YtgfajgkjbckkgaaGreatDoorW.PrintWords Go.Proofs.YtgfajgkjbckkgaaGreatDoorW.PrintLast Go.Proofs.YtgfajgkjbckkgaaGreatDoorW.PrintMore
attribute [local go_sem] max2_int min2_int max_two min_two max_three min_three max_four min_four   -- for this text's walks alone
end Go.Proofs.YtgfajgkjbckkgaaGreatDoor.PZ
end
end
section
noncomputable section
namespace Go.Proofs.YtgfajgkjbckkgaaGreatDoor.PZ
open Go.RowKit Go.Proofs.YtgfajgkjbckkgaaGreatDoorW.PrintWords Go.Proofs.YtgfajgkjbckkgaaGreatDoorW.PrintLast Go.Proofs.YtgfajgkjbckkgaaGreatDoorW.PrintMore
attribute [local go_sem] max2_int min2_int max_two min_two max_three min_three max_four min_four   -- for this text's walks alone
end Go.Proofs.YtgfajgkjbckkgaaGreatDoor.PZ
end
end
