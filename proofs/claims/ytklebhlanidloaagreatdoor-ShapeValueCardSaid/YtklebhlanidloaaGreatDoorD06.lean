/- Texts of this seat, joined. Conditions: none beyond each statement's own. -/
import Derived.Test.YtklebhlanidloaaGreatDoorD04
import Derived.Lib.Bytealg
import Derived.Lib.BytesEntry
import Derived.Lib.ItoaNum
import Derived.Lib.ItoaLen
import Derived.Lib.AppendIntMem
set_option linter.all false
section
set_option maxRecDepth 100000
namespace Go.Proofs.YtklebhlanidloaaGreatDoor.PZ
open Go.RowKit Go.Proofs.YtklebhlanidloaaGreatDoorW.PrintWords Go.Proofs.YtklebhlanidloaaGreatDoorW.PrintLast
def bytes_Compare.f (l0 l1:List Int):Option Int:=some (Lib.compareBytes (Lib.bytesOf l0) (Lib.bytesOf l1))
theorem run_bytesSlice {P:Program}(w:World)(A:Option Addr)(l:List Int)(c:Nat)(hr:Kd.C (Kd.int .u8) w A l.length l) :
    (Extern.Bytes.bytesOf (.slice A l.length c)).run P w = .ok ⟨(Lib.bytesOf l).toArray⟩ w:=by
 cases A with
 | none=>
  have hn:l=[]:=by
   cases l with
   | nil=>rfl
   | cons x l=>obtain ⟨ad,he,_⟩:=Kd.at_int hr 0 (by omega) (by simp);cases he
  subst hn
  rfl
 | some a=>
  have hl:=Lib.run_loadBytesX (P:=P) w l a .empty (fun j x hj=>by
   have hjl:j<l.length:=(List.getElem?_eq_some_iff.1 hj).1
   obtain ⟨ad,he,hc⟩:=Kd.at_int hr (j:Int) (by omega) (by omega)
   cases he
   have e:rd l (j:Int)=x:=by simp [rd,List.getD_eq_getElem?_getD,hj]
   rw [e] at hc
   simpa using hc)
  have he:(⟨ByteArray.empty.data ++ (Lib.bytesOf l).toArray⟩:ByteArray)=⟨(Lib.bytesOf l).toArray⟩:=by
   apply ByteArray.ext
   show (#[]:Array UInt8) ++ (Lib.bytesOf l).toArray=(Lib.bytesOf l).toArray
   simp
  rw [he] at hl
  exact hl
theorem run_compareSlices {P:Program}(w:World)(A0 A1:Option Addr)(l0 l1:List Int)(c0 c1:Nat)(h0:Kd.C (Kd.int .u8) w A0 l0.length l0)(h1:Kd.C (Kd.int .u8) w A1 l1.length l1) :
    (Extern.BytealgCompare.compare #[.slice A0 l0.length c0,.slice A1 l1.length c1]).run P w = .ok (.int .i64 (Lib.compareBytes (Lib.bytesOf l0) (Lib.bytesOf l1))) w:=by
 change Sem.run P (do pure (goInt (Extern.BytealgCompare.cmp (← Extern.Bytes.bytesOf (.slice A0 l0.length c0)) (← Extern.Bytes.bytesOf (.slice A1 l1.length c1))))) w=_
 simp only [Sem.run_bind,run_bytesSlice w A0 l0 c0 h0,run_bytesSlice w A1 l1 c1 h1,Sem.run_pure,Result.andThen]
 rw [Lib.cmp_eq]
 rfl
set_option maxHeartbeats 1000000 in
set_option maxRecDepth 100000 in
theorem bytes_Compare.calls (A0:Option Addr)(c0:Nat)(l0:List Int)(A1:Option Addr)(c1:Nat)(l1:List Int)(r:Int)(w:World)(hr0:Kd.C (Kd.int .u8) w A0 l0.length l0)(_hc0:l0.length≤c0)(hr1:Kd.C (Kd.int .u8) w A1 l1.length l1)(_hc1:l1.length≤c1)(h:bytes_Compare.f l0 l1=some r) :
    Calls Tryz.prog 135 #[.slice A0 l0.length c0,.slice A1 l1.length c1] w fun e w'=>e = .returned (.int .i64 r)∧Drawn0 w w':=by
 obtain rfl:=zE h
 have HR:=zA (run_compareSlices (P:=Tryz.prog) w A0 A1 l0 l1 c0 c1 hr0 hr1)
 clear h hr0 hr1
 go_enter Tryz.func135,Tryz.ntmps135
 go_wp2
 rw [run_callFunc_extern Tryz.func143 (by kernel_rfl) (by kernel_rfl) (by kernel_rfl) (e:=Extern.BytealgCompare.compare) (by kernel_rfl),HR.out]
 simp only [Result.andThen]
 rw [Oper.upon_value]
 go_wp2
 go_ret
 exact ⟨rfl,Drawn0.refl _⟩
end Go.Proofs.YtklebhlanidloaaGreatDoor.PZ
end
section
set_option maxRecDepth 100000
namespace Go.Proofs.YtklebhlanidloaaGreatDoor.PZ
open Go.RowKit Go.Proofs.YtklebhlanidloaaGreatDoorW.PrintWords Go.Proofs.YtklebhlanidloaaGreatDoorW.PrintLast Go.Proofs.YtklebhlanidloaaGreatDoorW.PrintMore
section
def ConvC (P:Program)(src dst:TypeId)(s:ByteArray)(W:World)(K:Ending→World→Prop):Prop:=∃ v W',(convert src dst (.string s)).run P W = .ok v W'∧K (.returned v) W'
theorem ConvC.mono {P:Program}{src dst:TypeId}{s:ByteArray}{W:World}{K K':Ending→World→Prop}(h:ConvC P src dst s W K)(hk:∀ e w',K e w'→K' e w'):ConvC P src dst s W K':=by
 obtain ⟨v,W',h1,h2⟩:=h
 exact ⟨v,W',h1,hk _ _ h2⟩
section
variable {P:Program}{ops:Array Oper}{Q:Exit→Act→World→Prop}{o:Oper}{a:Act}{W:World}{rest:List Oper}
theorem gate_conv {src dst:TypeId}{x:Operand}(_ho:o.op = .convert src dst x)(h:wpList P ops Q (o :: rest) a W):wpList P ops Q (o :: rest) a W:=h
theorem goesC_ (N:Option Tmp)(hd:o.dst=N)(hg:o.guard=none)(src dst:TypeId)(s:ByteArray){x:Operand}(hop:o.op = .convert src dst x)(hx:a.eval x = .string s)
    (h:ConvC P src dst s W fun e w'=>∃ v,e = .returned v∧wpList P ops Q rest (a.put N v) w'):wpList P ops Q (o :: rest) a W:=by
 obtain ⟨v,w1,h1,v',he,hk⟩:=h
 injection he with he
 subst he
 subst hd
 refine Kd.event_run hg ?_ hk
 unfold execOp
 simp [hop,hx,h1]
end
def conv_bytes.f (s:ByteArray):Option (List Int):=if s.size≤140737488351232 then some (bytesOf s) else none
theorem conv_bytes.calls (s:ByteArray)(r:List Int)(w:World)(h:conv_bytes.f s=some r) :
    ConvC Tryz.prog 9 27 s w fun e w'=>∃ v0_:Value,e = .returned (v0_)∧Kd.V (Kd.int .u8) 5 w' w.heap.size (fun k_=>w.heap.size≤k_) v0_ r∧Below w.heap.size w w':=by
 unfold conv_bytes.f at h
 split at h
 ·obtain rfl:=zE h
  rename_i hs
  refine ⟨_,_,print_bytes (P:=Tryz.prog) 9 27 5 Tryz.underlying9 Tryz.underlying27 Tryz.underlying5 s w,_,rfl,?_,bytes_below (Below.refl _ w) (Nat.le_refl _) _ s⟩
  have hl:=bytesOf_length s
  have hF:Kd.F (Kd.int .u8) (Lib.bytesWorld w 5 s) (fun k_=>w.heap.size≤k_) (some ⟨w.heap.size,0,none⟩) (bytesOf s).length (bytesOf s):=by
   intro W' hW
   have hg:=hW w.heap.size (Nat.le_refl _) (by rw [Lib.bytesWorld_size];omega)
   refine Kd.C_of_reads (d:=(0:Int)) (h1:=fun _=>rfl) ⟨rfl,by rw [hl];omega,fun _=>⟨_,rfl,fun j hj=>?_⟩⟩
   rw [hl] at hj
   rw [add_plain,World.cell?_of_block (w:=Lib.bytesWorld w 5 s) hg,Lib.bytesWorld_cell w 5 s j hj]
   have h':j<s.data.toList.length:=by rw [data_length];exact hj
   simp [bytesOf,List.getD_eq_getElem?_getD,List.getElem?_eq_getElem h']
  have:=Kd.V_mk (e:=5) (base:=w.heap.size) (c:=grownCap w s.size 0 5) (by rw [hl];exact grownCap_ge _ _ _ _) hF
  rwa [hl] at this
 cases h
end
end Go.Proofs.YtklebhlanidloaaGreatDoor.PZ
end
section
set_option maxRecDepth 100000
namespace Go.Proofs.YtklebhlanidloaaGreatDoor.PZ
open Go.RowKit Go.Proofs.YtklebhlanidloaaGreatDoorW.PrintWords Go.Proofs.YtklebhlanidloaaGreatDoorW.PrintLast
def digsN (u:Nat):List Int:=if h:u<10 then [(u:Int)] else digsN (u / 10) ++ [((u % 10:Nat):Int)]
termination_by u
decreasing_by omega
theorem digsN_small {u:Nat}(h:u<10):digsN u=[(u:Int)]:=by rw [digsN,dif_pos h]
theorem digsN_big {u:Nat}(h:¬ u<10):digsN u=digsN (u / 10) ++ [((u % 10:Nat):Int)]:=by rw [digsN,dif_neg h]
theorem digsN_figs (u:Nat):Figs (digsN u):=by
 induction u using Nat.strongRecOn with
 | _ u ih=>
  by_cases h:u<10
  ·rw [digsN_small h]
   exact Figs.cons (by omega) (by omega) Figs.nil
  rw [digsN_big h]
  exact (ih (u / 10) (by omega)).append (Figs.cons (by omega) (by omega) Figs.nil)
def chr (d:Int):Int:=48+d
def pw (e:Int):List Int:=if e<0 then 45 :: (digsN e.natAbs).map chr else (digsN e.toNat).map chr
theorem bytes_list (l:List UInt8):bytesOf ⟨l.toArray⟩=l.map fun b=>(b.toNat:Int):=by unfold bytesOf;rfl
theorem decDigits_map (u:Nat):((Lib.decDigits u).map fun b=>(b.toNat:Int))=(digsN u).map chr:=by
 induction u using Nat.strongRecOn with
 | _ u ih=>
  by_cases h:u<10
  ·rw [digsN_small h,Lib.decDigits,dif_pos h]
   simp only [List.map_cons,List.map_nil,chr]
   congr 1
   simp [UInt8.toNat_ofNat']
   omega
  rw [digsN_big h,Lib.decDigits,dif_neg h,List.map_append,List.map_append,ih (u / 10) (by omega)]
  congr 1
  simp only [List.map_cons,List.map_nil,chr]
  congr 1
  simp [UInt8.toNat_ofNat']
  omega
theorem itoa_map (e:Int):((Lib.itoa e).map fun b=>(b.toNat:Int))=pw e:=by
 unfold Lib.itoa pw
 split
 · rw [List.map_cons,decDigits_map];rfl
 rw [decDigits_map]
def strconv_Itoa.f (n:Int):Option ByteArray:=if -9223372036854775808≤n∧n≤9223372036854775807 then some ⟨(Lib.itoa n).toArray⟩ else none
theorem strconv_Itoa.calls (a0:Int)(r:ByteArray)(w:World)(hG:GL w)(h:strconv_Itoa.f a0=some r) :
    Calls Tryz.prog 76 #[.int .i64 a0] w fun e w'=>e = .returned (.string r)∧Below w.heap.size w w':=by
 unfold strconv_Itoa.f at h
 by_cases hb : -9223372036854775808≤a0∧a0≤9223372036854775807
 ·rw [if_pos hb] at h
  obtain rfl:=zE h
  refine (Tryz.strconv_Itoa a0 hb.1 hb.2 w hG).mono ?_
  rintro e w' ⟨rfl,k,os,rfl⟩
  exact ⟨rfl,Lib.below_grow _ w (Nat.le_refl _) k os⟩
 rw [if_neg hb] at h
 cases h
end Go.Proofs.YtklebhlanidloaaGreatDoor.PZ
end
section
namespace Go.Proofs.YtklebhlanidloaaGreatDoor.PZ
open Go.RowKit Go.Proofs.YtklebhlanidloaaGreatDoorW.PrintWords Go.Proofs.YtklebhlanidloaaGreatDoorW.PrintLast Go.Proofs.YtklebhlanidloaaGreatDoorW.PrintMore
section
attribute [local go_sem] max2_int min2_int max_two min_two max_three min_three max_four min_four   -- for this text's walks alone
theorem eqA114 (d:Nat)(w:World)(x0 y0:Int)(x1 y1:Int) :
    (Op.equalIn (d+2) 114 (.agg #[.int .i64 x0,.int .i32 x1]) (.agg #[.int .i64 y0,.int .i32 y1])).run Tryz.prog w = .ok (x0 == y0 && (x1 == y1)) w:=by
 refine eqA_of Tryz.underlying114 (by kernel_rfl) ?_
 refine eqf_cons (by rfl) (by go_simp;rfl) (by go_simp;rfl) (by go_simp) ?_
 exact eqf_last (by rfl) (by go_simp;rfl) (by go_simp;rfl) (by go_simp)
end
end Go.Proofs.YtklebhlanidloaaGreatDoor.PZ
end
