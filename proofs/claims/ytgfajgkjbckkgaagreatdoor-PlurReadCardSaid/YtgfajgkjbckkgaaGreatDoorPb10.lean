/- Texts of this seat, joined. Conditions: none beyond each statement's own. -/
import Derived.Test.YtgfajgkjbckkgaaGreatDoorPb07
import Derived.Lib.BufferOwn
import Derived.Shelf.Abstract
import Derived.Handy
import Derived.Test.YtgfajgkjbckkgaaGreatDoorPb06
set_option linter.all false
section
set_option maxRecDepth 100000
namespace Go.Proofs.YtgfajgkjbckkgaaGreatDoor.PZ
open Go.RowKit Go.Proofs.YtgfajgkjbckkgaaGreatDoorW.PrintWords Go.Proofs.YtgfajgkjbckkgaaGreatDoorW.PrintLast
section
theorem bt_nat (s:ByteArray)(a:Nat):∀ h:a<s.size,((s[a]'h).toNat:Int)=bt s (a:Int):=fun h=>by simpa using bt_at s (a:Int) (by simpa using h)
theorem quiet_addR {P:Program}{f:FuncId}{args:Array Value}{w:World}{a n:Nat}{v:Value}
    (h:Calls P f args (w.drewN (a+n)) fun e w'=>e = .returned v∧∃ m,w'=(w.drewN (a+n)).drewN m) :
    Calls P f args (w.drewN (a+n)) fun e w''=>e = .returned v∧∃ m,w''=w.drewN (a+m):=
  h.mono fun _ _ ⟨he,m,hm⟩=>⟨he,n+m,by rw [hm,World.drewN_drewN,Nat.add_assoc]⟩
def Rdr (W:World)(g:Nat)(s:ByteArray)(a:Nat)(b:Bool):Prop:=W.heap[g]?=some (.cells #[.string s,.int .i64 (a:Int),.bool b] 103 (0,0))
structure Rdc (W:World)(g:Nat)(s:ByteArray)(a:Nat)(b:Bool):Prop where
  c0:W.cell? ⟨g,0,none⟩=some (.string s)
  c1:W.cell? ⟨g,1,none⟩=some (.int .i64 (a:Int))
  c2:W.cell? ⟨g,2,none⟩=some (.bool b)
  f1:W.frozen? ⟨g,1,none⟩=false
  f2:W.frozen? ⟨g,2,none⟩=false
theorem Rdr.c {W:World}{g:Nat}{s:ByteArray}{a:Nat}{b:Bool}(h:Rdr W g s a b):Rdc W g s a b:=⟨(blk_cell h 0).trans rfl,(blk_cell h 1).trans rfl,(blk_cell h 2).trans rfl,blk_frozen h 1,blk_frozen h 2⟩
def RdTo (W:World)(g:Nat)(s:ByteArray)(a:Nat)(b:Bool)(W':World):Prop:=Rdr W' g s a b∧W.grownBy W' (some g)
theorem grown_drewN {W W':World}{r:Option Nat}(h:W.grownBy W' r)(n:Nat):W.grownBy (W'.drewN n) r:=⟨h.os,h.tape,h.output,h.size,h.block⟩
section
variable {W W':World}{g:Nat}{s:ByteArray}{a a':Nat}{b b':Bool}
theorem RdTo.start (h:Rdr W g s a b):RdTo W g s a b W:=⟨h,World.grownBy.refl _ _⟩
theorem RdTo.drew (h:RdTo W g s a b W')(n:Nat):RdTo W g s a b (W'.drewN n):=⟨h.1,grown_drewN h.2 n⟩
theorem RdTo.put (h:RdTo W g s a b W'){y:Int}{x:Nat}(hy:y=(x:Int)):RdTo W g s x b (W'.setCell ⟨g,1,none⟩ (.int .i64 y)):=by
 subst hy
 exact ⟨blk_put (cs:=#[.string s,.int .i64 (a:Int),.bool b]) h.1 1 _ rfl,Lib.grownBy_setB h.2 1 _⟩
theorem RdTo.bad (h:RdTo W g s a b W')(c:Bool):RdTo W g s a c (W'.setCell ⟨g,2,none⟩ (.bool c)):=
  ⟨blk_put (cs:=#[.string s,.int .i64 (a:Int),.bool b]) h.1 2 _ rfl,Lib.grownBy_setB h.2 2 _⟩
theorem RdTo.then {W2:World}(h:RdTo W g s a b W')(k:RdTo W' g s a' b' W2):RdTo W g s a' b' W2:=⟨k.1,h.2.trans k.2⟩
end
theorem drop_bt (s:ByteArray)(k:Nat)(h:k<s.size):(bytesOf s).drop k=bt s (k:Int) :: (bytesOf s).drop (k+1):=by
 rw [drop_cons _ k (by rw [bytesOf_length];exact h),rd_bytesOf]
theorem run_cons (p:Int→Bool)(c:Int)(t:List Int):runL p (c :: t)=if p c then runL p t+1 else 0:=by
 unfold runL
 rw [List.takeWhile_cons]
 split <;> simp
theorem run_more {p:Int→Bool}{s:ByteArray}{k:Nat}(h:k<s.size)(hp:p (bt s (k:Int))=true):k+1+runL p ((bytesOf s).drop (k+1))=k+runL p ((bytesOf s).drop k):=by
 rw [drop_bt s k h,run_cons,if_pos hp];omega
theorem run_stop {p:Int→Bool}{s:ByteArray}{k:Nat}(h:k<s.size)(hp:p (bt s (k:Int))=false):k+runL p ((bytesOf s).drop k)=k:=by
 rw [drop_bt s k h,run_cons,hp];rfl
theorem run_end {p:Int→Bool}{s:ByteArray}{k:Nat}(h:¬ k<s.size):k+runL p ((bytesOf s).drop k)=k:=by
 rw [List.drop_of_length_le (by rw [bytesOf_length];omega)];rfl
theorem run_size (p:Int→Bool)(s:ByteArray)(k:Nat)(h:k≤s.size):k+runL p ((bytesOf s).drop k)≤s.size:=by
 have h1:runL p ((bytesOf s).drop k)≤((bytesOf s).drop k).length:=(List.takeWhile_sublist _).length_le
 rw [List.length_drop,bytesOf_length] at h1
 omega
set_option maxHeartbeats 1000000 in
theorem rd_skip (g:Nat)(s:ByteArray)(a:Nat)(b:Bool)(W:World)(h:Rdr W g s a b)(ha:a≤s.size)(hs:s.size≤140737488351232) :
    Calls Tryz.prog 111 #[.pointer (some ⟨g,0,none⟩)] W fun e W'=>e = .returned (.tuple #[])∧RdTo W g s (a+bl ((bytesOf s).drop a)) b W':=by
 have H0:=zA (RdTo.start h)
 obtain ⟨E,hE⟩:∃ E,a+bl ((bytesOf s).drop a)=E:=⟨_,rfl⟩
 rw [hE]
 have HE:=zA hE
 clear h hE
 go_enter Tryz.func111,Tryz.ntmps111
 go_wp2
 go_loopg [] s.size (fun gg wr=>∃ k:Nat,k≤s.size∧s.size - k≤gg∧Aside0 (k+bl ((bytesOf s).drop k)=E)∧Aside0 (RdTo W g s k b wr))
 case atStart=>exact ⟨a,ha,by omega,HE,H0⟩
 case round=>
  obtain ⟨k,hk,hg,HK,HR⟩:=hrel
  obtain ⟨c0,c1,c2,f1,f2⟩:=HR.out.1.c
  have hx:=bt_nat s k
  have p0:(0≤(k:Int))=True:=eq_true (by omega)
  by_cases hlt:k<s.size
  rotate_left
  ·have HN:=zA ((run_end (p:=isBl) hlt).symm.trans HK.out)
   have g1:decide ((k:Int)<(s.size:Int))=false:=zD (by omega)
   have g2:decide (k<s.size)=false:=zD hlt
   go_wp2
   repeat (go_quiet (fail);try go_wp2)
   first|go_end0|((try simp only [Exit.inBlock,Exit.then]);refine bodyPost_ret (results_none rfl _ _ _) rfl ?_)
   exact ⟨rfl,by rw [← HN.out];exact HR.out.drew _⟩
  have g1:decide ((k:Int)<(s.size:Int))=true:=zC (by omega)
  have g2:decide (k<s.size)=true:=zC hlt
  have g3:((k:Int)<(s.size:Int))=True:=eq_true (by omega)
  have g4:(k<s.size)=True:=eq_true hlt
  by_cases h2:bt s (k:Int)=32
  ·have HN:=zA ((run_more (p:=isBl) hlt (by rw [h2];rfl)).trans HK.out)
   have q1:(bt s (k:Int) == 32)=true:=zH h2
   clear h2
   go_wp2
   repeat (go_quiet (fail);try go_wp2)
   go_roundg (s.size - (k+1))
   case measure=>omega
   case rel=>exact ⟨k+1,by omega,by omega,HN,⟨(HR.out.drew _).put (by omega)⟩⟩
  have HN:=zA ((run_stop (p:=isBl) hlt (by unfold isBl;simpa using h2)).symm.trans HK.out)
  have q1:(bt s (k:Int) == 32)=false:=zF h2
  clear h2
  go_wp2
  repeat (go_quiet (fail);try go_wp2)
  first|go_end0|((try simp only [Exit.inBlock,Exit.then]);refine bodyPost_ret (results_none rfl _ _ _) rfl ?_)
  exact ⟨rfl,by rw [← HN.out];exact HR.out.drew _⟩
def FvIs (fv:Nat)(p:Int→Bool):Prop:=∀ (x:Int) (w:World),Calls Tryz.prog fv #[.int .u8 x] w fun e w'=>e = .returned (.bool (p x))∧∃ n,w'=w.drewN n
set_option maxRecDepth 100000 in
theorem fv_low:FvIs 93 isLo:=by
 intro x w
 unfold isLo
 cases hx:decide (97≤x) with
 | false=>
  have hx2:decide (x≥97)=false:=hx
  go_enter Tryz.func93,Tryz.ntmps93
  go_wp2
  go_ret
  exact ⟨rfl,0,rfl⟩
 | true=>
  have hx2:decide (x≥97)=true:=hx
  go_enter Tryz.func93,Tryz.ntmps93
  go_wp2
  go_ret
  exact ⟨rfl,0,rfl⟩
set_option maxRecDepth 100000 in
theorem fv_dig:FvIs 113 isDi:=by
 intro x w
 unfold isDi
 cases hx:decide (48≤x) with
 | false=>
  have hx2:decide (x≥48)=false:=hx
  go_enter Tryz.func113,Tryz.ntmps113
  go_wp2
  go_ret
  exact ⟨rfl,0,rfl⟩
 | true=>
  have hx2:decide (x≥48)=true:=hx
  go_enter Tryz.func113,Tryz.ntmps113
  go_wp2
  go_ret
  exact ⟨rfl,0,rfl⟩
def farTo (p:Int→Bool)(s:ByteArray)(a:Nat):Nat:=a+bl ((bytesOf s).drop a)+runL p ((bytesOf s).drop (a+bl ((bytesOf s).drop a)))
set_option maxHeartbeats 2000000 in
set_option maxRecDepth 100000 in
theorem rd_far (fv:Nat)(p:Int→Bool)(hp:FvIs fv p)(ef:∀ args w,(callFunc fv args).run Tryz.prog w = .ok (.enter fv args) w)(g:Nat)(s:ByteArray)(a:Nat)(b:Bool)(W:World)(h:Rdr W g s a b)(ha:a≤s.size)(hs:s.size≤140737488351232) :
    Calls Tryz.prog 92 #[.pointer (some ⟨g,0,none⟩),.func (.func fv) #[] #[]] W fun e W'=>
      e = .returned (.string (s.extract (a+bl ((bytesOf s).drop a)) (farTo p s a)))∧RdTo W g s (a+bl ((bytesOf s).drop a)) b W':=by
 have hS:=rd_skip g s a b W h ha hs
 have hA:=run_size isBl s a ha
 change a+bl ((bytesOf s).drop a)≤s.size at hA
 unfold farTo
 obtain ⟨A,hA2⟩:∃ A,a+bl ((bytesOf s).drop a)=A:=⟨_,rfl⟩
 rw [hA2] at hS hA ⊢
 have hE2:=run_size p s A hA
 obtain ⟨E,hE⟩:∃ E,A+runL p ((bytesOf s).drop A)=E:=⟨_,rfl⟩
 rw [hE] at hE2 ⊢
 have HE:=zA hE
 have HP:=zA hp
 clear h hA2 hE hp
 go_enter Tryz.func92,Tryz.ntmps92
 go_wp2_with (go_at_call 111;refine hS.mono ?_;rintro e W1 ⟨rfl,hr1⟩;have HR0:=zA hr1;clear hr1)
 clear hS
 go_loopg [5] s.size (fun gg s5 wr=>∃ k:Nat,A+k≤s.size∧s.size - k≤gg∧s5 = .int .i64 (k:Int)∧Aside0 (A+k+runL p ((bytesOf s).drop (A+k))=E)∧Aside0 (RdTo W g s A b wr))
 case atStart=>exact ⟨0,by omega,by omega,rfl,HE,HR0⟩
 case round=>
  clear HR0
  obtain ⟨k,hk,hg,rfl,HK,HR⟩:=hrel
  obtain ⟨c0,c1,c2,f1,f2⟩:=HR.out.1.c
  have hx:=bt_nat s (A+k)
  have hw:IntKind.i64.wrap ((A:Int)+(k:Int))=(A:Int)+(k:Int):=by rw [IntKind.wrap_i64];omega
  have hw2:wrap64 ((A:Int)+(k:Int))=(A:Int)+(k:Int):=w64 _ (by omega) (by omega)
  have hn:((A:Int)+(k:Int)).toNat=A+k:=by omega
  have hc:((A+k:Nat):Int)=(A:Int)+(k:Int):=by omega
  have p0:(0≤(A:Int)+(k:Int))=True:=eq_true (by omega)
  by_cases hlt:A+k<s.size
  rotate_left
  ·have HN:=zA ((run_end (p:=p) hlt).symm.trans HK.out)
   have g1:decide ((A:Int)+(k:Int)<(s.size:Int))=false:=zD (by omega)
   have g2:decide (A+k<s.size)=false:=zD hlt
   go_wp2
   repeat (go_quiet (fail);try go_wp2)
   have e1:((A:Int)≤(A:Int)+(k:Int))=True:=eq_true (by omega)
   have e2:((A:Int)+(k:Int)≤(s.size:Int))=True:=eq_true (by omega)
   have e4:(A≤A+k)=True:=eq_true (by omega)
   have e5:(A+k≤s.size)=True:=eq_true hk
   have e6:(0≤(A:Int))=True:=eq_true (by omega)
   have e7:(A:Int).toNat=A:=by omega
   try go_wp2
   repeat (go_quiet (fail);try go_wp2)
   go_outline
   go_ret
   exact ⟨by rw [← HN.out];rfl,(HR.out.drew _).drew _⟩
  have g1:decide ((A:Int)+(k:Int)<(s.size:Int))=true:=zC (by omega)
  have g2:decide (A+k<s.size)=true:=zC hlt
  have g3:((A:Int)+(k:Int)<(s.size:Int))=True:=eq_true (by omega)
  have g4:(A+k<s.size)=True:=eq_true hlt
  cases h2:p (bt s ((A+k:Nat):Int)) with
  | true=>
   have HN:=zA ((run_more (p:=p) hlt h2).trans HK.out)
   have HC:=zA (fun w=>by have:=HP.out (bt s ((A+k:Nat):Int)) w;rwa [h2] at this)
   rw [hc] at HC hx
   clear h2 hc
   go_wp2
   repeat (go_quiet ((first|(go_at_fn fv;first|exact quiet_addR (HC.out _)|exact Calls.quiet_of (HC.out _)|exact HC.out _)));try go_wp2)
   go_roundg (s.size - (k+1))
   case measure=>omega
   case rel=>exact ⟨k+1,by omega,by omega,by go_num,HN,⟨HR.out.drew _⟩⟩
  | false=>
   have HN:=zA ((run_stop (p:=p) hlt h2).symm.trans HK.out)
   have HC:=zA (fun w=>by have:=HP.out (bt s ((A+k:Nat):Int)) w;rwa [h2] at this)
   rw [hc] at HC hx
   clear h2 hc
   have hn2:(A:Int).toNat=A:=by omega
   go_wp2
   repeat (go_quiet ((first|(go_at_fn fv;first|exact quiet_addR (HC.out _)|exact Calls.quiet_of (HC.out _)|exact HC.out _)));try go_wp2)
   have e1:((A:Int)≤(A:Int)+(k:Int))=True:=eq_true (by omega)
   have e2:((A:Int)+(k:Int)≤(s.size:Int))=True:=eq_true (by omega)
   have e4:(A≤A+k)=True:=eq_true (by omega)
   have e5:(A+k≤s.size)=True:=eq_true hk
   have e6:(0≤(A:Int))=True:=eq_true (by omega)
   have e7:(A:Int).toNat=A:=by omega
   try go_wp2
   repeat (go_quiet (fail);try go_wp2)
   go_outline
   go_ret
   exact ⟨by rw [← HN.out];rfl,(HR.out.drew _).drew _⟩
end
def ixL:List ByteArray→ByteArray→Nat→Int
  | [],_,_=>-1
  | x :: t,a,k=>if a=x then (k:Int) else ixL t a (k+1)
theorem ixL_at {l:List ByteArray}{a:ByteArray}{k:Nat}(h:k<l.length):ixL (l.drop k) a k=if a=l.getD k ByteArray.empty then (k:Int) else ixL (l.drop (k+1)) a (k+1):=by
 rw [List.drop_eq_getElem_cons h,ixL]
 simp [List.getD_eq_getElem?_getD,List.getElem?_eq_getElem h]
theorem bytes_ext (a b:ByteArray):(a.toList == b.toList)=decide (a=b):=by
 by_cases h:a=b
 · subst h;simp
 rw [zD h]
 refine zF (fun e=>h ?_)
 simp only [ByteArray.toList_eq] at e
 exact ByteArray.ext (Array.toList_inj.mp e)
set_option maxHeartbeats 2000000 in
set_option maxRecDepth 100000 in
theorem ix_row (A0:Option Addr)(c0:Nat)(l0:List ByteArray)(a1:ByteArray)(w:World)(hr0:Kd.C Kd.string w A0 l0.length l0)(hc0:l0.length≤c0) :
    Calls Tryz.prog 44 #[.slice A0 l0.length c0,.string a1] w fun e w'=>e = .returned (.int .i64 (ixL l0 a1 0))∧w'=w:=by
 have hn:=hr0.2.1
 have HR0:=zA hr0
 clear hr0
 obtain ⟨R,hR⟩:∃ R,ixL l0 a1 0=R:=⟨_,rfl⟩
 rw [hR]
 have H0:=zA hR
 clear hR
 go_enter Tryz.func44,Tryz.ntmps44
 go_wp2
 go_loopg [8] l0.length (fun gg s8 wr=>∃ k:Nat,k≤l0.length∧l0.length - k≤gg∧s8 = .int .i64 k∧wr=w∧Aside0 (ixL (l0.drop k) a1 k=R))
 case atStart=>exact ⟨0,by omega,by omega,rfl,rfl,H0⟩
 case round=>
  obtain ⟨k,hk,hg,rfl,rfl,HK⟩:=hrel
  by_cases hlt:k<l0.length
  rotate_left
  ·have j1:decide ((k:Int)<(l0.length:Int))=false:=zD (by omega)
   have HN:=HK.out
   rw [List.drop_of_length_le (by omega)] at HN
   have HM:=zA HN
   clear HN
   go_wp2
   go_ret
   exact ⟨by rw [← HM.out];rfl,rfl⟩
  have j1:decide ((k:Int)<(l0.length:Int))=true:=zC (by omega)
  obtain ⟨ad,e1,x0⟩:=Kd.at_string HR0.out (k:Int) (by omega) (by omega)
  cases e1
  simp only [Int.toNat_natCast] at x0
  have p0:(0≤(k:Int))=True:=eq_true (by omega)
  have m2:decide (k<l0.length)=true:=zC hlt
  have m3:((k:Int)<(l0.length:Int))=True:=eq_true (by omega)
  have m4:(k<l0.length)=True:=eq_true hlt
  have HN:=HK.out
  rw [ixL_at hlt] at HN
  have hX:rdOf ByteArray.empty l0 (k:Int)=l0.getD k ByteArray.empty:=by simp [rdOf]
  rw [hX] at x0
  generalize l0.getD k ByteArray.empty=X at *
  have hb:=bytes_ext a1 X
  by_cases he:a1=X
  ·rw [zC he] at hb
   rw [if_pos he] at HN
   have HM:=zA HN
   clear he hX HN
   go_wp2
   go_ret
   exact ⟨by rw [← HM.out];rfl,rfl⟩
  rw [zD he] at hb
  rw [if_neg he] at HN
  have HM:=zA HN
  clear he hX HN
  go_wp2
  go_roundg (l0.length - (k+1))
  case measure=>omega
  case rel=>exact ⟨k+1,by omega,by omega,by go_num,rfl,HM⟩
def plNames:List ByteArray:=[⟨#[111,116,104,101,114]⟩,⟨#[122,101,114,111]⟩,⟨#[111,110,101]⟩,⟨#[116,119,111]⟩,⟨#[102,101,119]⟩,⟨#[109,97,110,121]⟩]
set_option maxHeartbeats 2000000 in
set_option maxRecDepth 100000 in
theorem pl_names (w:World):Calls Tryz.prog 43 #[] w fun e w'=>e = .returned (.agg #[.string ⟨#[111,116,104,101,114]⟩,.string ⟨#[122,101,114,111]⟩,.string ⟨#[111,110,101]⟩,.string ⟨#[116,119,111]⟩,.string ⟨#[102,101,119]⟩,.string ⟨#[109,97,110,121]⟩])∧Below w.heap.size w w':=by
 go_enter Tryz.func43,Tryz.ntmps43
 go_wp2
 go_returns
 exact ⟨rfl,below_alloc (Below.refl _ _) _⟩
def plur_Name.f (a0:Int):Option ByteArray:=some (if 0≤a0∧a0<6 then plNames.getD a0.toNat ⟨#[]⟩ else ⟨#[]⟩)
set_option maxHeartbeats 2000000 in
set_option maxRecDepth 100000 in
theorem plur_Name.calls (a0:Int)(r:ByteArray)(w:World)(h:plur_Name.f a0=some r) :
    Calls Tryz.prog 17 #[.int .i64 a0] w fun e w'=>e = .returned (.string r)∧Below w.heap.size w w':=by
 have HL:=zA (pl_names w)
 have e:=zE h
 clear h
 by_cases h0:a0<0
 ·have g1:decide (a0<0)=true:=zC h0
  rw [if_neg (by omega)] at e
  subst e
  clear h0
  go_enter Tryz.func17,Tryz.ntmps17
  go_wp2_with (go_at_call 43;refine HL.out.mono ?_;rintro e w5 ⟨rfl,hb5⟩;have HB:=zA hb5;clear hb5)
  go_ret
  exact ⟨rfl,below_alloc HB.out _⟩
 have g1:decide (a0<0)=false:=zD h0
 by_cases h6:a0≥6
 ·have g2:decide (a0≥6)=true:=zC h6
  rw [if_neg (by omega)] at e
  subst e
  clear h0 h6
  go_enter Tryz.func17,Tryz.ntmps17
  go_wp2_with (go_at_call 43;refine HL.out.mono ?_;rintro e w5 ⟨rfl,hb5⟩;have HB:=zA hb5;clear hb5)
  go_ret
  exact ⟨rfl,below_alloc HB.out _⟩
 have hc:a0=0∨a0=1∨a0=2∨a0=3∨a0=4∨a0=5:=by omega
 clear h0 h6 g1
 rcases hc with rfl|rfl|rfl|rfl|rfl|rfl
 all_goals
  (subst e
   go_enter Tryz.func17,Tryz.ntmps17
   go_wp2_with (go_at_call 43;refine HL.out.mono ?_;rintro e w5 ⟨rfl,hb5⟩;have HB:=zA hb5;clear hb5)
   go_ret
   exact ⟨rfl,below_alloc HB.out _⟩)
theorem names_row (W:World):Kd.C Kd.string (W.alloc (.cells #[.string ⟨#[111,116,104,101,114]⟩,.string ⟨#[122,101,114,111]⟩,.string ⟨#[111,110,101]⟩,.string ⟨#[116,119,111]⟩,.string ⟨#[102,101,119]⟩,.string ⟨#[109,97,110,121]⟩] 73)) (some ⟨W.heap.size,0,none⟩) plNames.length plNames:=by
 have hb:=heap_alloc_new W (.cells #[.string ⟨#[111,116,104,101,114]⟩,.string ⟨#[122,101,114,111]⟩,.string ⟨#[111,110,101]⟩,.string ⟨#[116,119,111]⟩,.string ⟨#[102,101,119]⟩,.string ⟨#[109,97,110,121]⟩] 73)
 refine ⟨rfl,by decide,fun _=>⟨_,rfl,fun j x hj=>⟨[.string x],rfl,rfl,fun i u hu=>?_⟩⟩⟩
 have hi:i=0:=by
  rcases i with _|i
  · rfl
  simp at hu
 subst hi
 obtain rfl:Value.string x=u:=by simpa using hu
 have hj6:j<6:=(List.getElem?_eq_some_iff.mp hj).1
 have hc:=blk_cell hb j
 have e1:(Addr.add ⟨W.heap.size,0,none⟩ (j * (Kd.string).sz+0))=⟨W.heap.size,j,none⟩:=by
  show Addr.add ⟨W.heap.size,0,none⟩ (j * 1+0)=_
  simp [Addr.add]
  omega
 rw [e1,hc]
 have:j=0∨j=1∨j=2∨j=3∨j=4∨j=5:=by omega
 rcases this with rfl|rfl|rfl|rfl|rfl|rfl <;> (simp [plNames] at hj;subst hj;rfl)
def plur_Cat.f (a0:ByteArray):Option (Int×Bool):=some (max (ixL plNames a0 0) 0,decide (0≤ixL plNames a0 0))
set_option maxHeartbeats 2000000 in
set_option maxRecDepth 100000 in
theorem plur_Cat.calls (a0:ByteArray)(r1:Int)(r2:Bool)(w:World)(h:plur_Cat.f a0=some (r1,r2)) :
    Calls Tryz.prog 16 #[.string a0] w fun e w'=>e = .returned (.tuple #[.int .i64 r1,.bool r2])∧Below w.heap.size w w':=by
 have HL:=zA (pl_names w)
 have e:=zE h
 obtain ⟨rfl,rfl⟩:=Prod.mk.inj e
 clear h e
 have HX:=zA (fun A0 c0 W hr hc=>ix_row A0 c0 plNames a0 W hr hc)
 generalize ixL plNames a0 0=R at *
 by_cases hR:R<0
 ·have g1:decide (R≥0)=false:=by simp;omega
  have HR:=zA hR
  have hlt:(R<0)=True:=eq_true hR
  have hm:max R 0=0:=by omega
  have hd:decide (0≤R)=false:=by simp;omega
  rw [hm,hd]
  clear hm hd hR
  go_enter Tryz.func16,Tryz.ntmps16
  go_wp2_with (first|(go_at_call 43;refine HL.out.mono ?_;rintro e w5 ⟨rfl,hb5⟩;have HB:=zA hb5;clear hb5)|(go_at_call 44;refine (HX.out _ _ _ (names_row _) (by decide)).mono ?_;rintro e w6 ⟨rfl,rfl⟩))
  go_ret2
  exact ⟨by first|rfl|(rw [show max R 0=0 by have:=HR.out;omega];rfl),below_alloc HB.out _⟩
 have g1:decide (R≥0)=true:=by simp;omega
 have HR:=zA hR
 have hlt:(R<0)=False:=eq_false hR
 have hm:max R 0=R:=by omega
 have hd:decide (0≤R)=true:=by simp;omega
 rw [hm,hd]
 clear hm hd hR
 go_enter Tryz.func16,Tryz.ntmps16
 go_wp2_with (first|(go_at_call 43;refine HL.out.mono ?_;rintro e w5 ⟨rfl,hb5⟩;have HB:=zA hb5;clear hb5)|(go_at_call 44;refine (HX.out _ _ _ (names_row _) (by decide)).mono ?_;rintro e w6 ⟨rfl,rfl⟩))
 go_ret2
 exact ⟨by first|rfl|(rw [show max R 0=R by have:=HR.out;omega];rfl),below_alloc HB.out _⟩
end Go.Proofs.YtgfajgkjbckkgaaGreatDoor.PZ
end
section
noncomputable section
namespace Go.Proofs.YtgfajgkjbckkgaaGreatDoor.PZ
open Go.RowKit Go.Proofs.YtgfajgkjbckkgaaGreatDoorW.PrintWords Go.Proofs.YtgfajgkjbckkgaaGreatDoorW.PrintLast Go.Proofs.YtgfajgkjbckkgaaGreatDoorW.PrintMore
attribute [local go_sem] max2_int min2_int max_two min_two max_three min_three max_four min_four   -- for this text's walks alone
def exergueref07_In.l0:Nat→Int→Int→List Int→Int→Int→Option (Bool)
 | 0,_,_,_,_,_=>none
 | k+1,x1,x2,x7,x8,x9=>if x9<(x7.length:Int) then (if 0≤x9 then (exergueref07_In.l0 k x1 x2 x7 (IntKind.u64.wrap ((IntKind.u64.wrap (x8 * 10))+(IntKind.u64.wrap (rd x7 x9)))) (wrap64 (x9+1))) else (none)) else (if x2≥0 then (if x8≤(IntKind.u64.wrap (x2)) then (if x1<0 then (some true) else (some (decide (x8≥(IntKind.u64.wrap (x1)))))) else (some false)) else (some false))
def exergueref07_In.f (k:Nat)(l0:List Int)(a1:Int)(a2:Int):Option (Bool):=(exergueref07_Bare.f k l0).bind fun aa=>(if (aa.length:Int)>19 then (some false) else (exergueref07_In.l0 k a1 a2 aa 0 0))
theorem exergueref07_In.mono_l:∀ k,(∀ y0 y1 y2 y3 y4,LeO (exergueref07_In.l0 k y0 y1 y2 y3 y4) (exergueref07_In.l0 (k+1) y0 y1 y2 y3 y4))
 | 0=>fun _ _ _ _ _ r h=>by simp [exergueref07_In.l0] at h
 | k+1=>by
  have ih0:=exergueref07_In.mono_l k
  ·intro y0 y1 y2 y3 y4
   unfold exergueref07_In.l0
   repeat' first|(with_reducible first|apply ih0|apply exergueref07_Bare.mono|apply LeO.refl|apply LeO.none|refine LeO.ite ?_ ?_|refine LeO.bind ?_ (fun _=>?_))|apply ih0|apply exergueref07_Bare.mono|apply LeO.none
theorem exergueref07_In.mono:∀ a0 a1 a2 k,LeO (exergueref07_In.f k a0 a1 a2) (exergueref07_In.f (k+1) a0 a1 a2):=by
 intro a0 a1 a2 k
 have ih0:=exergueref07_In.mono_l k
 unfold exergueref07_In.f
 repeat' first|(with_reducible first|apply ih0|apply exergueref07_Bare.mono|apply LeO.refl|apply LeO.none|refine LeO.ite ?_ ?_|refine LeO.bind ?_ (fun _=>?_))|apply ih0|apply exergueref07_Bare.mono|apply LeO.none
set_option maxHeartbeats 8000000 in
set_option maxRecDepth 100000 in
theorem exergueref07_In.calls (k:Nat)(A0:Option Addr)(c0:Nat)(l0:List Int)(a1:Int)(a2:Int)(r:Bool)(w:World)(hr0:Kd.C (Kd.int .u8) w A0 l0.length l0)(hc0:l0.length≤c0)(h:exergueref07_In.f k l0 a1 a2=some r) :
  Calls Tryz.prog 88 #[.slice A0 l0.length c0,.int .i64 a1,.int .i64 a2] w fun e w'=>e = .returned (.bool r)∧Below w.heap.size w w':=by
 have HR0:=zS hr0
 have HC0:=zS hc0
 clear hr0 hc0
 have HB:=zS (Below.refl w.heap.size w)
 have H:((exergueref07_Bare.f k l0).bind fun aa=>(if (aa.length:Int)>19 then (some false) else (exergueref07_In.l0 k a1 a2 aa 0 0)))=some r:=h
 clear h
 replace H:=Option.bind_eq_some_iff.mp H
 obtain ⟨aa,A40,H⟩:=H
 try dsimp only at H
 have A4:=zS A40
 clear A40
 by_cases c5:(aa.length:Int)>19
 ·rw [if_pos c5] at H
  have ag:decide (19<(aa.length:Int))=true:=zC c5
  have ah:decide (19<aa.length)=true:=zC (by omega)
  clear c5
  obtain rfl:=zE H
  go_enter Tryz.func88,Tryz.ntmps88
  go_wp2_with (first|((with_reducible refine gate_callee (f:=69) rfl ?_);refine gL (some 11) Tryz.func69 #[.slice A0 l0.length c0] ?_;(with_reducible refine (exergueref07_Bare.calls k (fun k_=>k_<w.heap.size) _ _ l0 aa _ ?side1 A4.out).mono ?_);(case side1=>exact Kd.V_mk HC0.out (Kd.F_below (Kd.C_F (Kd.heap_int .u8) HR0.out) (bQ HB)));rintro e w6 ⟨an,rfl,ho0,hb⟩;refine ⟨_,rfl,?_⟩;have ac:=zS (Kd.V_lower (Kd.V_mono (ok':=fun k_=>True) ho0 (fun k_ hk_=>trivial)) (bz HB));replace HB:=bs HB hb;(try clear hb);(try clear ho0);obtain ⟨Ao7,co7,eo7⟩:=Kd.V_slice ac.out;subst eo7))
  go_ret
  exact ⟨by first|rfl|(simp <;> rfl)|(simp [*] <;> rfl),bQ HB⟩
 rw [if_neg c5] at H
 have ag:decide (19<(aa.length:Int))=false:=zD c5
 have ah:decide (19<aa.length)=false:=zD (by omega)
 clear c5
 have H':=zS H
 clear H
 go_enter Tryz.func88,Tryz.ntmps88
 go_wp2_with (first|((with_reducible refine gate_callee (f:=69) rfl ?_);refine gL (some 11) Tryz.func69 #[.slice A0 l0.length c0] ?_;(with_reducible refine (exergueref07_Bare.calls k (fun k_=>k_<w.heap.size) _ _ l0 aa _ ?side1 A4.out).mono ?_);(case side1=>exact Kd.V_mk HC0.out (Kd.F_below (Kd.C_F (Kd.heap_int .u8) HR0.out) (bQ HB)));rintro e w8 ⟨an,rfl,ho0,hb⟩;refine ⟨_,rfl,?_⟩;have ac:=zS (Kd.V_lower (Kd.V_mono (ok':=fun k_=>True) ho0 (fun k_ hk_=>trivial)) (bz HB));replace HB:=bs HB hb;(try clear hb);(try clear hb2);(try clear hk);(try clear hi);(try clear ho0);obtain ⟨Ao9,co9,eo9⟩:=Kd.V_slice ac.out;subst eo9))
 go_loopg [8,9] k (fun kq v8 v9 w'=>∃ (ad:Int) (ab:Int),v8 = .int .u64 ad∧v9 = .int .i64 ab∧Sd (exergueref07_In.l0 kq a1 a2 aa ad ab=some r)∧Sd (kq≤k)∧Sd (Kd.V (Kd.int .u8) 5 w' w.heap.size (fun _=>True) (.slice Ao9 aa.length co9) aa)∧Sd (Below w.heap.size w w'))
 case atStart=>exact ⟨(0),(0),(by first|rfl|(simp;done)|(simp [*];done)),(by first|rfl|(simp;done)|(simp [*];done)),H',⟨Nat.le_refl _⟩,⟨vo ac⟩,⟨bQ HB⟩⟩
 case round=>
  clear H'
  try clear p2
  try clear c5
  try clear ag
  try clear ah
  try clear c6
  try clear c8
  obtain ⟨ad,ab,rfl,rfl,HA,HK1,HO_7,HB⟩:=hrel
  cases gk with
  | zero=>exact absurd HA.out (by simp [exergueref07_In.l0])
  | succ k1=>
   have H:=HA.out
   clear HA
   simp only [exergueref07_In.l0] at H
   by_cases c10:ab<(aa.length:Int)
   ·rw [if_pos c10] at H
    have ai:=zC c10
    clear c10
    by_cases c11:0≤ab
    rotate_left
    ·rw [if_neg c11] at H
     exact absurd H (by simp)
    rw [if_pos c11] at H
    have ap:=zC c11
    clear c11
    have H':=zS H
    clear H
    have ae:0≤(ab:Int):=zB (by first|(with_reducible assumption)|assumption)
    have af:ab<(aa.length:Int):=zB (by first|(with_reducible assumption)|assumption)
    obtain ⟨aq,ao,am⟩:=Kd.at_int (Kd.V_reads' HO_7.out).2.2 ab ae af
    cases ao
    replace ae:=eq_true ae
    replace af:=eq_true af
    go_wp2
    go_roundg k1
    case measure=>have:=HK1.out;omega
    case rel=>exact ⟨(IntKind.u64.wrap ((IntKind.u64.wrap (ad * 10))+(IntKind.u64.wrap (rd aa ab)))),(wrap64 (ab+1)),(by first|rfl|(simp;done)|(simp [*];done)),(by first|rfl|(simp;done)|(simp [*];done)),H',⟨by have:=HK1.out;omega⟩,⟨vo HO_7⟩,⟨bQ HB⟩⟩
   rw [if_neg c10] at H
   have ai:=zD c10
   clear c10
   by_cases c12:a2≥0
   rotate_left
   ·rw [if_neg c12] at H
    have aj:decide (0≤a2)=false:=zD c12
    clear c12
    obtain rfl:=zE H
    go_wp2
    go_ret
    exact ⟨by first|rfl|(simp <;> rfl)|(simp [*] <;> rfl),bQ HB⟩
   rw [if_pos c12] at H
   have aj:decide (0≤a2)=true:=zC c12
   clear c12
   by_cases c13:ad≤(IntKind.u64.wrap (a2))
   ·rw [if_pos c13] at H
    have ak:=zC c13
    clear c13
    by_cases c14:a1<0
    ·rw [if_pos c14] at H
     have al:=zC c14
     clear c14
     obtain rfl:=zE H
     go_wp2
     go_ret
     exact ⟨by first|rfl|(simp <;> rfl)|(simp [*] <;> rfl),bQ HB⟩
    rw [if_neg c14] at H
    have al:=zD c14
    clear c14
    obtain rfl:=zE H
    go_wp2
    go_ret
    exact ⟨by first|rfl|(simp <;> rfl)|(simp [*] <;> rfl),bQ HB⟩
   rw [if_neg c13] at H
   have ak:=zD c13
   clear c13
   obtain rfl:=zE H
   go_wp2
   go_ret
   exact ⟨by first|rfl|(simp <;> rfl)|(simp [*] <;> rfl),bQ HB⟩
end Go.Proofs.YtgfajgkjbckkgaaGreatDoor.PZ
end
end
section
noncomputable section
namespace Go.Proofs.YtgfajgkjbckkgaaGreatDoor.PZ
open Go.RowKit Go.Proofs.YtgfajgkjbckkgaaGreatDoorW.PrintWords Go.Proofs.YtgfajgkjbckkgaaGreatDoorW.PrintLast Go.Proofs.YtgfajgkjbckkgaaGreatDoorW.PrintMore
attribute [local go_sem] max2_int min2_int max_two min_two max_three min_three max_four min_four   -- for this text's walks alone
def exergueref12_Short.l0:Nat→List (S65)→Int→Option (Bool)
 | 0,_,_=>none
 | k+1,x0,x3=>if x3<(x0.length:Int) then (if 0≤x3 then ((exergueref11_Short.f k ((rd_T65 x0 x3).f1)).bind fun ak=>(if x3≥8 then (some false) else (if ak=true then (exergueref12_Short.l0 k x0 (wrap64 (x3+1))) else (some false)))) else (none)) else (some true)
def exergueref12_Short.f (k:Nat)(l0:List (S65)):Option (Bool):=exergueref12_Short.l0 k l0 0
theorem exergueref12_Short.mono_l:∀ k,(∀ y0 y1,LeO (exergueref12_Short.l0 k y0 y1) (exergueref12_Short.l0 (k+1) y0 y1))
 | 0=>fun _ _ r h=>by simp [exergueref12_Short.l0] at h
 | k+1=>by
  have ih0:=exergueref12_Short.mono_l k
  ·intro y0 y1
   unfold exergueref12_Short.l0
   repeat' first|(with_reducible first|apply ih0|apply exergueref11_Short.mono|apply LeO.refl|apply LeO.none|refine LeO.ite ?_ ?_|refine LeO.bind ?_ (fun _=>?_))|apply ih0|apply exergueref11_Short.mono|apply LeO.none
theorem exergueref12_Short.mono:∀ a0 k,LeO (exergueref12_Short.f k a0) (exergueref12_Short.f (k+1) a0):=by
 intro a0 k
 have ih0:=exergueref12_Short.mono_l k
 unfold exergueref12_Short.f
 repeat' first|(with_reducible first|apply ih0|apply exergueref11_Short.mono|apply LeO.refl|apply LeO.none|refine LeO.ite ?_ ?_|refine LeO.bind ?_ (fun _=>?_))|apply ih0|apply exergueref11_Short.mono|apply LeO.none
set_option maxHeartbeats 8000000 in
set_option maxRecDepth 100000 in
theorem exergueref12_Short.calls (k:Nat)(A0:Option Addr)(c0:Nat)(l0:List (S65))(r:Bool)(w:World)(hr0:Kd.C k65 w A0 l0.length l0)(hc0:l0.length≤c0)(h:exergueref12_Short.f k l0=some r) :
  Calls Tryz.prog 20 #[.slice A0 l0.length c0] w fun e w'=>e = .returned (.bool r)∧Drawn0 w w':=by
 have HR0:=zS hr0
 have HC0:=zS hc0
 clear hr0 hc0
 have H:(exergueref12_Short.l0 k l0 0)=some r:=h
 clear h
 have H':=zS H
 clear H
 go_enter Tryz.func20,Tryz.ntmps20
 go_wp2
 go_loopg [3] k (fun kq v3 w'=>∃ (aa:Int),v3 = .int .i64 aa∧Sd (exergueref12_Short.l0 kq l0 aa=some r)∧Sd (kq≤k)∧Drawn0 w w')
 case atStart=>exact ⟨(0),(by first|rfl|(simp;done)|(simp [*];done)),H',⟨Nat.le_refl _⟩,by repeat (first|exact Drawn0.refl _|apply Drawn0.step)⟩
 case round=>
  clear H'
  obtain ⟨aa,rfl,HA,HK1,⟨m1,rfl⟩⟩:=hrel
  cases gk with
  | zero=>exact absurd HA.out (by simp [exergueref12_Short.l0])
  | succ k1=>
   have H:=HA.out
   clear HA
   simp only [exergueref12_Short.l0] at H
   by_cases c2:aa<(l0.length:Int)
   rotate_left
   ·rw [if_neg c2] at H
    have am:=zD c2
    clear c2
    obtain rfl:=zE H
    go_wp2
    go_ret
    exact ⟨by first|rfl|(simp;done)|(simp [*];done),by repeat (first|exact Drawn0.refl _|apply Drawn0.step)⟩
   rw [if_pos c2] at H
   have am:=zC c2
   clear c2
   by_cases c3:0≤aa
   rotate_left
   ·rw [if_neg c3] at H
    exact absurd H (by simp)
   rw [if_pos c3] at H
   have ao:=zC c3
   clear c3
   replace H:=Option.bind_eq_some_iff.mp H
   obtain ⟨ak,A40,H⟩:=H
   try dsimp only at H
   have A4:=zS A40
   clear A40
   by_cases c5:aa≥8
   ·rw [if_pos c5] at H
    have an:decide (8≤aa)=true:=zC c5
    clear c5
    obtain rfl:=zE H
    have ad:0≤(aa:Int):=zB (by first|(with_reducible assumption)|assumption)
    have ae:aa<(l0.length:Int):=zB (by first|(with_reducible assumption)|assumption)
    obtain ⟨al,af,ag,aj,ah,ai,hl495_1,hi495_1⟩:=at_T65 HR0.out aa ad ae
    cases aj
    have ab:=zS hi495_1
    have ac:=zS hl495_1
    clear hi495_1 hl495_1
    replace ad:=eq_true ad
    replace ae:=eq_true ae
    go_wp2_with (first|((with_reducible refine gate_callee (f:=30) rfl ?_);refine gL (some 16) Tryz.func30 #[.slice af ((rd_T65 l0 aa).f1).length ag] ?_;(with_reducible refine (exergueref11_Short.calls k1 _ _ ((rd_T65 l0 aa).f1) ak _ ?side1 ac.out A4.out).mono ?_);(case side1=>repeat (first|exact ab.out|(with_reducible refine Kd.C_alloc ?_ _)|(with_reducible refine Kd.C_drewN ?_ _)|(with_reducible refine Kd.C_drew ?_)));rintro e w' ⟨rfl,⟨nd,rfl⟩⟩;refine ⟨_,rfl,?_⟩))
    go_ret
    exact ⟨by first|rfl|(simp;done)|(simp [*];done),by repeat (first|exact Drawn0.refl _|apply Drawn0.step)⟩
   rw [if_neg c5] at H
   have an:decide (8≤aa)=false:=zD c5
   clear c5
   by_cases c6:ak=true
   ·subst c6
    rw [if_pos rfl] at H
    have H':=zS H
    clear H
    have ad:0≤(aa:Int):=zB (by first|(with_reducible assumption)|assumption)
    have ae:aa<(l0.length:Int):=zB (by first|(with_reducible assumption)|assumption)
    obtain ⟨al,af,ag,aj,ah,ai,hl495_1,hi495_1⟩:=at_T65 HR0.out aa ad ae
    cases aj
    have ab:=zS hi495_1
    have ac:=zS hl495_1
    clear hi495_1 hl495_1
    replace ad:=eq_true ad
    replace ae:=eq_true ae
    go_wp2_with (first|((with_reducible refine gate_callee (f:=30) rfl ?_);refine gL (some 16) Tryz.func30 #[.slice af ((rd_T65 l0 aa).f1).length ag] ?_;(with_reducible refine (exergueref11_Short.calls k1 _ _ ((rd_T65 l0 aa).f1) true _ ?side1 ac.out A4.out).mono ?_);(case side1=>repeat (first|exact ab.out|(with_reducible refine Kd.C_alloc ?_ _)|(with_reducible refine Kd.C_drewN ?_ _)|(with_reducible refine Kd.C_drew ?_)));rintro e w' ⟨rfl,⟨nd,rfl⟩⟩;refine ⟨_,rfl,?_⟩))
    go_roundg k1
    case measure=>have:=HK1.out;omega
    case rel=>exact ⟨(wrap64 (aa+1)),(by first|rfl|(simp;done)|(simp [*];done)),H',⟨by have:=HK1.out;omega⟩,by repeat (first|exact Drawn0.refl _|apply Drawn0.step)⟩
   replace c6:=Bool.eq_false_iff.mpr c6
   subst c6
   rw [if_neg (show ¬ (false=true) by decide)] at H
   obtain rfl:=zE H
   have ad:0≤(aa:Int):=zB (by first|(with_reducible assumption)|assumption)
   have ae:aa<(l0.length:Int):=zB (by first|(with_reducible assumption)|assumption)
   obtain ⟨al,af,ag,aj,ah,ai,hl495_1,hi495_1⟩:=at_T65 HR0.out aa ad ae
   cases aj
   have ab:=zS hi495_1
   have ac:=zS hl495_1
   clear hi495_1 hl495_1
   replace ad:=eq_true ad
   replace ae:=eq_true ae
   go_wp2_with (first|((with_reducible refine gate_callee (f:=30) rfl ?_);refine gL (some 16) Tryz.func30 #[.slice af ((rd_T65 l0 aa).f1).length ag] ?_;(with_reducible refine (exergueref11_Short.calls k1 _ _ ((rd_T65 l0 aa).f1) false _ ?side1 ac.out A4.out).mono ?_);(case side1=>repeat (first|exact ab.out|(with_reducible refine Kd.C_alloc ?_ _)|(with_reducible refine Kd.C_drewN ?_ _)|(with_reducible refine Kd.C_drew ?_)));rintro e w' ⟨rfl,⟨nd,rfl⟩⟩;refine ⟨_,rfl,?_⟩))
   go_ret
   exact ⟨by first|rfl|(simp;done)|(simp [*];done),by repeat (first|exact Drawn0.refl _|apply Drawn0.step)⟩
end Go.Proofs.YtgfajgkjbckkgaaGreatDoor.PZ
end
end
section
noncomputable section
namespace Go.Proofs.YtgfajgkjbckkgaaGreatDoor.PZ
open Go.RowKit Go.Proofs.YtgfajgkjbckkgaaGreatDoorW.PrintWords Go.Proofs.YtgfajgkjbckkgaaGreatDoorW.PrintLast Go.Proofs.YtgfajgkjbckkgaaGreatDoorW.PrintMore
attribute [local go_sem] max2_int min2_int max_two min_two max_three min_three max_four min_four   -- for this text's walks alone
def exergueref12_Cat.l0:Nat→ByteArray→Int→Option (Int×Bool)
 | 0,_,_=>none
 | k+1,x0,x4=>if x4<6 then ((exergueref12_Name.f x4).bind fun aa=>(if aa.toList=x0.toList then (some (x4,true)) else (exergueref12_Cat.l0 k x0 (wrap64 (x4+1))))) else (some (0,false))
def exergueref12_Cat.f (k:Nat)(a0:ByteArray):Option (Int×Bool):=exergueref12_Cat.l0 k a0 0
theorem exergueref12_Cat.mono_l:∀ k,(∀ y0 y1,LeO (exergueref12_Cat.l0 k y0 y1) (exergueref12_Cat.l0 (k+1) y0 y1))
 | 0=>fun _ _ r h=>by simp [exergueref12_Cat.l0] at h
 | k+1=>by
  have ih0:=exergueref12_Cat.mono_l k
  ·intro y0 y1
   unfold exergueref12_Cat.l0
   repeat' first|(with_reducible first|apply ih0|apply LeO.refl|apply LeO.none|refine LeO.ite ?_ ?_|refine LeO.bind ?_ (fun _=>?_))|apply ih0|apply LeO.none
theorem exergueref12_Cat.mono:∀ a0 k,LeO (exergueref12_Cat.f k a0) (exergueref12_Cat.f (k+1) a0):=by
 intro a0 k
 have ih0:=exergueref12_Cat.mono_l k
 unfold exergueref12_Cat.f
 repeat' first|(with_reducible first|apply ih0|apply LeO.refl|apply LeO.none|refine LeO.ite ?_ ?_|refine LeO.bind ?_ (fun _=>?_))|apply ih0|apply LeO.none
set_option maxHeartbeats 8000000 in
set_option maxRecDepth 100000 in
theorem exergueref12_Cat.calls (k:Nat)(a0:ByteArray)(r1:Int)(r2:Bool)(w:World)(h:exergueref12_Cat.f k a0=some (r1,r2)) :
  Calls Tryz.prog 21 #[.string a0] w fun e w'=>e = .returned (.tuple #[.int .i64 r1,.bool r2])∧Drawn0 w w':=by
 have H:(exergueref12_Cat.l0 k a0 0)=some (r1,r2):=h
 clear h
 have H':=zS H
 clear H
 go_enter Tryz.func21,Tryz.ntmps21
 go_wp2
 go_loopg [4] k (fun kq v4 w'=>∃ (ab:Int),v4 = .int .i64 ab∧Sd (exergueref12_Cat.l0 kq a0 ab=some (r1,r2))∧Sd (kq≤k)∧Drawn0 w w')
 case atStart=>exact ⟨(0),(by first|rfl|(simp;done)|(simp [*];done)),H',⟨Nat.le_refl _⟩,by repeat (first|exact Drawn0.refl _|apply Drawn0.step)⟩
 case round=>
  clear H'
  obtain ⟨ab,rfl,HA,HK1,⟨m1,rfl⟩⟩:=hrel
  cases gk with
  | zero=>exact absurd HA.out (by simp [exergueref12_Cat.l0])
  | succ k1=>
   have H:=HA.out
   clear HA
   simp only [exergueref12_Cat.l0] at H
   by_cases c2:ab<6
   rotate_left
   ·rw [if_neg c2] at H
    have ac:=zD c2
    clear c2
    simp only [Option.some.injEq,Prod.mk.injEq] at H
    obtain ⟨rfl,rfl⟩:=H
    go_wp2
    go_ret2
    exact ⟨by first|rfl|(simp;done)|(simp [*];done),by repeat (first|exact Drawn0.refl _|apply Drawn0.step)⟩
   rw [if_pos c2] at H
   have ac:=zC c2
   clear c2
   replace H:=Option.bind_eq_some_iff.mp H
   obtain ⟨aa,A30,H⟩:=H
   try dsimp only at H
   have A3:=zS A30
   clear A30
   by_cases c4:aa.toList=a0.toList
   ·rw [if_pos c4] at H
    have ad:(aa.toList == a0.toList)=true:=zH c4
    have ae:(aa.toList != a0.toList)=false:=zG c4
    clear c4
    simp only [Option.some.injEq,Prod.mk.injEq] at H
    obtain ⟨rfl,rfl⟩:=H
    go_wp2_with (first|((with_reducible refine gate_callee (f:=25) rfl ?_);refine gL (some 10) Tryz.func25 #[.int .i64 ab] ?_;(with_reducible refine (exergueref12_Name.calls ab aa _ A3.out).mono ?_);rintro e w' ⟨rfl,⟨nd,rfl⟩⟩;refine ⟨_,rfl,?_⟩))
    go_ret2
    exact ⟨by first|rfl|(simp;done)|(simp [*];done),by repeat (first|exact Drawn0.refl _|apply Drawn0.step)⟩
   rw [if_neg c4] at H
   have ad:(aa.toList == a0.toList)=false:=zF c4
   have ae:(aa.toList != a0.toList)=true:=zI c4
   have H':=zS H
   clear H
   go_wp2_with (first|((with_reducible refine gate_callee (f:=25) rfl ?_);refine gL (some 10) Tryz.func25 #[.int .i64 ab] ?_;(with_reducible refine (exergueref12_Name.calls ab aa _ A3.out).mono ?_);rintro e w' ⟨rfl,⟨nd,rfl⟩⟩;refine ⟨_,rfl,?_⟩))
   go_roundg k1
   case measure=>have:=HK1.out;omega
   case rel=>exact ⟨(wrap64 (ab+1)),(by first|rfl|(simp;done)|(simp [*];done)),H',⟨by have:=HK1.out;omega⟩,by repeat (first|exact Drawn0.refl _|apply Drawn0.step)⟩
end Go.Proofs.YtgfajgkjbckkgaaGreatDoor.PZ
end
end
section
noncomputable section
namespace Go.Proofs.YtgfajgkjbckkgaaGreatDoor.PZ
open Go.RowKit Go.Proofs.YtgfajgkjbckkgaaGreatDoorW.PrintWords Go.Proofs.YtgfajgkjbckkgaaGreatDoorW.PrintLast Go.Proofs.YtgfajgkjbckkgaaGreatDoorW.PrintMore
attribute [local go_sem] max2_int min2_int max_two min_two max_three min_three max_four min_four   -- for this text's walks alone
def oper_told_f.f (ae:List Int)(aa:List Int)(aj:Int)(ak:Int):Option (List Int):=(oper_bare.f aa).bind fun af=>(some af)
set_option maxHeartbeats 8000000 in
set_option maxRecDepth 100000 in
theorem oper_told_f.calls (an:Option Addr)(ao:Nat)(ae:List Int)(ab:Nat→Prop)(ag:Option Addr)(ah:Nat)(aa:List Int)(aj:Int)(ak:Int)(r:List Int)(w:World)(al:Kd.C (Kd.int .u8) w an ae.length ae)(am:ae.length≤ao)(ap:Kd.V (Kd.int .u8) 5 w w.heap.size (fun k_=>ab k_) (.slice ag aa.length ah) aa)(h:oper_told_f.f ae aa aj ak=some r) :
  Calls Tryz.prog 104 #[.agg #[.slice an ae.length ao,.slice ag aa.length ah,.int .i64 aj,.int .i64 ak]] w fun e w'=>∃ v0_:Value,e = .returned (v0_)∧Kd.V (Kd.int .u8) 5 w' w.heap.size (fun k_=>(ab k_∨w.heap.size≤k_)) v0_ r∧Below w.heap.size w w':=by
 have hu136:=Tryz.underlying136
 have ar:=zS al
 have au:=zS am
 clear al am
 have ac:=zS (show Kd.V (Kd.int .u8) 5 w w.heap.size (fun k_=>(ab k_∨w.heap.size≤k_)) (.slice ag aa.length ah) aa from Kd.V_mono ap (fun k_ hk=>.inl hk))
 have HB:=zS (Below.refl w.heap.size w)
 have H:((oper_bare.f aa).bind fun af=>(some af))=some r:=h
 clear h
 replace H:=Option.bind_eq_some_iff.mp H
 obtain ⟨af,A20,H⟩:=H
 try dsimp only at H
 have A2:=zS A20
 clear A20
 obtain rfl:=zE H
 go_enter Tryz.func104,Tryz.ntmps104
 go_wp2_with (first|((with_reducible refine gate_dst (N:=1) rfl ?_);refine box_event ?hg (N:=1) ?hd (cs:=#[.slice an ae.length ao,.slice ag aa.length ah,.int .i64 aj,.int .i64 ak]) (t:=136) ?hr ?_;(case hd=>rfl);(case hg=>rfl);(case hr=>first|(go_simp;done)|(go_simp;rfl));intro ai hg w3 hbox hb;replace ac:=zS (Kd.V_below (Kd.V_elderB (vo ac) ai (Nat.le_of_eq hg.symm)) hb);have ad:=zS (hbox);have av:=bg HB hg;replace HB:=bs HB hb;clear hb hbox hg;have aw:=blkc4 ad.out;have ax:=blkf4 ad.out)|((with_reducible refine gate_callee (f:=107) rfl ?_);refine gL (some 5) Tryz.func107 #[.slice ag aa.length ah] ?_;(with_reducible refine (oper_bare.calls (fun k_=>((ab k_∨w.heap.size≤k_)∧k_≠ai)) _ _ aa af _ ?side1 A2.out).mono ?_);(case side1=>exact ac.out);rintro e w5 ⟨ay,rfl,ho0,hb⟩;refine ⟨_,rfl,?_⟩;replace ac:=vb ac hb;have aq:=zS (Kd.V_lower (Kd.V_mono (ok':=fun k_=>(ab k_∨w.heap.size≤k_)∧k_≠ai) ho0 (fun k_ hk_=>⟨Or.elim hk_ (fun hs_=>hs_.1) (fun hn_=>(.inr (Nat.le_trans (bz HB) hn_))),Or.elim hk_ (fun hs_=>hs_.2) (fun hn_=>(Kd.freshB (ko ad) k_ hn_))⟩)) (bz HB));replace ad:=kb ad hb;replace HB:=bs HB hb;(try clear hb);(try clear ho0)))
 go_ret
 exact ⟨_,by first|rfl|(simp <;> rfl)|(simp [*] <;> rfl),by (with_reducible repeat (first|apply Kd.V_alloc|apply Kd.V_drewN|apply Kd.V_drew));exact Kd.V_mono aq.out (fun _ hk=>hk.1),bQ HB⟩
end Go.Proofs.YtgfajgkjbckkgaaGreatDoor.PZ
end
end
section
noncomputable section
namespace Go.Proofs.YtgfajgkjbckkgaaGreatDoor.PZ
open Go.RowKit Go.Proofs.YtgfajgkjbckkgaaGreatDoorW.PrintWords Go.Proofs.YtgfajgkjbckkgaaGreatDoorW.PrintLast Go.Proofs.YtgfajgkjbckkgaaGreatDoorW.PrintMore
attribute [local go_sem] max2_int min2_int max_two min_two max_three min_three max_four min_four   -- for this text's walks alone
def oper_compared.f (l0:List Int)(l1:List Int):Option (Int):=if (l0.length:Int)=(l1.length:Int) then ((bytes_Compare.f l0 l1).bind fun aa=>(some aa)) else (some (wrap64 ((l0.length:Int) - (l1.length:Int))))
set_option maxHeartbeats 8000000 in
set_option maxRecDepth 100000 in
theorem oper_compared.calls (A0:Option Addr)(c0:Nat)(l0:List Int)(A1:Option Addr)(c1:Nat)(l1:List Int)(r:Int)(w:World)(hr0:Kd.C (Kd.int .u8) w A0 l0.length l0)(hc0:l0.length≤c0)(hr1:Kd.C (Kd.int .u8) w A1 l1.length l1)(hc1:l1.length≤c1)(h:oper_compared.f l0 l1=some r) :
  Calls Tryz.prog 108 #[.slice A0 l0.length c0,.slice A1 l1.length c1] w fun e w'=>e = .returned (.int .i64 r)∧Drawn0 w w':=by
 have HR0:=zS hr0
 have HC0:=zS hc0
 clear hr0 hc0
 have HR1:=zS hr1
 have HC1:=zS hc1
 clear hr1 hc1
 have H:(if (l0.length:Int)=(l1.length:Int) then ((bytes_Compare.f l0 l1).bind fun aa=>(some aa)) else (some (wrap64 ((l0.length:Int) - (l1.length:Int)))))=some r:=h
 clear h
 by_cases c3:(l0.length:Int)=(l1.length:Int)
 ·rw [if_pos c3] at H
  have ab:((l0.length:Int) == (l1.length:Int))=true:=zH c3
  have ac:((l0.length:Int) != (l1.length:Int))=false:=zG c3
  have ad:(l0.length == l1.length)=true:=by first|simpa using c3|(simp at c3 ⊢;omega)
  clear c3
  replace H:=Option.bind_eq_some_iff.mp H
  obtain ⟨aa,A40,H⟩:=H
  try dsimp only at H
  have A4:=zS A40
  clear A40
  obtain rfl:=zE H
  go_enter Tryz.func108,Tryz.ntmps108
  go_wp2_with (first|((with_reducible refine gate_callee (f:=119) rfl ?_);refine gL (some 17) Tryz.func119 #[.slice A0 l0.length c0,.slice A1 l1.length c1] ?_;(with_reducible refine (bytes_Compare.calls _ _ l0 _ _ l1 aa _ ?side1 HC0.out ?side3 HC1.out A4.out).mono ?_);(case side1=>repeat (first|exact HR0.out|(with_reducible refine Kd.C_alloc ?_ _)|(with_reducible refine Kd.C_drewN ?_ _)|(with_reducible refine Kd.C_drew ?_)));(case side3=>repeat (first|exact HR1.out|(with_reducible refine Kd.C_alloc ?_ _)|(with_reducible refine Kd.C_drewN ?_ _)|(with_reducible refine Kd.C_drew ?_)));rintro e w' ⟨rfl,⟨nd,rfl⟩⟩;refine ⟨_,rfl,?_⟩))
  go_ret
  exact ⟨by first|rfl|(simp;done)|(simp [*];done),by repeat (first|exact Drawn0.refl _|apply Drawn0.step)⟩
 rw [if_neg c3] at H
 have ab:((l0.length:Int) == (l1.length:Int))=false:=zF c3
 have ac:((l0.length:Int) != (l1.length:Int))=true:=zI c3
 have ad:(l0.length == l1.length)=false:=by first|simpa using c3|(simp at c3 ⊢;omega)
 obtain rfl:=zE H
 go_enter Tryz.func108,Tryz.ntmps108
 go_wp2
 go_ret
 exact ⟨by first|rfl|(simp;done)|(simp [*];done),by repeat (first|exact Drawn0.refl _|apply Drawn0.step)⟩
end Go.Proofs.YtgfajgkjbckkgaaGreatDoor.PZ
end
end
section
set_option maxRecDepth 100000
namespace Go.Proofs.YtgfajgkjbckkgaaGreatDoor.PZ
open Go.RowKit Go.Proofs.YtgfajgkjbckkgaaGreatDoorW.PrintWords Go.Proofs.YtgfajgkjbckkgaaGreatDoorW.PrintLast
def oper_number.f (n:Int):Option (List Int):=if -9223372036854775808≤n∧n≤9223372036854775807 then some (if n=0 then [] else (bytesOf (numText n)).map lessB) else none
set_option maxHeartbeats 1000000 in
theorem oper_number.calls (a0:Int)(r:List Int)(w:World)(hG:GL w)(h:oper_number.f a0=some r) :
    Calls Tryz.prog 109 #[.int .i64 a0] w fun e w'=>∃ v0_:Value,e = .returned (v0_)∧Kd.V (Kd.int .u8) 5 w' w.heap.size (fun k_=>w.heap.size≤k_) v0_ r∧Below w.heap.size w w':=by
 unfold oper_number.f at h
 by_cases hb : -9223372036854775808≤a0∧a0≤9223372036854775807
 rotate_left
 ·rw [if_neg hb] at h
  cases h
 rw [if_pos hb] at h
 obtain rfl:=zE h
 clear h
 by_cases h0:a0=0
 ·subst h0
  simp only [if_true]
  go_enter Tryz.func109,Tryz.ntmps109
  go_wp2
  go_ret
  exact ⟨_,rfl,Kd.V_nil _ _ _ _ _,Below.refl _ _⟩
 rw [if_neg h0]
 have e0:(a0 == 0)=false:=by simpa using h0
 have hsz:=numText_size a0 hb.1 hb.2
 have hIt:=strconv_Itoa.calls a0 (numText a0) w hG (by unfold strconv_Itoa.f numText;rw [if_pos hb])
 have hlen:(bytesOf (numText a0)).length=(numText a0).size:=bytesOf_length _
 clear hb h0 hG
 generalize numText a0=s at *
 have kc:=fun (W:World)=>print_bytes (P:=Tryz.prog) 9 34 5 Tryz.underlying9 Tryz.underlying34 Tryz.underlying5 s W
 have HSZ:=zA hsz
 have HLEN:=zA hlen
 clear hsz hlen
 go_enter Tryz.func109,Tryz.ntmps109
 go_wp2_with (go_at_call 75;refine hIt.mono ?_;rintro e w1 ⟨rfl,hb1⟩;have HB1:=zA hb1;clear hb1)
 have H0:=zA (MixSt.start w1 s)
 have HB2:=zA (bytes_below HB1.out HB1.out.size 5 s)
 go_loopg [4,12] s.size (fun gg _ s12 wr=>∃ k:Nat,k≤s.size∧s.size - k≤gg∧s12 = .int .i64 k∧Aside0 (MixSt w1.heap.size (bytesOf s) k wr)∧Aside0 (Below w.heap.size w wr))
 case atStart=>exact ⟨0,Nat.zero_le _,by omega,rfl,H0,HB2⟩
 case round=>
  obtain ⟨k,hk,hg,rfl,HM,HB⟩:=hrel
  have hs21:=HSZ.out
  by_cases hlt:k<s.size
  ·have hlt1:=zC hlt
   obtain ⟨hcell,hfz⟩:=HM.out.2 k (by rw [HLEN.out];exact hlt)
   rw [if_neg (Nat.lt_irrefl k)] at hcell
   have HP:=zA (HM.out.put (by rw [HLEN.out];exact hlt))
   generalize hy:rd (bytesOf s) (k:Int)=y at hcell HP
   clear hy
   go_wp2
   go_roundg (s.size - (k+1))
   case measure=>omega
   case rel=>exact ⟨k+1,by omega,by omega,by go_num,HP,⟨Below.setCell HB.out HB1.out.size _⟩⟩
  have:k=s.size:=by omega
  subst this
  have hlt1:=zD hlt
  go_wp2
  go_ret
  have hd:=HM.out
  rw [← HLEN.out] at hd
  have hV:=hd.done w.heap.size HB1.out.size (grownCap w1 s.size 0 5) (by rw [HLEN.out];exact grownCap_ge _ _ _ _) (by rw [HLEN.out];omega)
  rw [HLEN.out] at hV
  exact ⟨_,rfl,hV,HB.out⟩
section
theorem rg_at {w:World}{A:Option Addr}{n:Nat}{xs:List Rg}(h:Kd.C k57 w A n xs)(i:Nat)(hi:i<n) :
    ∃ ad,A=some ad∧w.cell? (ad.add (i * 2))=some (.int .i64 (xs.getD i ⟨0,0⟩).f0)∧w.cell? ⟨(ad.add (i * 2)).block,(ad.add (i * 2)).off+1,none⟩=some (.int .i64 (xs.getD i ⟨0,0⟩).f1):=by
 have:=at_T57 h (i:Int) (by omega) (by omega)
 simpa [rd_T57,z57] using this
theorem rel_at {w:World}{A:Option Addr}{n:Nat}{xs:List Rl}(h:Kd.C k60 w A n xs)(i:Nat)(hi:i<n) :
    ∃ ad A3 c3,A=some ad∧w.cell? (ad.add (i * 4))=some (.int .u8 (xs.getD i ⟨0,0,false,[]⟩).f0)∧w.cell? ⟨(ad.add (i * 4)).block,(ad.add (i * 4)).off+1,none⟩=some (.int .i64 (xs.getD i ⟨0,0,false,[]⟩).f1)∧w.cell? ⟨(ad.add (i * 4)).block,(ad.add (i * 4)).off+2,none⟩=some (.bool (xs.getD i ⟨0,0,false,[]⟩).f2) ∧
      w.cell? ⟨(ad.add (i * 4)).block,(ad.add (i * 4)).off+3,none⟩=some (.slice A3 (xs.getD i ⟨0,0,false,[]⟩).f3.length c3)∧(xs.getD i ⟨0,0,false,[]⟩).f3.length≤c3∧Kd.C k57 w A3 (xs.getD i ⟨0,0,false,[]⟩).f3.length (xs.getD i ⟨0,0,false,[]⟩).f3:=by
 have:=at_T60 h (i:Int) (by omega) (by omega)
 simpa [rd_T60,z60] using this
theorem row_at {w:World}{A:Option Addr}{n:Nat}{xs:List (List Rl)}(h:Kd.C (Kd.slice 60 k60) w A n xs)(i:Nat)(hi:i<n) :
    ∃ ad A0 c0,A=some ad∧w.cell? (ad.add i)=some (.slice A0 (xs.getD i []).length c0)∧(xs.getD i []).length≤c0∧Kd.C k60 w A0 (xs.getD i []).length (xs.getD i []):=by
 obtain ⟨ad,c,e,hl,hK,hc⟩:=Kd.C_get h ([]:List Rl) (i:Int) (by omega) (by omega)
 simp only [Int.toNat_natCast] at hK hc
 obtain ⟨A0,c0,rfl,h1,h2⟩:=hK
 have:=hc 0 _ rfl
 have hz:(Kd.slice 60 k60).sz=1:=rfl
 rw [hz,Nat.mul_one,Nat.add_zero] at this
 exact ⟨ad,A0,c0,e,this,h1,h2⟩
section
variable {α:Type}{xs ys:List α}
theorem same_more {k:Nat}(z:α)(hl:xs.length=ys.length)(hk:k<xs.length)(h:xs.take k=ys.take k)(he:xs.getD k z=ys.getD k z):xs.take (k+1)=ys.take (k+1):=by
 rw [List.take_succ_eq_append_getElem hk,List.take_succ_eq_append_getElem (by omega),h]
 congr 2
 simpa [List.getD_eq_getElem?_getD,List.getElem?_eq_getElem hk,List.getElem?_eq_getElem (show k<ys.length by omega)] using he
theorem same_end {k:Nat}(hl:xs.length=ys.length)(hk:k=xs.length)(h:xs.take k=ys.take k):xs=ys:=by
 rw [List.take_of_length_le (by omega),List.take_of_length_le (by omega)] at h
 exact h
theorem same_not {k:Nat}(z:α)(he:xs.getD k z≠ys.getD k z):xs≠ys:=fun h=>he (by rw [h])
end
end
def Bls (b:List Int):Prop:=∀ c ∈ b,c=32
theorem runL_cons (p:Int→Bool)(c:Int)(t:List Int):runL p (c :: t)=if p c then runL p t+1 else 0:=by
 unfold runL
 rw [List.takeWhile_cons]
 split <;> simp
theorem runL_le (p:Int→Bool)(t:List Int):runL p t≤t.length:=(List.takeWhile_sublist _).length_le
theorem pw_nat {n:Int}(h:0≤n):pw n=(digsN n.toNat).map chr:=by unfold pw;rw [if_neg (by omega)]
theorem decv_chr (l:List Int):decv (l.map chr)=num l:=by
 unfold decv num
 rw [List.foldl_map]
 congr 1
 funext n c
 unfold chr
 omega
def GoodG (r:Rg):Prop:=0≤r.f0∧r.f0≤r.f1∧r.f1≤999999999
def GoodX (x:Rl):Prop:=isOp x.f0=true∧0≤x.f1∧x.f1≤999999999∧x.f3≠[]∧∀ r ∈ x.f3,GoodG r
theorem op_low {c:Int}(h:isOp c=true):isLo c=true∧c≠32:=by
 unfold isOp at h
 unfold isLo
 simp at h
 simp
 omega
structure Sp (sp:List Int):Prop where
  bls:Bls sp
  ne:sp≠[]
theorem Sp.cons {sp:List Int}(h:Sp sp):∃ q,sp=32 :: q∧Bls q:=by
 match sp,h with
 | [],h=>exact absurd rfl h.ne
 | c :: q,h=>exact ⟨q,by rw [h.bls c (by simp)],fun x hx=>h.bls x (by simp [hx])⟩
theorem Sp.stop {sp:List Int}(h:Sp sp){p:Int→Bool}(hp:p 32=false)(t:List Int):runL p (sp ++ t)=0:=by
 obtain ⟨q,rfl,_⟩:=h.cons
 rw [List.cons_append,runL_cons,hp]
 rfl
def Ends (r:List (Rl×Bool)):Prop:=∃ a x,r=a ++ [(x,false)]
def wrd (o:Bool):List Int:=if o then wordOr else wordAnd
theorem runT_cons (sp:List Int)(x:Rl)(o:Bool){r:List (Rl×Bool)}(h:r≠[]):runT sp ((x,o) :: r)=relT sp x ++ (sp ++ (wrd o ++ (sp ++ runT sp r))):=by
 cases r with
 | nil=>exact absurd rfl h
 | cons y r=>rfl
end Go.Proofs.YtgfajgkjbckkgaaGreatDoor.PZ
end
section
set_option maxRecDepth 100000
namespace Go.Proofs.YtgfajgkjbckkgaaGreatDoor.PZ
open Go.RowKit Go.Proofs.YtgfajgkjbckkgaaGreatDoorW.PrintWords
def OkG (g:Rg):Prop:=(Lit.int .i64 g.f0).wf=true∧(Lit.int .i64 g.f1).wf=true
def OkL {α:Type}(bytes:Nat)(Q:α→Prop)(l:List α):Prop:=l.length * bytes≤140737488351232∧∀ x ∈ l,Q x
def OkX (x:Rl):Prop:=(Lit.int .u8 x.f0).wf=true∧(Lit.int .i64 x.f1).wf=true∧OkL 16 OkG x.f3
def OkC (c:List (List Rl)):Prop:=OkL 24 (OkL 48 OkX) c
def OkRu (x:S65):Prop:=(Lit.int .i64 x.f0).wf=true∧OkC x.f1
def OkRus (l:List S65):Prop:=OkL 32 OkRu l
def OkTx (x:S68):Prop:=(Lit.int .i64 x.f0).wf=true∧x.f1.size≤140737488351232
def OkTxs (l:List S68):Prop:=OkL 24 OkTx l
end Go.Proofs.YtgfajgkjbckkgaaGreatDoor.PZ
end
