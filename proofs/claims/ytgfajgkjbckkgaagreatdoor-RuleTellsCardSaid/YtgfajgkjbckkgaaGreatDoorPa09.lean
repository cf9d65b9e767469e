/- Texts of this seat, joined. Conditions: none beyond each statement's own. -/
import Derived.Test.YtgfajgkjbckkgaaGreatDoorPa07
import Derived.Test.YtgfajgkjbckkgaaGreatDoorPa06
section
set_option maxRecDepth 100000
namespace Go.Proofs.YtgfajgkjbckkgaaGreatDoor.PZ
open Go.RowKit Go.Proofs.YtgfajgkjbckkgaaGreatDoorW.PrintWords Go.Proofs.YtgfajgkjbckkgaaGreatDoorW.PrintLast
def exergueref07_Right.f (k:Nat)(l0_0:List Int)(l0_1:List Int)(a0_2:Int)(a0_3:Int):Option (Bool):=(exergueref07_Figures.f k l0_0).bind fun t354=>((exergueref07_Figures.f k l0_1).bind fun t355=>(if t354=true then (if t355=true then (if (l0_0.length:Int)>0 then (if (rd l0_0 0)=0 then (some false) else ((exergueref07_Full.f k l0_1).bind fun t357=>(some (decide (a0_2=t357) && (decide (0≤a0_3) && decide (a0_3≤1000)))))) else ((exergueref07_Full.f k l0_1).bind fun t358=>(some (decide (a0_2=t358) && (decide (0≤a0_3) && decide (a0_3≤1000)))))) else (some false)) else (some false)))
theorem exergueref07_Right.mono:∀ a0 a1 a2 a3 k,LeO (exergueref07_Right.f k a0 a1 a2 a3) (exergueref07_Right.f (k+1) a0 a1 a2 a3):=by
 intro a0 a1 a2 a3 k
 unfold exergueref07_Right.f
 refine LeO.bind (exergueref07_Figures.mono _ k) fun _=>LeO.bind (exergueref07_Figures.mono _ k) fun _=>LeO.ite (LeO.ite (LeO.ite (LeO.ite (LeO.refl _) (LeO.bind (exergueref07_Full.mono _ k) fun _=>LeO.refl _)) (LeO.bind (exergueref07_Full.mono _ k) fun _=>LeO.refl _)) (LeO.refl _)) (LeO.refl _)
section
variable (k:Nat)(A0:Option Addr)(c0:Nat)(l0:List Int)(A1:Option Addr)(c1:Nat)(l1:List Int)(a2 a3:Int)(w:World)
  (hr0:Kd.C (Kd.int .u8) w A0 l0.length l0) (hc0:l0.length≤c0) (hr1:Kd.C (Kd.int .u8) w A1 l1.length l1) (hc1:l1.length≤c1)
set_option linter.unusedSectionVars false
include hr0 hc0 hr1 hc1
set_option maxHeartbeats 4000000 in
set_option maxRecDepth 100000 in
theorem refRight_f_t (ht:exergueref07_Figures.f k l0=some false)(hu:exergueref07_Figures.f k l1=some true):Calls Tryz.prog 26 #[.agg #[.slice A0 l0.length c0,.slice A1 l1.length c1,.int .i64 a2,.int .i64 a3]] w (RPost w (false)):=by
 have k0:=fun W (hb:Below w.heap.size w W)=>exergueref07_Figures.calls k A0 c0 l0 _ W (Kd.C_below hr0 hb) hc0 ht
 have hb:=Aside0.mk (fun (o:Obj) (n:Nat)=>pw_below_drewN ((Below.refl _ w).alloc (Nat.le_refl _) o) n)
 have hb0:=Aside0.mk (fun (o:Obj)=>(Below.refl _ w).alloc (Nat.le_refl _) o)
 have K0:=Aside0.mk k0
 have k1:=fun W (hb:Below w.heap.size w W)=>exergueref07_Figures.calls k A1 c1 l1 _ W (Kd.C_below hr1 hb) hc1 hu
 have K1:=Aside0.mk k1
 clear hr0 hc0 hr1 hc1 k0 k1 ht hu
 generalize l0.length=n0 at K0 ⊢
 generalize l1.length=n1 at K1 ⊢
 go_enter Tryz.func26,Tryz.ntmps26
 go_wp2_with (first|(go_at_call 48;(with_reducible refine (K0.out _ (hb0.out _)).mono ?_);rintro e w1 ⟨rfl,⟨q,rfl⟩⟩)|(go_at_call 48;(with_reducible refine (K1.out _ (hb.out _ q)).mono ?_);rintro e w1 ⟨rfl,⟨q2,rfl⟩⟩))
 repeat (go_quiet (fail);try go_wp2)
 go_ret
 exact ⟨rfl,by repeat (first|exact hb.out _ _|apply pw_below_drewN)⟩
set_option maxHeartbeats 4000000 in
set_option maxRecDepth 100000 in
theorem refRight_f_f (ht:exergueref07_Figures.f k l0=some false)(hu:exergueref07_Figures.f k l1=some false):Calls Tryz.prog 26 #[.agg #[.slice A0 l0.length c0,.slice A1 l1.length c1,.int .i64 a2,.int .i64 a3]] w (RPost w (false)):=by
 have k0:=fun W (hb:Below w.heap.size w W)=>exergueref07_Figures.calls k A0 c0 l0 _ W (Kd.C_below hr0 hb) hc0 ht
 have hb:=Aside0.mk (fun (o:Obj) (n:Nat)=>pw_below_drewN ((Below.refl _ w).alloc (Nat.le_refl _) o) n)
 have hb0:=Aside0.mk (fun (o:Obj)=>(Below.refl _ w).alloc (Nat.le_refl _) o)
 have K0:=Aside0.mk k0
 have k1:=fun W (hb:Below w.heap.size w W)=>exergueref07_Figures.calls k A1 c1 l1 _ W (Kd.C_below hr1 hb) hc1 hu
 have K1:=Aside0.mk k1
 clear hr0 hc0 hr1 hc1 k0 k1 ht hu
 generalize l0.length=n0 at K0 ⊢
 generalize l1.length=n1 at K1 ⊢
 go_enter Tryz.func26,Tryz.ntmps26
 go_wp2_with (first|(go_at_call 48;(with_reducible refine (K0.out _ (hb0.out _)).mono ?_);rintro e w1 ⟨rfl,⟨q,rfl⟩⟩)|(go_at_call 48;(with_reducible refine (K1.out _ (hb.out _ q)).mono ?_);rintro e w1 ⟨rfl,⟨q2,rfl⟩⟩))
 repeat (go_quiet (fail);try go_wp2)
 go_ret
 exact ⟨rfl,by repeat (first|exact hb.out _ _|apply pw_below_drewN)⟩
set_option maxHeartbeats 4000000 in
set_option maxRecDepth 100000 in
theorem refRight_t_f (ht:exergueref07_Figures.f k l0=some true)(hu:exergueref07_Figures.f k l1=some false):Calls Tryz.prog 26 #[.agg #[.slice A0 l0.length c0,.slice A1 l1.length c1,.int .i64 a2,.int .i64 a3]] w (RPost w (false)):=by
 have k0:=fun W (hb:Below w.heap.size w W)=>exergueref07_Figures.calls k A0 c0 l0 _ W (Kd.C_below hr0 hb) hc0 ht
 have hb:=Aside0.mk (fun (o:Obj) (n:Nat)=>pw_below_drewN ((Below.refl _ w).alloc (Nat.le_refl _) o) n)
 have hb0:=Aside0.mk (fun (o:Obj)=>(Below.refl _ w).alloc (Nat.le_refl _) o)
 have K0:=Aside0.mk k0
 have k1:=fun W (hb:Below w.heap.size w W)=>exergueref07_Figures.calls k A1 c1 l1 _ W (Kd.C_below hr1 hb) hc1 hu
 have K1:=Aside0.mk k1
 clear hr0 hc0 hr1 hc1 k0 k1 ht hu
 generalize l0.length=n0 at K0 ⊢
 generalize l1.length=n1 at K1 ⊢
 go_enter Tryz.func26,Tryz.ntmps26
 go_wp2_with (first|(go_at_call 48;(with_reducible refine (K0.out _ (hb0.out _)).mono ?_);rintro e w1 ⟨rfl,⟨q,rfl⟩⟩)|(go_at_call 48;(with_reducible refine (K1.out _ (hb.out _ q)).mono ?_);rintro e w1 ⟨rfl,⟨q2,rfl⟩⟩))
 repeat (go_quiet (fail);try go_wp2)
 go_ret
 exact ⟨rfl,by repeat (first|exact hb.out _ _|apply pw_below_drewN)⟩
set_option maxHeartbeats 4000000 in
set_option maxRecDepth 100000 in
theorem refRight_nought (ht:exergueref07_Figures.f k l0=some true)(hu:exergueref07_Figures.f k l1=some true)(h0:0<l0.length)(h1:rd l0 0=0):Calls Tryz.prog 26 #[.agg #[.slice A0 l0.length c0,.slice A1 l1.length c1,.int .i64 a2,.int .i64 a3]] w (RPost w (false)):=by
 have k0:=fun W (hb:Below w.heap.size w W)=>exergueref07_Figures.calls k A0 c0 l0 _ W (Kd.C_below hr0 hb) hc0 ht
 have hb:=Aside0.mk (fun (o:Obj) (n:Nat)=>pw_below_drewN ((Below.refl _ w).alloc (Nat.le_refl _) o) n)
 have hb0:=Aside0.mk (fun (o:Obj)=>(Below.refl _ w).alloc (Nat.le_refl _) o)
 have K0:=Aside0.mk k0
 have k1:=fun W (hb:Below w.heap.size w W)=>exergueref07_Figures.calls k A1 c1 l1 _ W (Kd.C_below hr1 hb) hc1 hu
 have K1:=Aside0.mk k1
 clear k0 k1 ht hu
 obtain ⟨ad,e1,hcell⟩:=Kd.at_int hr0 0 (by omega) (by omega)
 cases e1
 rw [show ((0:Int)).toNat=0 from rfl,Addr.add_zero',h1] at hcell
 have hlt:ad.block<w.heap.size:=World.block_lt_of_cell? w _ hcell
 clear hr0 hc0 hr1 hc1 h1
 have d1:decide (0<l0.length)=true:=decide_eq_true h0
 have d2:decide (0<(l0.length:Int))=true:=decide_eq_true (by omega)
 have d3:(0<l0.length)=True:=eq_true h0
 generalize l0.length=n0 at K0 d1 d2 d3 ⊢
 generalize l1.length=n1 at K1 ⊢
 clear h0
 go_enter Tryz.func26,Tryz.ntmps26
 go_wp2_with (first|(go_at_call 48;(with_reducible refine (K0.out _ (hb0.out _)).mono ?_);rintro e w1 ⟨rfl,⟨q,rfl⟩⟩)|(go_at_call 48;(with_reducible refine (K1.out _ (hb.out _ q)).mono ?_);rintro e w1 ⟨rfl,⟨q2,rfl⟩⟩))
 repeat (go_quiet (fail);try go_wp2)
 go_ret
 exact ⟨rfl,by repeat (first|exact hb.out _ _|apply pw_below_drewN)⟩
set_option maxHeartbeats 4000000 in
set_option maxRecDepth 100000 in
theorem refRight_none (nf:Int)(ht:exergueref07_Figures.f k l0=some true)(hu:exergueref07_Figures.f k l1=some true)(hn:exergueref07_Full.f k l1=some nf)(h0:l0.length=0):Calls Tryz.prog 26 #[.agg #[.slice A0 l0.length c0,.slice A1 l1.length c1,.int .i64 a2,.int .i64 a3]] w (RPost w (decide (a2=nf) && (decide (0≤a3) && decide (a3≤1000)))):=by
 have k0:=fun W (hb:Below w.heap.size w W)=>exergueref07_Figures.calls k A0 c0 l0 _ W (Kd.C_below hr0 hb) hc0 ht
 have hb:=Aside0.mk (fun (o:Obj) (n:Nat)=>pw_below_drewN ((Below.refl _ w).alloc (Nat.le_refl _) o) n)
 have hb0:=Aside0.mk (fun (o:Obj)=>(Below.refl _ w).alloc (Nat.le_refl _) o)
 have K0:=Aside0.mk k0
 have k1:=fun W (hb:Below w.heap.size w W)=>exergueref07_Figures.calls k A1 c1 l1 _ W (Kd.C_below hr1 hb) hc1 hu
 have K1:=Aside0.mk k1
 clear k0 k1 ht hu
 have k2:=fun W (hb:Below w.heap.size w W)=>(exergueref07_Full.calls k A1 c1 l1 nf W (Kd.C_below hr1 hb) hc1 hn).mono (fun e w' (h:e = .returned (.int .i64 nf)∧Drawn0 W w')=>(⟨h.1,h.2.out⟩:e = .returned (.int .i64 nf)∧∃ m,w'=W.drewN m))
 have K2:=Aside0.mk k2
 clear hr0 hc0 hr1 hc1 k2 hn
 have d1:decide (0<l0.length)=false:=decide_eq_false (by omega)
 have d2:decide (0<(l0.length:Int))=false:=decide_eq_false (by omega)
 generalize l0.length=n0 at K0 d1 d2 h0 ⊢
 clear h0
 generalize l1.length=n1 at K1 K2 ⊢
 by_cases e2:a2=nf
 ·have f2:(a2 == nf)=true:=by simpa using e2
  rw [decide_eq_true e2]
  clear e2
  by_cases e3:0≤a3
  ·have f3:decide (0≤a3)=true:=decide_eq_true e3
   rw [f3]
   clear e3
   go_enter Tryz.func26,Tryz.ntmps26
   go_wp2_with (first|(go_at_call 48;(with_reducible refine (K0.out _ (hb0.out _)).mono ?_);rintro e w1 ⟨rfl,⟨q,rfl⟩⟩)|(go_at_call 48;(with_reducible refine (K1.out _ (hb.out _ q)).mono ?_);rintro e w1 ⟨rfl,⟨q2,rfl⟩⟩))
   repeat (go_quiet ((go_at_call 49;exact quiet_addO (K2.out _ (hb.out _ _))));try go_wp2)
   go_ret
   exact ⟨rfl,by repeat (first|exact hb.out _ _|apply pw_below_drewN)⟩
  have f3:decide (0≤a3)=false:=decide_eq_false e3
  rw [f3]
  clear e3
  go_enter Tryz.func26,Tryz.ntmps26
  go_wp2_with (first|(go_at_call 48;(with_reducible refine (K0.out _ (hb0.out _)).mono ?_);rintro e w1 ⟨rfl,⟨q,rfl⟩⟩)|(go_at_call 48;(with_reducible refine (K1.out _ (hb.out _ q)).mono ?_);rintro e w1 ⟨rfl,⟨q2,rfl⟩⟩))
  repeat (go_quiet ((go_at_call 49;exact quiet_addO (K2.out _ (hb.out _ _))));try go_wp2)
  go_ret
  exact ⟨rfl,by repeat (first|exact hb.out _ _|apply pw_below_drewN)⟩
 have f2:(a2 == nf)=false:=by simpa using e2
 rw [decide_eq_false e2]
 clear e2
 go_enter Tryz.func26,Tryz.ntmps26
 go_wp2_with (first|(go_at_call 48;(with_reducible refine (K0.out _ (hb0.out _)).mono ?_);rintro e w1 ⟨rfl,⟨q,rfl⟩⟩)|(go_at_call 48;(with_reducible refine (K1.out _ (hb.out _ q)).mono ?_);rintro e w1 ⟨rfl,⟨q2,rfl⟩⟩))
 repeat (go_quiet ((go_at_call 49;exact quiet_addO (K2.out _ (hb.out _ _))));try go_wp2)
 go_ret
 exact ⟨rfl,by repeat (first|exact hb.out _ _|apply pw_below_drewN)⟩
set_option maxHeartbeats 4000000 in
set_option maxRecDepth 100000 in
theorem refRight_some (nf:Int)(ht:exergueref07_Figures.f k l0=some true)(hu:exergueref07_Figures.f k l1=some true)(hn:exergueref07_Full.f k l1=some nf)(h0:0<l0.length)(h1:¬ rd l0 0=0):Calls Tryz.prog 26 #[.agg #[.slice A0 l0.length c0,.slice A1 l1.length c1,.int .i64 a2,.int .i64 a3]] w (RPost w (decide (a2=nf) && (decide (0≤a3) && decide (a3≤1000)))):=by
 have k0:=fun W (hb:Below w.heap.size w W)=>exergueref07_Figures.calls k A0 c0 l0 _ W (Kd.C_below hr0 hb) hc0 ht
 have hb:=Aside0.mk (fun (o:Obj) (n:Nat)=>pw_below_drewN ((Below.refl _ w).alloc (Nat.le_refl _) o) n)
 have hb0:=Aside0.mk (fun (o:Obj)=>(Below.refl _ w).alloc (Nat.le_refl _) o)
 have K0:=Aside0.mk k0
 have k1:=fun W (hb:Below w.heap.size w W)=>exergueref07_Figures.calls k A1 c1 l1 _ W (Kd.C_below hr1 hb) hc1 hu
 have K1:=Aside0.mk k1
 clear k0 k1 ht hu
 have k2:=fun W (hb:Below w.heap.size w W)=>(exergueref07_Full.calls k A1 c1 l1 nf W (Kd.C_below hr1 hb) hc1 hn).mono (fun e w' (h:e = .returned (.int .i64 nf)∧Drawn0 W w')=>(⟨h.1,h.2.out⟩:e = .returned (.int .i64 nf)∧∃ m,w'=W.drewN m))
 have K2:=Aside0.mk k2
 obtain ⟨ad,e1,hcell⟩:=Kd.at_int hr0 0 (by omega) (by omega)
 cases e1
 rw [show ((0:Int)).toNat=0 from rfl,Addr.add_zero'] at hcell
 have hlt:ad.block<w.heap.size:=World.block_lt_of_cell? w _ hcell
 clear hr0 hc0 hr1 hc1 k2 hn
 have d0:(rd l0 0 == 0)=false:=by simpa using h1
 generalize rd l0 0=v0 at hcell d0 h1
 have d1:decide (0<l0.length)=true:=decide_eq_true h0
 have d2:decide (0<(l0.length:Int))=true:=decide_eq_true (by omega)
 have d3:(0<l0.length)=True:=eq_true h0
 generalize l0.length=n0 at K0 d1 d2 d3 ⊢
 clear h0 h1
 generalize l1.length=n1 at K1 K2 ⊢
 by_cases e2:a2=nf
 ·have f2:(a2 == nf)=true:=by simpa using e2
  rw [decide_eq_true e2]
  clear e2
  by_cases e3:0≤a3
  ·have f3:decide (0≤a3)=true:=decide_eq_true e3
   rw [f3]
   clear e3
   go_enter Tryz.func26,Tryz.ntmps26
   go_wp2_with (first|(go_at_call 48;(with_reducible refine (K0.out _ (hb0.out _)).mono ?_);rintro e w1 ⟨rfl,⟨q,rfl⟩⟩)|(go_at_call 48;(with_reducible refine (K1.out _ (hb.out _ q)).mono ?_);rintro e w1 ⟨rfl,⟨q2,rfl⟩⟩))
   repeat (go_quiet ((go_at_call 49;exact quiet_addO (K2.out _ (hb.out _ _))));try go_wp2)
   go_ret
   exact ⟨rfl,by repeat (first|exact hb.out _ _|apply pw_below_drewN)⟩
  have f3:decide (0≤a3)=false:=decide_eq_false e3
  rw [f3]
  clear e3
  go_enter Tryz.func26,Tryz.ntmps26
  go_wp2_with (first|(go_at_call 48;(with_reducible refine (K0.out _ (hb0.out _)).mono ?_);rintro e w1 ⟨rfl,⟨q,rfl⟩⟩)|(go_at_call 48;(with_reducible refine (K1.out _ (hb.out _ q)).mono ?_);rintro e w1 ⟨rfl,⟨q2,rfl⟩⟩))
  repeat (go_quiet ((go_at_call 49;exact quiet_addO (K2.out _ (hb.out _ _))));try go_wp2)
  go_ret
  exact ⟨rfl,by repeat (first|exact hb.out _ _|apply pw_below_drewN)⟩
 have f2:(a2 == nf)=false:=by simpa using e2
 rw [decide_eq_false e2]
 clear e2
 go_enter Tryz.func26,Tryz.ntmps26
 go_wp2_with (first|(go_at_call 48;(with_reducible refine (K0.out _ (hb0.out _)).mono ?_);rintro e w1 ⟨rfl,⟨q,rfl⟩⟩)|(go_at_call 48;(with_reducible refine (K1.out _ (hb.out _ q)).mono ?_);rintro e w1 ⟨rfl,⟨q2,rfl⟩⟩))
 repeat (go_quiet ((go_at_call 49;exact quiet_addO (K2.out _ (hb.out _ _))));try go_wp2)
 go_ret
 exact ⟨rfl,by repeat (first|exact hb.out _ _|apply pw_below_drewN)⟩
end
theorem exergueref07_Right.calls (k:Nat)(A0_0:Option Addr)(c0_0:Nat)(l0_0:List Int)(A0_1:Option Addr)(c0_1:Nat)(l0_1:List Int)(a0_2:Int)(a0_3:Int)(r:Bool)(w:World)(hr0_0:Kd.C (Kd.int .u8) w A0_0 l0_0.length l0_0)(hc0_0:l0_0.length≤c0_0)(hr0_1:Kd.C (Kd.int .u8) w A0_1 l0_1.length l0_1)(hc0_1:l0_1.length≤c0_1)(h:exergueref07_Right.f k l0_0 l0_1 a0_2 a0_3=some r) :
    Calls Tryz.prog 26 #[.agg #[.slice A0_0 l0_0.length c0_0,.slice A0_1 l0_1.length c0_1,.int .i64 a0_2,.int .i64 a0_3]] w fun e w'=>e = .returned (.bool r)∧Below w.heap.size w w':=by
 unfold exergueref07_Right.f at h
 obtain ⟨t,ht,h⟩:=Option.bind_eq_some_iff.1 h
 obtain ⟨u,hu,h⟩:=Option.bind_eq_some_iff.1 h
 cases t with
 | false=>
  obtain rfl:false=r:=by simpa using h
  cases u with
  | false=>exact refRight_f_f k A0_0 c0_0 l0_0 A0_1 c0_1 l0_1 a0_2 a0_3 w hr0_0 hc0_0 hr0_1 hc0_1 ht hu
  | true=>exact refRight_f_t k A0_0 c0_0 l0_0 A0_1 c0_1 l0_1 a0_2 a0_3 w hr0_0 hc0_0 hr0_1 hc0_1 ht hu
 | true=>
  cases u with
  | false=>
   obtain rfl:false=r:=by simpa using h
   exact refRight_t_f k A0_0 c0_0 l0_0 A0_1 c0_1 l0_1 a0_2 a0_3 w hr0_0 hc0_0 hr0_1 hc0_1 ht hu
  | true=>
   simp only [if_true] at h
   by_cases h0:(l0_0.length:Int)>0
   ·rw [if_pos h0] at h
    by_cases h1:rd l0_0 0=0
    ·rw [if_pos h1] at h
     obtain rfl:=Option.some.inj h
     exact refRight_nought k A0_0 c0_0 l0_0 A0_1 c0_1 l0_1 a0_2 a0_3 w hr0_0 hc0_0 hr0_1 hc0_1 ht hu (by omega) h1
    rw [if_neg h1] at h
    obtain ⟨nf,hn,h⟩:=Option.bind_eq_some_iff.1 h
    obtain rfl:=Option.some.inj h
    exact refRight_some k A0_0 c0_0 l0_0 A0_1 c0_1 l0_1 a0_2 a0_3 w hr0_0 hc0_0 hr0_1 hc0_1 nf ht hu hn (by omega) h1
   rw [if_neg h0] at h
   obtain ⟨nf,hn,h⟩:=Option.bind_eq_some_iff.1 h
   obtain rfl:=Option.some.inj h
   exact refRight_none k A0_0 c0_0 l0_0 A0_1 c0_1 l0_1 a0_2 a0_3 w hr0_0 hc0_0 hr0_1 hc0_1 nf ht hu hn (by omega)
end Go.Proofs.YtgfajgkjbckkgaaGreatDoor.PZ
end
section
noncomputable section
namespace Go.Proofs.YtgfajgkjbckkgaaGreatDoor.PZ
open Go.RowKit Go.Proofs.YtgfajgkjbckkgaaGreatDoorW.PrintWords Go.Proofs.YtgfajgkjbckkgaaGreatDoorW.PrintLast Go.Proofs.YtgfajgkjbckkgaaGreatDoorW.PrintMore
attribute [local go_sem] max2_int min2_int max_two min_two max_three min_three max_four min_four   -- for this text's walks alone
set_option linter.unusedVariables false
set_option linter.unusedSimpArgs false
mutual
def exergueref11_number.l0:Nat→ByteArray→Int→Int→Int→Int→Option (Int×Int)
 | 0,_,_,_,_,_=>none
 | k+1,x0,x2,x8,x9,x10=>if x9<(x0.size:Int) then (if 0≤x9 then (if (bt x0 x9)≥48 then (exergueref11_number.j1 k x0 x2 x8 x9 x10 (decide ((bt x0 x9)≤57))) else (exergueref11_number.j1 k x0 x2 x8 x9 x10 false)) else (none)) else (exergueref11_number.j1 k x0 x2 x8 x9 x10 false)
def exergueref11_number.j1:Nat→ByteArray→Int→Int→Int→Int→Bool→Option (Int×Int)
 | 0,_,_,_,_,_,_=>none
 | k+1,x0,x2,x8,x9,x10,x30=>if x30=true then (if (wrap64 (x9 - x8))<9 then (if 0≤x9 then (if x9<(x0.size:Int) then (exergueref11_number.l0 k x0 x2 x8 (wrap64 (x9+1)) (wrap64 ((wrap64 (x10 * 10))+(((bt x0 x9) - 48) % 256)))) else (none)) else (none)) else (exergueref11_number.l0 k x0 x2 x8 (wrap64 (x9+1)) x10)) else (if x9=x8 then (some ((-1),x8)) else (if (wrap64 (x9 - x8))>9 then (some ((-1),x8)) else (if 0≤x8 then (if x8<(x0.size:Int) then (if (bt x0 x8)=48 then (if (wrap64 (x9 - x8))>1 then (some ((-1),x8)) else (if x10<x2 then (some ((-1),x8)) else (some (x10,x9)))) else (if x10<x2 then (some ((-1),x8)) else (some (x10,x9)))) else (none)) else (none))))
end
def exergueref11_number.f (k:Nat)(a0:ByteArray)(a1:Int)(a2:Int):Option (Int×Int):=(exergueref11_over.f k a0 a1).bind fun aa=>(exergueref11_number.l0 k a0 a2 aa aa 0)
theorem exergueref11_number.mono_l:∀ k,(∀ y0 y1 y2 y3 y4,LeO (exergueref11_number.l0 k y0 y1 y2 y3 y4) (exergueref11_number.l0 (k+1) y0 y1 y2 y3 y4))∧(∀ y0 y1 y2 y3 y4 y5,LeO (exergueref11_number.j1 k y0 y1 y2 y3 y4 y5) (exergueref11_number.j1 (k+1) y0 y1 y2 y3 y4 y5))
 | 0=>⟨fun _ _ _ _ _ r h=>by simp [exergueref11_number.l0] at h,fun _ _ _ _ _ _ r h=>by simp [exergueref11_number.j1] at h⟩
 | k+1=>by
  obtain ⟨ih0,ih1⟩:=exergueref11_number.mono_l k
  refine ⟨?_,?_⟩
  ·intro y0 y1 y2 y3 y4
   unfold exergueref11_number.l0
   repeat' first|(with_reducible first|apply ih0|apply ih1|apply exergueref11_over.mono|apply LeO.refl|apply LeO.none|refine LeO.ite ?_ ?_|refine LeO.bind ?_ (fun _=>?_))|apply ih0|apply ih1|apply exergueref11_over.mono|apply LeO.none
  ·intro y0 y1 y2 y3 y4 y5
   unfold exergueref11_number.j1
   repeat' first|(with_reducible first|apply ih0|apply ih1|apply exergueref11_over.mono|apply LeO.refl|apply LeO.none|refine LeO.ite ?_ ?_|refine LeO.bind ?_ (fun _=>?_))|apply ih0|apply ih1|apply exergueref11_over.mono|apply LeO.none
theorem exergueref11_number.mono:∀ a0 a1 a2 k,LeO (exergueref11_number.f k a0 a1 a2) (exergueref11_number.f (k+1) a0 a1 a2):=by
 intro a0 a1 a2 k
 obtain ⟨ih0,ih1⟩:=exergueref11_number.mono_l k
 unfold exergueref11_number.f
 repeat' first|(with_reducible first|apply ih0|apply ih1|apply exergueref11_over.mono|apply LeO.refl|apply LeO.none|refine LeO.ite ?_ ?_|refine LeO.bind ?_ (fun _=>?_))|apply ih0|apply ih1|apply exergueref11_over.mono|apply LeO.none
set_option maxHeartbeats 8000000 in
set_option maxRecDepth 100000 in
theorem exergueref11_number.calls (k:Nat)(a0:ByteArray)(a1:Int)(a2:Int)(r1:Int)(r2:Int)(w:World)(h:exergueref11_number.f k a0 a1 a2=some (r1,r2)) :
  Calls Tryz.prog 96 #[.string a0,.int .i64 a1,.int .i64 a2] w fun e w'=>e = .returned (.tuple #[.int .i64 r1,.int .i64 r2])∧Drawn0 w w':=by
 have H:((exergueref11_over.f k a0 a1).bind fun aa=>(exergueref11_number.l0 k a0 a2 aa aa 0))=some (r1,r2):=h
 clear h
 obtain ⟨aa,A4,H⟩:=bX H
 try dsimp only at H
 have H':=Sd.mk H
 clear H
 go_enter Tryz.func96,Tryz.ntmps96
 go_wp2_with (first|((with_reducible refine gate_callee (f:=72) rfl ?_);refine gL (some 13) Tryz.func72 #[.string a0,.int .i64 a1] ?_;(with_reducible refine (exergueref11_over.calls k a0 a1 aa _ A4.out).mono ?_);rintro e w' ⟨rfl,⟨nd,rfl⟩⟩;refine ⟨_,rfl,?_⟩))
 go_loopg [9,10] k (fun kq v9 v10 w'=>∃ (ab:Int) (ac:Int),v9 = .int .i64 ab∧v10 = .int .i64 ac∧Sd (exergueref11_number.l0 kq a0 a2 aa ab ac=some (r1,r2))∧Sd (kq≤k)∧Drawn0 w w')
 case atStart=>exact ⟨(aa),(0),(by first|rfl|(simp;done)|(simp [*];done)),(by first|rfl|(simp;done)|(simp [*];done)),H',⟨Nat.le_refl _⟩,by repeat (first|exact Drawn0.refl _|apply Drawn0.step)⟩
 case round=>
  clear H'
  try clear p2
  obtain ⟨ab,ac,rfl,rfl,HA,HK1,⟨m1,rfl⟩⟩:=hrel
  cases gk with
  | zero=>exact absurd HA.out (by simp [exergueref11_number.l0])
  | succ k1=>
   have H:=HA.out
   clear HA
   simp only [exergueref11_number.l0] at H
   have HC5:=Sd.mk H
   clear H
   go_upto_region 4 with (fail)
   go_cut [30] (fun v30 wc=>∃ (kq:Nat) (ad:Bool),v30 = .bool ad∧Sd (exergueref11_number.j1 kq a0 a2 aa ab ac ad=some (r1,r2))∧Sd (kq≤k1)∧Drawn0 w wc)
   case first=>
    have H:=HC5.out
    clear HC5
    by_cases c6:ab<(a0.size:Int)
    rotate_left
    ·rw [if_neg c6] at H
     have ae:=decide_eq_false c6
     clear c6
     (first|rw [ae]|(simp only [i64_w,i32_w];rw [ae])|rw [aq]|skip)
     have H':=Sd.mk H
     clear H
     go_wp2
     go_meet
     case rel=>exact ⟨_,(false),(by first|rfl|(simp;done)|(simp [*];done)),H',⟨by have:=HK1.out;first|omega|exact Nat.le_refl _⟩,by repeat (first|exact Drawn0.refl _|apply Drawn0.step)⟩
    rw [if_pos c6] at H
    have ae:=decide_eq_true c6
    clear c6
    (first|rw [ae]|(simp only [i64_w,i32_w];rw [ae])|rw [aq]|skip)
    by_cases c7:0≤ab
    rotate_left
    ·rw [if_neg c7] at H
     exact absurd H (by simp)
    rw [if_pos c7] at H
    have ar:=decide_eq_true c7
    clear c7
    by_cases c9:(bt a0 ab)≥48
    ·rw [if_pos c9] at H
     have ag:decide (48≤(bt a0 ab))=true:=decide_eq_true c9
     clear c9
     have H':=Sd.mk H
     clear H
     have p8:0≤(ab:Int):=of_decide_eq_true (by first|(with_reducible assumption)|assumption)
     have q8:ab<(a0.size:Int):=of_decide_eq_true (by first|(with_reducible assumption)|assumption)
     have hx8:=bt_at a0 ab
     replace p8:=eq_true p8
     replace q8:=eq_true q8
     have p10:0≤(ab:Int):=of_decide_eq_true (by first|(with_reducible assumption)|assumption)
     have q10:ab<(a0.size:Int):=of_decide_eq_true (by first|(with_reducible assumption)|assumption)
     have au:=bt_at a0 ab
     replace p10:=eq_true p10
     replace q10:=eq_true q10
     go_wp2
     go_meet
     case rel=>exact ⟨_,(decide ((bt a0 ab)≤57)),(by first|rfl|(simp;done)|(simp [*];done)),H',⟨by have:=HK1.out;first|omega|exact Nat.le_refl _⟩,by repeat (first|exact Drawn0.refl _|apply Drawn0.step)⟩
    rw [if_neg c9] at H
    have ag:decide (48≤(bt a0 ab))=false:=decide_eq_false c9
    clear c9
    have H':=Sd.mk H
    clear H
    have p8:0≤(ab:Int):=of_decide_eq_true (by first|(with_reducible assumption)|assumption)
    have q8:ab<(a0.size:Int):=of_decide_eq_true (by first|(with_reducible assumption)|assumption)
    have hx8:=bt_at a0 ab
    replace p8:=eq_true p8
    replace q8:=eq_true q8
    go_wp2
    go_meet
    case rel=>exact ⟨_,(false),(by first|rfl|(simp;done)|(simp [*];done)),H',⟨by have:=HK1.out;first|omega|exact Nat.le_refl _⟩,by repeat (first|exact Drawn0.refl _|apply Drawn0.step)⟩
   case rest=>
    clear HC5
    try clear p1
    try clear q1
    try clear hx1
    try clear p2
    try clear c6
    try clear ae
    try clear c7
    try clear ar
    try clear p8
    try clear q8
    try clear hx8
    try clear c9
    try clear ag
    try clear p10
    try clear q10
    try clear au
    try clear p10
    try clear p2
    try clear p8
    try clear q10
    try clear q8
    obtain ⟨kq,ad,rfl,HA,HJ4,⟨mc4,rfl⟩⟩:=hcut
    cases kq with
    | zero=>exact absurd HA.out (by simp [exergueref11_number.j1])
    | succ kj4=>
     have H:=HA.out
     clear HA
     simp only [exergueref11_number.j1] at H
     by_cases c11:ad=true
     ·subst c11
      rw [if_pos rfl] at H
      by_cases c12:(wrap64 (ab - aa))<9
      rotate_left
      ·rw [if_neg c12] at H
       have ah:=decide_eq_false c12
       clear c12
       have H':=Sd.mk H
       clear H
       go_wp2
       go_roundg kj4
       case measure=>have:=HK1.out;have:=HJ4.out;omega
       case rel=>exact ⟨(wrap64 (ab+1)),(ac),(by first|rfl|(simp;done)|(simp [*];done)),(by first|rfl|(simp;done)|(simp [*];done)),H',⟨by have:=HK1.out;have:=HJ4.out;omega⟩,by repeat (first|exact Drawn0.refl _|apply Drawn0.step)⟩
      rw [if_pos c12] at H
      have ah:=decide_eq_true c12
      clear c12
      by_cases c13:0≤ab
      rotate_left
      ·rw [if_neg c13] at H
       exact absurd H (by simp)
      rw [if_pos c13] at H
      have av:=decide_eq_true c13
      clear c13
      by_cases c14:ab<(a0.size:Int)
      ·rw [if_pos c14] at H
       have aw:=decide_eq_true c14
       clear c14
       have H':=Sd.mk H
       clear H
       have p15:0≤(ab:Int):=of_decide_eq_true (by first|(with_reducible assumption)|assumption)
       have q15:ab<(a0.size:Int):=of_decide_eq_true (by first|(with_reducible assumption)|assumption)
       have az:=bt_at a0 ab
       replace p15:=eq_true p15
       replace q15:=eq_true q15
       go_wp2
       go_roundg kj4
       case measure=>have:=HK1.out;have:=HJ4.out;omega
       case rel=>(try simp only [show wrap64 ((bt a0 ab - 48) % 256)=(bt a0 ab - 48) % 256 from by (unfold wrap64;omega)]);exact ⟨(wrap64 (ab+1)),(wrap64 ((wrap64 (ac * 10))+(((bt a0 ab) - 48) % 256))),(by first|rfl|(simp;done)|(simp [*];done)),(by first|rfl|(simp;done)|(simp [*];done)),H',⟨by have:=HK1.out;have:=HJ4.out;omega⟩,by repeat (first|exact Drawn0.refl _|apply Drawn0.step)⟩
      rw [if_neg c14] at H
      exact absurd H (by simp)
     replace c11:=Bool.eq_false_iff.mpr c11
     subst c11
     rw [if_neg (show ¬ (false=true) by decide)] at H
     by_cases c16:ab=aa
     ·rw [if_pos c16] at H
      have ai:(ab == aa)=true:=beq_iff_eq.mpr c16
      have aj:(ab != aa)=false:=bne_eq_false_iff_eq.mpr c16
      clear c16
      simp only [Option.some.injEq,Prod.mk.injEq] at H
      obtain ⟨rfl,rfl⟩:=H
      go_wp2
      go_ret2
      exact ⟨by first|rfl|(simp;done)|(simp [*];done),by repeat (first|exact Drawn0.refl _|apply Drawn0.step)⟩
     rw [if_neg c16] at H
     have ai:(ab == aa)=false:=beq_eq_false_iff_ne.mpr c16
     have aj:(ab != aa)=true:=bne_iff_ne.mpr c16
     by_cases c17:(wrap64 (ab - aa))>9
     ·rw [if_pos c17] at H
      have ak:decide (9<(wrap64 (ab - aa)))=true:=decide_eq_true c17
      clear c17
      simp only [Option.some.injEq,Prod.mk.injEq] at H
      obtain ⟨rfl,rfl⟩:=H
      go_wp2
      go_ret2
      exact ⟨by first|rfl|(simp;done)|(simp [*];done),by repeat (first|exact Drawn0.refl _|apply Drawn0.step)⟩
     rw [if_neg c17] at H
     have ak:decide (9<(wrap64 (ab - aa)))=false:=decide_eq_false c17
     clear c17
     by_cases c18:0≤aa
     rotate_left
     ·rw [if_neg c18] at H
      exact absurd H (by simp)
     rw [if_pos c18] at H
     have ax:=decide_eq_true c18
     clear c18
     by_cases c19:aa<(a0.size:Int)
     rotate_left
     ·rw [if_neg c19] at H
      exact absurd H (by simp)
     rw [if_pos c19] at H
     have ay:=decide_eq_true c19
     clear c19
     by_cases c21:(bt a0 aa)=48
     rotate_left
     ·rw [if_neg c21] at H
      have al:((bt a0 aa) == 48)=false:=beq_eq_false_iff_ne.mpr c21
      have am:((bt a0 aa) != 48)=true:=bne_iff_ne.mpr c21
      by_cases c24:ac<a2
      ·rw [if_pos c24] at H
       have an:=decide_eq_true c24
       clear c24
       simp only [Option.some.injEq,Prod.mk.injEq] at H
       obtain ⟨rfl,rfl⟩:=H
       have p20:0≤(aa:Int):=of_decide_eq_true (by first|(with_reducible assumption)|assumption)
       have q20:aa<(a0.size:Int):=of_decide_eq_true (by first|(with_reducible assumption)|assumption)
       have af:=bt_at a0 aa
       replace p20:=eq_true p20
       replace q20:=eq_true q20
       go_wp2
       go_ret2
       exact ⟨by first|rfl|(simp;done)|(simp [*];done),by repeat (first|exact Drawn0.refl _|apply Drawn0.step)⟩
      rw [if_neg c24] at H
      have an:=decide_eq_false c24
      clear c24
      simp only [Option.some.injEq,Prod.mk.injEq] at H
      obtain ⟨rfl,rfl⟩:=H
      have p20:0≤(aa:Int):=of_decide_eq_true (by first|(with_reducible assumption)|assumption)
      have q20:aa<(a0.size:Int):=of_decide_eq_true (by first|(with_reducible assumption)|assumption)
      have af:=bt_at a0 aa
      replace p20:=eq_true p20
      replace q20:=eq_true q20
      go_wp2
      go_ret2
      exact ⟨by first|rfl|(simp;done)|(simp [*];done),by repeat (first|exact Drawn0.refl _|apply Drawn0.step)⟩
     rw [if_pos c21] at H
     have al:((bt a0 aa) == 48)=true:=beq_iff_eq.mpr c21
     have am:((bt a0 aa) != 48)=false:=bne_eq_false_iff_eq.mpr c21
     clear c21
     by_cases c22:(wrap64 (ab - aa))>1
     ·rw [if_pos c22] at H
      have ao:decide (1<(wrap64 (ab - aa)))=true:=decide_eq_true c22
      clear c22
      simp only [Option.some.injEq,Prod.mk.injEq] at H
      obtain ⟨rfl,rfl⟩:=H
      have p20:0≤(aa:Int):=of_decide_eq_true (by first|(with_reducible assumption)|assumption)
      have q20:aa<(a0.size:Int):=of_decide_eq_true (by first|(with_reducible assumption)|assumption)
      have af:=bt_at a0 aa
      replace p20:=eq_true p20
      replace q20:=eq_true q20
      go_wp2
      go_ret2
      exact ⟨by first|rfl|(simp;done)|(simp [*];done),by repeat (first|exact Drawn0.refl _|apply Drawn0.step)⟩
     rw [if_neg c22] at H
     have ao:decide (1<(wrap64 (ab - aa)))=false:=decide_eq_false c22
     clear c22
     by_cases c23:ac<a2
     ·rw [if_pos c23] at H
      have ap:=decide_eq_true c23
      clear c23
      simp only [Option.some.injEq,Prod.mk.injEq] at H
      obtain ⟨rfl,rfl⟩:=H
      have p20:0≤(aa:Int):=of_decide_eq_true (by first|(with_reducible assumption)|assumption)
      have q20:aa<(a0.size:Int):=of_decide_eq_true (by first|(with_reducible assumption)|assumption)
      have af:=bt_at a0 aa
      replace p20:=eq_true p20
      replace q20:=eq_true q20
      go_wp2
      go_ret2
      exact ⟨by first|rfl|(simp;done)|(simp [*];done),by repeat (first|exact Drawn0.refl _|apply Drawn0.step)⟩
     rw [if_neg c23] at H
     have ap:=decide_eq_false c23
     clear c23
     simp only [Option.some.injEq,Prod.mk.injEq] at H
     obtain ⟨rfl,rfl⟩:=H
     have p20:0≤(aa:Int):=of_decide_eq_true (by first|(with_reducible assumption)|assumption)
     have q20:aa<(a0.size:Int):=of_decide_eq_true (by first|(with_reducible assumption)|assumption)
     have af:=bt_at a0 aa
     replace p20:=eq_true p20
     replace q20:=eq_true q20
     go_wp2
     go_ret2
     exact ⟨by first|rfl|(simp;done)|(simp [*];done),by repeat (first|exact Drawn0.refl _|apply Drawn0.step)⟩
end Go.Proofs.YtgfajgkjbckkgaaGreatDoor.PZ
end
end
section
noncomputable section
namespace Go.Proofs.YtgfajgkjbckkgaaGreatDoor.PZ
open Go.RowKit Go.Proofs.YtgfajgkjbckkgaaGreatDoorW.PrintWords Go.Proofs.YtgfajgkjbckkgaaGreatDoorW.PrintLast Go.Proofs.YtgfajgkjbckkgaaGreatDoorW.PrintMore
attribute [local go_sem] max2_int min2_int max_two min_two max_three min_three max_four min_four   -- for this text's walks alone
set_option linter.unusedVariables false
set_option linter.unusedSimpArgs false
mutual
def exergueref05_Number.l0:Nat→Int→ByteArray→Option (ByteArray)
 | 0,_,_=>none
 | k+1,x0,x3=>if x0≥10 then ((some (([(wrap64 (48+(Int.tmod (wrap64 (Int.tdiv x0 10)) 10))) % 256]:List Int):List Int)).bind fun ac=>(if (strOfNums ac).size+x3.size≤9223372036854775807 then (exergueref05_Number.l0 k (wrap64 (Int.tdiv x0 10)) ((strOfNums ac) ++ x3)) else (none))) else (some x3)
def exergueref05_Number.f:Nat→Int→Option (ByteArray)
 | 0,_=>none
 | k+1,a0=>if a0<0 then ((exergueref05_Number.f k (wrap64 (-a0))).bind fun ab=>(if 1+ab.size≤9223372036854775807 then (some ((⟨#[45]⟩:ByteArray) ++ ab)) else (none))) else (exergueref05_Number.l0 k a0 (strOfNums (([(wrap64 (48+(Int.tmod a0 10))) % 256]:List Int))))
end
theorem exergueref05_Number.mono_l:∀ k,(∀ y0,LeO (exergueref05_Number.f k y0) (exergueref05_Number.f (k+1) y0))∧(∀ y0 y1,LeO (exergueref05_Number.l0 k y0 y1) (exergueref05_Number.l0 (k+1) y0 y1))
 | 0=>⟨fun _ r h=>by simp [exergueref05_Number.f] at h,fun _ _ r h=>by simp [exergueref05_Number.l0] at h⟩
 | k+1=>by
  obtain ⟨ih0,ih1⟩:=exergueref05_Number.mono_l k
  refine ⟨?_,?_⟩
  ·intro y0
   unfold exergueref05_Number.f
   repeat' first|(with_reducible first|apply ih0|apply ih1|apply LeO.refl|apply LeO.none|refine LeO.ite ?_ ?_|refine LeO.bind ?_ (fun _=>?_))|apply ih0|apply ih1|apply LeO.none
  ·intro y0 y1
   unfold exergueref05_Number.l0
   repeat' first|(with_reducible first|apply ih0|apply ih1|apply LeO.refl|apply LeO.none|refine LeO.ite ?_ ?_|refine LeO.bind ?_ (fun _=>?_))|apply ih0|apply ih1|apply LeO.none
theorem exergueref05_Number.mono:∀ a0 k,LeO (exergueref05_Number.f k a0) (exergueref05_Number.f (k+1) a0):=by
 intro a0 k
 obtain ⟨ih0,ih1⟩:=exergueref05_Number.mono_l k
 exact ih0 a0
set_option maxHeartbeats 8000000 in
set_option maxRecDepth 100000 in
theorem exergueref05_Number.calls (k:Nat):∀ (a0:Int)(r:ByteArray)(w:World)(h:exergueref05_Number.f k a0=some r),
  Calls Tryz.prog 58 #[.int .i64 a0] w fun e w'=>e = .returned (.string r)∧Below w.heap.size w w':=by
 induction k using Nat.strongRecOn with
 | _ k ih=>
 intro a0 r w h
 cases k with
 | zero=>exact absurd h (by simp [exergueref05_Number.f])
 | succ k=>
 simp only [exergueref05_Number.f] at h
 have HB:=Sd.mk (Below.refl w.heap.size w)
 have H:(if a0<0 then ((exergueref05_Number.f k (wrap64 (-a0))).bind fun ab=>(if 1+ab.size≤9223372036854775807 then (some ((⟨#[45]⟩:ByteArray) ++ ab)) else (none))) else (exergueref05_Number.l0 k a0 (strOfNums (([(wrap64 (48+(Int.tmod a0 10))) % 256]:List Int)))))=some r:=h
 clear h
 by_cases c2:a0<0
 ·rw [if_pos c2] at H
  have aj:=decide_eq_true c2
  clear c2
  obtain ⟨ab,A3,H⟩:=bX H
  try dsimp only at H
  by_cases c4:1+ab.size≤9223372036854775807
  ·rw [if_pos c4] at H
   have an:=eq_true c4
   have ao:=decide_eq_true c4
   try have ap:(9223372036854775807<1+ab.size)=False:=eq_false (Nat.not_lt.2 c4)
   obtain rfl:=Option.some.inj H
   go_enter Tryz.func58,Tryz.ntmps58
   go_wp2_with (first|((with_reducible refine gate_callee (f:=58) rfl ?_);refine gL (some 8) Tryz.func58 #[.int .i64 (wrap64 (-a0))] ?_;(with_reducible refine (ih k (by omega) (wrap64 (-a0)) ab _ A3.out).mono ?_);rintro e w5 ⟨rfl,hb⟩;refine ⟨_,rfl,?_⟩;replace HB:=bs HB hb;(try clear hb)))
   go_ret
   exact ⟨by first|rfl|(simp <;> rfl)|(simp [*] <;> rfl),bQ HB⟩
  rw [if_neg c4] at H
  exact absurd H (by simp)
 rw [if_neg c2] at H
 have aj:=decide_eq_false c2
 clear c2
 obtain ⟨ak,ad⟩:∃ y_:List Int,y_=(([(wrap64 (48+(Int.tmod a0 10))) % 256]:List Int)):=⟨_,rfl⟩
 replace H:(exergueref05_Number.l0 k a0 (strOfNums ak))=some r:=by first|(rw [ad];with_reducible exact H)|(have H2_:=(Option.bind_some _ _).symm.trans H;rw [ad];with_reducible exact H2_)|(have H2_:=(Option.bind_some _ _).symm.trans H;with_reducible exact H2_)|with_reducible exact H|(rw [ad];exact H)|exact H
 have ah:=Sd.mk ad
 clear ad
 have H':=Sd.mk H
 clear H
 go_enter Tryz.func58,Tryz.ntmps58
 go_wp2_with (first|((with_reducible refine gate_dst (N:=14) rfl ?_);refine Kd.R_lit (Kd.int .u8) _ 5 ?hg (N:=14) ?hd (xs:=([(wrap64 (48+(Int.tmod a0 10))) % 256]:List Int)) (inner:=[.int .u8 ((wrap64 (48+(Int.tmod a0 10))) % 256)]) (ok:=fun _=>True) (okp:=fun _=>True) ?hr ?hp (fun _ hk=>hk) trivial (Below.refl _ _) (Nat.le_refl _) (by simp) ?_;(case hd=>rfl);(case hg=>rfl);(case hr=>first|(go_simp;done)|(go_simp;rfl));(case hp=>exact (Reps.one (show Kd.M (Kd.int .u8) _ _ _ ((wrap64 (48+(Int.tmod a0 10))) % 256) [.int .u8 ((wrap64 (48+(Int.tmod a0 10))) % 256)] from rfl) (Reps.none _ _)));intro aw w6 ho7 hb hg_ hnew_;clear hg_ hnew_;(first|rw [← ah.out] at ho7|(simp only [Int.reduceToNat] at ho7;rw [← ah.out] at ho7));have al:=Sd.mk (Kd.R_lower ho7 (bz HB));replace HB:=bs HB hb;clear hb ho7;have hcv8:=own_string (P:=Tryz.prog) Tryz.underlying34 Tryz.underlying5 Tryz.underlying9 (Kd.own_of_R al.out)))
 go_loopg [0,3] k (fun kq v0 v3 w'=>∃ (aa:Int) (ae:ByteArray),v0 = .int .i64 aa∧v3 = .string ae∧Sd (exergueref05_Number.l0 kq aa ae=some r)∧Sd (kq≤k)∧Sd (Below w.heap.size w w'))
 case atStart=>exact ⟨(a0),(strOfNums ak),(by first|rfl|(simp;done)|(simp [*];done)),(by first|rfl|(simp;done)|(simp [*];done)),H',⟨Nat.le_refl _⟩,⟨bQ HB⟩⟩
 case round=>
  clear H'
  try clear c2
  try clear aj
  try clear p2
  try clear c4
  try clear an
  try clear ao
  try clear ap
  try clear c5
  try clear p6
  try clear hcv8
  obtain ⟨aa,ae,rfl,rfl,HA,HK1,HB⟩:=hrel
  cases gk with
  | zero=>exact absurd HA.out (by simp [exergueref05_Number.l0])
  | succ k1=>
   have H:=HA.out
   clear HA
   simp only [exergueref05_Number.l0] at H
   by_cases c9:aa≥10
   rotate_left
   ·rw [if_neg c9] at H
    have aq:decide (10≤aa)=false:=decide_eq_false c9
    clear c9
    obtain rfl:=Option.some.inj H
    go_wp2
    go_ret
    exact ⟨by first|rfl|(simp <;> rfl)|(simp [*] <;> rfl),bQ HB⟩
   rw [if_pos c9] at H
   have aq:decide (10≤aa)=true:=decide_eq_true c9
   clear c9
   obtain ⟨ac,af⟩:∃ y_:List Int,y_=(([(wrap64 (48+(Int.tmod (wrap64 (Int.tdiv aa 10)) 10))) % 256]:List Int)):=⟨_,rfl⟩
   replace H:(if (strOfNums ac).size+ae.size≤9223372036854775807 then (exergueref05_Number.l0 k1 (wrap64 (Int.tdiv aa 10)) ((strOfNums ac) ++ ae)) else (none))=some r:=by first|(rw [af];with_reducible exact H)|(have H2_:=(Option.bind_some _ _).symm.trans H;rw [af];with_reducible exact H2_)|(have H2_:=(Option.bind_some _ _).symm.trans H;with_reducible exact H2_)|with_reducible exact H|(rw [af];exact H)|exact H
   have ai:=Sd.mk af
   clear af
   by_cases c10:(strOfNums ac).size+ae.size≤9223372036854775807
   ·rw [if_pos c10] at H
    have ar:=eq_true c10
    have au:=decide_eq_true c10
    try have av:(9223372036854775807<(strOfNums ac).size+ae.size)=False:=eq_false (Nat.not_lt.2 c10)
    have H':=Sd.mk H
    clear H
    go_wp2_with (first|((with_reducible refine gate_dst (N:=24) rfl ?_);refine Kd.R_lit (Kd.int .u8) _ 5 ?hg (N:=24) ?hd (xs:=([(wrap64 (48+(Int.tmod (wrap64 (Int.tdiv aa 10)) 10))) % 256]:List Int)) (inner:=[.int .u8 ((wrap64 (48+(Int.tmod (wrap64 (Int.tdiv aa 10)) 10))) % 256)]) (ok:=fun _=>True) (okp:=fun _=>True) ?hr ?hp (fun _ hk=>hk) trivial (Below.refl _ _) (Nat.le_refl _) (by simp) ?_;(case hd=>rfl);(case hg=>rfl);(case hr=>first|(go_simp;done)|(go_simp;rfl));(case hp=>exact (Reps.one (show Kd.M (Kd.int .u8) _ _ _ ((wrap64 (48+(Int.tmod (wrap64 (Int.tdiv aa 10)) 10))) % 256) [.int .u8 ((wrap64 (48+(Int.tmod (wrap64 (Int.tdiv aa 10)) 10))) % 256)] from rfl) (Reps.none _ _)));intro ax w11 ag hb hg_ hnew_;clear hg_ hnew_;(first|rw [← ai.out] at ag|(simp only [Int.reduceToNat] at ag;rw [← ai.out] at ag));have am:=Sd.mk (Kd.R_lower ag (bz HB));replace HB:=bs HB hb;clear hb ag;have hcv13:=own_string (P:=Tryz.prog) Tryz.underlying34 Tryz.underlying5 Tryz.underlying9 (Kd.own_of_R am.out)))
    go_roundg k1
    case measure=>have:=HK1.out;omega
    case rel=>exact ⟨(wrap64 (Int.tdiv aa 10)),((strOfNums ac) ++ ae),(by first|rfl|(simp;done)|(simp [*];done)),(by first|rfl|(simp;done)|(simp [*];done)),H',⟨by have:=HK1.out;omega⟩,⟨bQ HB⟩⟩
   rw [if_neg c10] at H
   exact absurd H (by simp)
end Go.Proofs.YtgfajgkjbckkgaaGreatDoor.PZ
end
end
section
noncomputable section
namespace Go.Proofs.YtgfajgkjbckkgaaGreatDoor.PZ
open Go.RowKit Go.Proofs.YtgfajgkjbckkgaaGreatDoorW.PrintWords Go.Proofs.YtgfajgkjbckkgaaGreatDoorW.PrintLast Go.Proofs.YtgfajgkjbckkgaaGreatDoorW.PrintMore
attribute [local go_sem] max2_int min2_int max_two min_two max_three min_three max_four min_four   -- for this text's walks alone
set_option linter.unusedVariables false
set_option linter.unusedSimpArgs false
def exergueref07_In.l0:Nat→Int→Int→List Int→Int→Int→Option (Bool)
 | 0,_,_,_,_,_=>none
 | k+1,x1,x2,x7,x8,x9=>if x9<(x7.length:Int) then (if 0≤x9 then (exergueref07_In.l0 k x1 x2 x7 (IntKind.u64.wrap ((IntKind.u64.wrap (x8 * 10))+(IntKind.u64.wrap (rd x7 x9)))) (wrap64 (x9+1))) else (none)) else (if x2≥0 then (if x8≤(IntKind.u64.wrap (x2)) then (if x1<0 then (some true) else (some (decide (x8≥(IntKind.u64.wrap (x1)))))) else (some false)) else (some false))
def exergueref07_In.f (k:Nat)(l0:List Int)(a1:Int)(a2:Int):Option (Bool):=(exergueref07_Bare.f k l0).bind fun aa=>(if (aa.length:Int)>19 then (some false) else (exergueref07_In.l0 k a1 a2 aa 0 0))
theorem exergueref07_In.mono_l:∀ k,(∀ y0 y1 y2 y3 y4,LeO (exergueref07_In.l0 k y0 y1 y2 y3 y4) (exergueref07_In.l0 (k+1) y0 y1 y2 y3 y4))
 | 0=>fun _ _ _ _ _ r h=>by simp [exergueref07_In.l0] at h
 | k+1=>by
  have ih0:=exergueref07_In.mono_l k
  ·intro y0 y1 y2 y3 y4
   unfold exergueref07_In.l0
   repeat' first|(with_reducible first|apply ih0|apply exergueref07_Bare.mono|apply LeO.refl|apply LeO.none|refine LeO.ite ?_ ?_|refine LeO.bind ?_ (fun _=>?_))|apply ih0|apply exergueref07_Bare.mono|apply LeO.none
theorem exergueref07_In.mono:∀ a0 a1 a2 k,LeO (exergueref07_In.f k a0 a1 a2) (exergueref07_In.f (k+1) a0 a1 a2):=by
 intro a0 a1 a2 k
 have ih0:=exergueref07_In.mono_l k
 unfold exergueref07_In.f
 repeat' first|(with_reducible first|apply ih0|apply exergueref07_Bare.mono|apply LeO.refl|apply LeO.none|refine LeO.ite ?_ ?_|refine LeO.bind ?_ (fun _=>?_))|apply ih0|apply exergueref07_Bare.mono|apply LeO.none
set_option maxHeartbeats 8000000 in
set_option maxRecDepth 100000 in
theorem exergueref07_In.calls (k:Nat)(A0:Option Addr)(c0:Nat)(l0:List Int)(a1:Int)(a2:Int)(r:Bool)(w:World)(hr0:Kd.C (Kd.int .u8) w A0 l0.length l0)(hc0:l0.length≤c0)(h:exergueref07_In.f k l0 a1 a2=some r) :
  Calls Tryz.prog 88 #[.slice A0 l0.length c0,.int .i64 a1,.int .i64 a2] w fun e w'=>e = .returned (.bool r)∧Below w.heap.size w w':=by
 have HR0:=Sd.mk hr0
 have HC0:=Sd.mk hc0
 clear hr0 hc0
 have HB:=Sd.mk (Below.refl w.heap.size w)
 have H:((exergueref07_Bare.f k l0).bind fun aa=>(if (aa.length:Int)>19 then (some false) else (exergueref07_In.l0 k a1 a2 aa 0 0)))=some r:=h
 clear h
 obtain ⟨aa,A4,H⟩:=bX H
 try dsimp only at H
 by_cases c5:(aa.length:Int)>19
 ·rw [if_pos c5] at H
  have ag:decide (19<(aa.length:Int))=true:=decide_eq_true c5
  have ah:decide (19<aa.length)=true:=decide_eq_true (by omega)
  clear c5
  obtain rfl:=Option.some.inj H
  go_enter Tryz.func88,Tryz.ntmps88
  go_wp2_with (first|((with_reducible refine gate_callee (f:=69) rfl ?_);refine gL (some 11) Tryz.func69 #[.slice A0 l0.length c0] ?_;(with_reducible refine (exergueref07_Bare.calls k (fun k_=>k_<w.heap.size) _ _ l0 aa _ ?side1 A4.out).mono ?_);(case side1=>exact Kd.V_mk HC0.out (Kd.F_below (Kd.C_F (Kd.heap_int .u8) HR0.out) (bQ HB)));rintro e w6 ⟨an,rfl,ho0,hb⟩;refine ⟨_,rfl,?_⟩;have ac:=Sd.mk (Kd.V_lower (Kd.V_mono (ok':=fun k_=>True) ho0 (fun k_ hk_=>trivial)) (bz HB));replace HB:=bs HB hb;(try clear hb);(try clear ho0);obtain ⟨Ao7,co7,eo7⟩:=Kd.V_slice ac.out;subst eo7))
  go_ret
  exact ⟨by first|rfl|(simp <;> rfl)|(simp [*] <;> rfl),bQ HB⟩
 rw [if_neg c5] at H
 have ag:decide (19<(aa.length:Int))=false:=decide_eq_false c5
 have ah:decide (19<aa.length)=false:=decide_eq_false (by omega)
 clear c5
 have H':=Sd.mk H
 clear H
 go_enter Tryz.func88,Tryz.ntmps88
 go_wp2_with (first|((with_reducible refine gate_callee (f:=69) rfl ?_);refine gL (some 11) Tryz.func69 #[.slice A0 l0.length c0] ?_;(with_reducible refine (exergueref07_Bare.calls k (fun k_=>k_<w.heap.size) _ _ l0 aa _ ?side1 A4.out).mono ?_);(case side1=>exact Kd.V_mk HC0.out (Kd.F_below (Kd.C_F (Kd.heap_int .u8) HR0.out) (bQ HB)));rintro e w8 ⟨an,rfl,ho0,hb⟩;refine ⟨_,rfl,?_⟩;have ac:=Sd.mk (Kd.V_lower (Kd.V_mono (ok':=fun k_=>True) ho0 (fun k_ hk_=>trivial)) (bz HB));replace HB:=bs HB hb;(try clear hb);(try clear hb2);(try clear hk);(try clear hi);(try clear ho0);obtain ⟨Ao9,co9,eo9⟩:=Kd.V_slice ac.out;subst eo9))
 go_loopg [8,9] k (fun kq v8 v9 w'=>∃ (ad:Int) (ab:Int),v8 = .int .u64 ad∧v9 = .int .i64 ab∧Sd (exergueref07_In.l0 kq a1 a2 aa ad ab=some r)∧Sd (kq≤k)∧Sd (Kd.V (Kd.int .u8) 5 w' w.heap.size (fun _=>True) (.slice Ao9 aa.length co9) aa)∧Sd (Below w.heap.size w w'))
 case atStart=>exact ⟨(0),(0),(by first|rfl|(simp;done)|(simp [*];done)),(by first|rfl|(simp;done)|(simp [*];done)),H',⟨Nat.le_refl _⟩,⟨vo ac⟩,⟨bQ HB⟩⟩
 case round=>
  clear H'
  try clear p2
  try clear c5
  try clear ag
  try clear ah
  try clear c6
  try clear c8
  obtain ⟨ad,ab,rfl,rfl,HA,HK1,HO_7,HB⟩:=hrel
  cases gk with
  | zero=>exact absurd HA.out (by simp [exergueref07_In.l0])
  | succ k1=>
   have H:=HA.out
   clear HA
   simp only [exergueref07_In.l0] at H
   by_cases c10:ab<(aa.length:Int)
   ·rw [if_pos c10] at H
    have ai:=decide_eq_true c10
    clear c10
    by_cases c11:0≤ab
    rotate_left
    ·rw [if_neg c11] at H
     exact absurd H (by simp)
    rw [if_pos c11] at H
    have ap:=decide_eq_true c11
    clear c11
    have H':=Sd.mk H
    clear H
    have ae:0≤(ab:Int):=of_decide_eq_true (by first|(with_reducible assumption)|assumption)
    have af:ab<(aa.length:Int):=of_decide_eq_true (by first|(with_reducible assumption)|assumption)
    obtain ⟨aq,ao,am⟩:=Kd.at_int (Kd.V_reads' HO_7.out).2.2 ab ae af
    cases ao
    replace ae:=eq_true ae
    replace af:=eq_true af
    go_wp2
    go_roundg k1
    case measure=>have:=HK1.out;omega
    case rel=>exact ⟨(IntKind.u64.wrap ((IntKind.u64.wrap (ad * 10))+(IntKind.u64.wrap (rd aa ab)))),(wrap64 (ab+1)),(by first|rfl|(simp;done)|(simp [*];done)),(by first|rfl|(simp;done)|(simp [*];done)),H',⟨by have:=HK1.out;omega⟩,⟨vo HO_7⟩,⟨bQ HB⟩⟩
   rw [if_neg c10] at H
   have ai:=decide_eq_false c10
   clear c10
   by_cases c12:a2≥0
   rotate_left
   ·rw [if_neg c12] at H
    have aj:decide (0≤a2)=false:=decide_eq_false c12
    clear c12
    obtain rfl:=Option.some.inj H
    go_wp2
    go_ret
    exact ⟨by first|rfl|(simp <;> rfl)|(simp [*] <;> rfl),bQ HB⟩
   rw [if_pos c12] at H
   have aj:decide (0≤a2)=true:=decide_eq_true c12
   clear c12
   by_cases c13:ad≤(IntKind.u64.wrap (a2))
   ·rw [if_pos c13] at H
    have ak:=decide_eq_true c13
    clear c13
    by_cases c14:a1<0
    ·rw [if_pos c14] at H
     have al:=decide_eq_true c14
     clear c14
     obtain rfl:=Option.some.inj H
     go_wp2
     go_ret
     exact ⟨by first|rfl|(simp <;> rfl)|(simp [*] <;> rfl),bQ HB⟩
    rw [if_neg c14] at H
    have al:=decide_eq_false c14
    clear c14
    obtain rfl:=Option.some.inj H
    go_wp2
    go_ret
    exact ⟨by first|rfl|(simp <;> rfl)|(simp [*] <;> rfl),bQ HB⟩
   rw [if_neg c13] at H
   have ak:=decide_eq_false c13
   clear c13
   obtain rfl:=Option.some.inj H
   go_wp2
   go_ret
   exact ⟨by first|rfl|(simp <;> rfl)|(simp [*] <;> rfl),bQ HB⟩
end Go.Proofs.YtgfajgkjbckkgaaGreatDoor.PZ
end
end
section
noncomputable section
namespace Go.Proofs.YtgfajgkjbckkgaaGreatDoor.PZ
open Go.RowKit Go.Proofs.YtgfajgkjbckkgaaGreatDoorW.PrintWords Go.Proofs.YtgfajgkjbckkgaaGreatDoorW.PrintLast Go.Proofs.YtgfajgkjbckkgaaGreatDoorW.PrintMore
attribute [local go_sem] max2_int min2_int max_two min_two max_three min_three max_four min_four   -- for this text's walks alone
set_option linter.unusedVariables false
set_option linter.unusedSimpArgs false
def oper_told_t.f (ai:List Int)(aa:List Int)(ab:Int)(an:Int):Option (List Int):=if 0≤ab then (if ab≤(aa.length:Int) then ((oper_bare.f (aa.take (ab:Int).toNat)).bind fun aj=>(some aj)) else (none)) else (none)
set_option maxHeartbeats 8000000 in
set_option maxRecDepth 100000 in
theorem oper_told_t.calls (ar:Option Addr)(au:Nat)(ai:List Int)(ae:Nat→Prop)(af:Option Addr)(ad:Nat)(aa:List Int)(ab:Int)(an:Int)(r:List Int)(w:World)(ao:Kd.C (Kd.int .u8) w ar ai.length ai)(ap:ai.length≤au)(av:Kd.V (Kd.int .u8) 5 w w.heap.size (fun k_=>ae k_) (.slice af aa.length ad) aa)(h:oper_told_t.f ai aa ab an=some r) :
  Calls Tryz.prog 105 #[.agg #[.slice ar ai.length au,.slice af aa.length ad,.int .i64 ab,.int .i64 an]] w fun e w'=>∃ v0_:Value,e = .returned (v0_)∧Kd.V (Kd.int .u8) 5 w' w.heap.size (fun k_=>(ae k_∨w.heap.size≤k_)) v0_ r∧Below w.heap.size w w':=by
 have hu136:=Tryz.underlying136
 have ax:=Sd.mk ao
 have ay:=Sd.mk ap
 clear ao ap
 have ac:=Sd.mk (show Kd.V (Kd.int .u8) 5 w w.heap.size (fun k_=>(ae k_∨w.heap.size≤k_)) (.slice af aa.length ad) aa from Kd.V_mono av (fun k_ hk=>.inl hk))
 have HB:=Sd.mk (Below.refl w.heap.size w)
 have H:(if 0≤ab then (if ab≤(aa.length:Int) then ((oper_bare.f (aa.take (ab:Int).toNat)).bind fun aj=>(some aj)) else (none)) else (none))=some r:=h
 clear h
 by_cases c2:0≤ab
 rotate_left
 ·rw [if_neg c2] at H
  exact absurd H (by simp)
 rw [if_pos c2] at H
 have aB:=eq_true c2
 have aC:=decide_eq_true c2
 clear c2
 by_cases c3:ab≤(aa.length:Int)
 rotate_left
 ·rw [if_neg c3] at H
  exact absurd H (by simp)
 rw [if_pos c3] at H
 have aD:=eq_true c3
 have aE:=decide_eq_true c3
 clear c3
 obtain ⟨ak,ag⟩:∃ y_:List Int,y_=(aa.take (ab:Int).toNat):=⟨_,rfl⟩
 replace H:((oper_bare.f ak).bind fun aj=>(some aj))=some r:=by first|(rw [ag];with_reducible exact H)|(have H2_:=(Option.bind_some _ _).symm.trans H;rw [ag];with_reducible exact H2_)|(have H2_:=(Option.bind_some _ _).symm.trans H;with_reducible exact H2_)|with_reducible exact H|(rw [ag];exact H)|exact H
 have aq:=Sd.mk ag
 clear ag
 obtain ⟨aj,A4,H⟩:=bX H
 try dsimp only at H
 obtain rfl:=Option.some.inj H
 go_enter Tryz.func105,Tryz.ntmps105
 go_wp2_with (first|((with_reducible refine gate_dst (N:=1) rfl ?_);refine box_event ?hg (N:=1) ?hd (cs:=#[.slice ar ai.length au,.slice af aa.length ad,.int .i64 ab,.int .i64 an]) (t:=136) ?hr ?_;(case hd=>rfl);(case hg=>rfl);(case hr=>first|(go_simp;done)|(go_simp;rfl));intro al hg w5 hbox hb;replace ac:=Sd.mk (Kd.V_below (Kd.V_elderB (vo ac) al (Nat.le_of_eq hg.symm)) hb);have ah:=Sd.mk (hbox);have az:=bg HB hg;replace HB:=bs HB hb;clear hb hbox hg;have aF:=blkc4 ah.out;have aG:=blkf4 ah.out;have q7:(ab:Int)≤((aa.length:Int):Int):=of_decide_eq_true (by first|(with_reducible assumption)|assumption);obtain ⟨i07,hi07,_,hsz7,_⟩:=info_parts info5;have hroom7:aa.length≤ad:=(Kd.V_reads' ac.out).2.1;have hC7:Kd.F (Kd.int .u8) _ _ af aa.length aa:=(Kd.V_at (base:=w.heap.size) ac.out).2.2;have hcut7:=cut_to (P:=Tryz.prog) 34 5 .i64 Tryz.underlying34 hi07 af aa.length ad ab (of_decide_eq_true (by first|(with_reducible assumption)|assumption)) q7 hroom7;have hr7:=Kd.F_take (m:=(ab:Int).toNat) hC7 (by omega);have hy7:ak.length=(ab:Int).toNat:=(by rw [aq.out,List.length_take];omega);rw [← aq.out] at hr7;rw [← hy7] at hcut7;have am:=Sd.mk (show Kd.V (Kd.int .u8) 5 _ w.heap.size _ (.slice af ak.length ad) ak from Kd.V_mk (by omega) hr7);have aA:=Sd.mk (show ak.length≤ad from by omega);clear hr7 hC7 hroom7 hi07 hsz7;have KY7:=Sd.mk hy7;clear hy7;replace q7:=eq_true q7)|((with_reducible refine gate_callee (f:=107) rfl ?_);refine gL (some 8) Tryz.func107 #[.slice af ak.length ad] ?_;(with_reducible refine (oper_bare.calls (fun k_=>((ae k_∨w.heap.size≤k_)∧k_≠al)) _ _ ak aj _ ?side1 A4.out).mono ?_);(case side1=>exact am.out);rintro e w8 ⟨aH,rfl,ho0,hb⟩;refine ⟨_,rfl,?_⟩;replace ac:=vb ac hb;replace am:=vb am hb;have aw:=Sd.mk (Kd.V_lower (Kd.V_mono (ok':=fun k_=>(ae k_∨w.heap.size≤k_)∧k_≠al) ho0 (fun k_ hk_=>⟨Or.elim hk_ (fun hs_=>hs_.1) (fun hn_=>(.inr (Nat.le_trans (bz HB) hn_))),Or.elim hk_ (fun hs_=>hs_.2) (fun hn_=>(Kd.freshB (ko ah) k_ hn_))⟩)) (bz HB));replace ah:=kb ah hb;replace HB:=bs HB hb;(try clear hb);(try clear ho0)))
 go_ret
 exact ⟨_,by first|rfl|(simp <;> rfl)|(simp [*] <;> rfl),by (with_reducible repeat (first|apply Kd.V_alloc|apply Kd.V_drewN|apply Kd.V_drew));exact Kd.V_mono aw.out (fun _ hk=>hk.1),bQ HB⟩
end Go.Proofs.YtgfajgkjbckkgaaGreatDoor.PZ
end
end
section
noncomputable section
namespace Go.Proofs.YtgfajgkjbckkgaaGreatDoor.PZ
open Go.RowKit Go.Proofs.YtgfajgkjbckkgaaGreatDoorW.PrintWords Go.Proofs.YtgfajgkjbckkgaaGreatDoorW.PrintLast Go.Proofs.YtgfajgkjbckkgaaGreatDoorW.PrintMore
attribute [local go_sem] max2_int min2_int max_two min_two max_three min_three max_four min_four   -- for this text's walks alone
set_option linter.unusedVariables false
set_option linter.unusedSimpArgs false
def oper_told_f.f (ae:List Int)(aa:List Int)(aj:Int)(ak:Int):Option (List Int):=(oper_bare.f aa).bind fun af=>(some af)
set_option maxHeartbeats 8000000 in
set_option maxRecDepth 100000 in
theorem oper_told_f.calls (an:Option Addr)(ao:Nat)(ae:List Int)(ab:Nat→Prop)(ag:Option Addr)(ah:Nat)(aa:List Int)(aj:Int)(ak:Int)(r:List Int)(w:World)(al:Kd.C (Kd.int .u8) w an ae.length ae)(am:ae.length≤ao)(ap:Kd.V (Kd.int .u8) 5 w w.heap.size (fun k_=>ab k_) (.slice ag aa.length ah) aa)(h:oper_told_f.f ae aa aj ak=some r) :
  Calls Tryz.prog 104 #[.agg #[.slice an ae.length ao,.slice ag aa.length ah,.int .i64 aj,.int .i64 ak]] w fun e w'=>∃ v0_:Value,e = .returned (v0_)∧Kd.V (Kd.int .u8) 5 w' w.heap.size (fun k_=>(ab k_∨w.heap.size≤k_)) v0_ r∧Below w.heap.size w w':=by
 have hu136:=Tryz.underlying136
 have ar:=Sd.mk al
 have au:=Sd.mk am
 clear al am
 have ac:=Sd.mk (show Kd.V (Kd.int .u8) 5 w w.heap.size (fun k_=>(ab k_∨w.heap.size≤k_)) (.slice ag aa.length ah) aa from Kd.V_mono ap (fun k_ hk=>.inl hk))
 have HB:=Sd.mk (Below.refl w.heap.size w)
 have H:((oper_bare.f aa).bind fun af=>(some af))=some r:=h
 clear h
 obtain ⟨af,A2,H⟩:=bX H
 try dsimp only at H
 obtain rfl:=Option.some.inj H
 go_enter Tryz.func104,Tryz.ntmps104
 go_wp2_with (first|((with_reducible refine gate_dst (N:=1) rfl ?_);refine box_event ?hg (N:=1) ?hd (cs:=#[.slice an ae.length ao,.slice ag aa.length ah,.int .i64 aj,.int .i64 ak]) (t:=136) ?hr ?_;(case hd=>rfl);(case hg=>rfl);(case hr=>first|(go_simp;done)|(go_simp;rfl));intro ai hg w3 hbox hb;replace ac:=Sd.mk (Kd.V_below (Kd.V_elderB (vo ac) ai (Nat.le_of_eq hg.symm)) hb);have ad:=Sd.mk (hbox);have av:=bg HB hg;replace HB:=bs HB hb;clear hb hbox hg;have aw:=blkc4 ad.out;have ax:=blkf4 ad.out)|((with_reducible refine gate_callee (f:=107) rfl ?_);refine gL (some 5) Tryz.func107 #[.slice ag aa.length ah] ?_;(with_reducible refine (oper_bare.calls (fun k_=>((ab k_∨w.heap.size≤k_)∧k_≠ai)) _ _ aa af _ ?side1 A2.out).mono ?_);(case side1=>exact ac.out);rintro e w5 ⟨ay,rfl,ho0,hb⟩;refine ⟨_,rfl,?_⟩;replace ac:=vb ac hb;have aq:=Sd.mk (Kd.V_lower (Kd.V_mono (ok':=fun k_=>(ab k_∨w.heap.size≤k_)∧k_≠ai) ho0 (fun k_ hk_=>⟨Or.elim hk_ (fun hs_=>hs_.1) (fun hn_=>(.inr (Nat.le_trans (bz HB) hn_))),Or.elim hk_ (fun hs_=>hs_.2) (fun hn_=>(Kd.freshB (ko ad) k_ hn_))⟩)) (bz HB));replace ad:=kb ad hb;replace HB:=bs HB hb;(try clear hb);(try clear ho0)))
 go_ret
 exact ⟨_,by first|rfl|(simp <;> rfl)|(simp [*] <;> rfl),by (with_reducible repeat (first|apply Kd.V_alloc|apply Kd.V_drewN|apply Kd.V_drew));exact Kd.V_mono aq.out (fun _ hk=>hk.1),bQ HB⟩
end Go.Proofs.YtgfajgkjbckkgaaGreatDoor.PZ
end
end
section
noncomputable section
namespace Go.Proofs.YtgfajgkjbckkgaaGreatDoor.PZ
open Go.RowKit Go.Proofs.YtgfajgkjbckkgaaGreatDoorW.PrintWords Go.Proofs.YtgfajgkjbckkgaaGreatDoorW.PrintLast Go.Proofs.YtgfajgkjbckkgaaGreatDoorW.PrintMore
attribute [local go_sem] max2_int min2_int max_two min_two max_three min_three max_four min_four   -- for this text's walks alone
set_option linter.unusedVariables false
set_option linter.unusedSimpArgs false
def oper_compared.f (l0:List Int)(l1:List Int):Option (Int):=if (l0.length:Int)=(l1.length:Int) then ((bytes_Compare.f l0 l1).bind fun aa=>(some aa)) else (some (wrap64 ((l0.length:Int) - (l1.length:Int))))
set_option maxHeartbeats 8000000 in
set_option maxRecDepth 100000 in
theorem oper_compared.calls (A0:Option Addr)(c0:Nat)(l0:List Int)(A1:Option Addr)(c1:Nat)(l1:List Int)(r:Int)(w:World)(hr0:Kd.C (Kd.int .u8) w A0 l0.length l0)(hc0:l0.length≤c0)(hr1:Kd.C (Kd.int .u8) w A1 l1.length l1)(hc1:l1.length≤c1)(h:oper_compared.f l0 l1=some r) :
  Calls Tryz.prog 108 #[.slice A0 l0.length c0,.slice A1 l1.length c1] w fun e w'=>e = .returned (.int .i64 r)∧Drawn0 w w':=by
 have HR0:=Sd.mk hr0
 have HC0:=Sd.mk hc0
 clear hr0 hc0
 have HR1:=Sd.mk hr1
 have HC1:=Sd.mk hc1
 clear hr1 hc1
 have H:(if (l0.length:Int)=(l1.length:Int) then ((bytes_Compare.f l0 l1).bind fun aa=>(some aa)) else (some (wrap64 ((l0.length:Int) - (l1.length:Int)))))=some r:=h
 clear h
 by_cases c3:(l0.length:Int)=(l1.length:Int)
 ·rw [if_pos c3] at H
  have ab:((l0.length:Int) == (l1.length:Int))=true:=beq_iff_eq.mpr c3
  have ac:((l0.length:Int) != (l1.length:Int))=false:=bne_eq_false_iff_eq.mpr c3
  have ad:(l0.length == l1.length)=true:=by first|simpa using c3|(simp at c3 ⊢;omega)
  clear c3
  obtain ⟨aa,A4,H⟩:=bX H
  try dsimp only at H
  obtain rfl:=Option.some.inj H
  go_enter Tryz.func108,Tryz.ntmps108
  go_wp2_with (first|((with_reducible refine gate_callee (f:=119) rfl ?_);refine gL (some 17) Tryz.func119 #[.slice A0 l0.length c0,.slice A1 l1.length c1] ?_;(with_reducible refine (bytes_Compare.calls _ _ l0 _ _ l1 aa _ ?side1 HC0.out ?side3 HC1.out A4.out).mono ?_);(case side1=>repeat (first|exact HR0.out|(with_reducible refine Kd.C_alloc ?_ _)|(with_reducible refine Kd.C_drewN ?_ _)|(with_reducible refine Kd.C_drew ?_)));(case side3=>repeat (first|exact HR1.out|(with_reducible refine Kd.C_alloc ?_ _)|(with_reducible refine Kd.C_drewN ?_ _)|(with_reducible refine Kd.C_drew ?_)));rintro e w' ⟨rfl,⟨nd,rfl⟩⟩;refine ⟨_,rfl,?_⟩))
  go_ret
  exact ⟨by first|rfl|(simp;done)|(simp [*];done),by repeat (first|exact Drawn0.refl _|apply Drawn0.step)⟩
 rw [if_neg c3] at H
 have ab:((l0.length:Int) == (l1.length:Int))=false:=beq_eq_false_iff_ne.mpr c3
 have ac:((l0.length:Int) != (l1.length:Int))=true:=bne_iff_ne.mpr c3
 have ad:(l0.length == l1.length)=false:=by first|simpa using c3|(simp at c3 ⊢;omega)
 obtain rfl:=Option.some.inj H
 go_enter Tryz.func108,Tryz.ntmps108
 go_wp2
 go_ret
 exact ⟨by first|rfl|(simp;done)|(simp [*];done),by repeat (first|exact Drawn0.refl _|apply Drawn0.step)⟩
end Go.Proofs.YtgfajgkjbckkgaaGreatDoor.PZ
end
end
section
set_option maxRecDepth 100000
set_option linter.unusedVariables false
namespace Go.Proofs.YtgfajgkjbckkgaaGreatDoor.PZ
open Go.RowKit Go.Proofs.YtgfajgkjbckkgaaGreatDoorW.PrintWords
def OkG (g:Rg):Prop:=(Lit.int .i64 g.f0).wf=true∧(Lit.int .i64 g.f1).wf=true
def OkL {α:Type}(bytes:Nat)(Q:α→Prop)(l:List α):Prop:=l.length * bytes≤140737488351232∧∀ x ∈ l,Q x
def OkX (x:Rl):Prop:=(Lit.int .u8 x.f0).wf=true∧(Lit.int .i64 x.f1).wf=true∧OkL 16 OkG x.f3
def OkC (c:List (List Rl)):Prop:=OkL 24 (OkL 48 OkX) c
end Go.Proofs.YtgfajgkjbckkgaaGreatDoor.PZ
end
