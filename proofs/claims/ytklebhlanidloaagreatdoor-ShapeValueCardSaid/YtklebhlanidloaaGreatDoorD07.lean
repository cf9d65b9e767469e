/- Texts of this seat, joined. Conditions: none beyond each statement's own. -/
import Derived.Test.YtklebhlanidloaaGreatDoorD05
import Derived.Test.YtklebhlanidloaaGreatDoorD06
set_option linter.all false
section
set_option maxRecDepth 100000
set_option linter.unusedVariables false
namespace Go.Proofs.YtklebhlanidloaaGreatDoor.PZ
open Go.RowKit Go.Proofs.YtklebhlanidloaaGreatDoorW.PrintWords Go.Proofs.YtklebhlanidloaaGreatDoorW.PrintLast Go.Proofs.YtklebhlanidloaaGreatDoorW.PrintMore
section
def bZ (n m:Nat):Array Bool:=((List.range n).map m.testBit).toArray
section
variable {P:Program}{ops:Array Oper}{Q:Exit→Act→World→Prop}{md:Region.Mode}{S:World→Prop}{ds:List Nat}{T:Bool×List (List Nat×List Nat)}{B:List Nat}{oi:Oper}{fuel n0 m0:Nat}{a:Act}{w:World}
theorem p1 (i n m:Nat)(hT:Aside0 (rtab md ops=T)){v:Value}(hy:∀ w,(execOp a.eval oi).run P w = .ok (.value v) w){a':Act}(ha:a.put (some n) v=a')(h:wpAnyLast P md ops Q S ds fuel (bZ n0 m) a' w)
    (hi:ops[i]?=some oi:=by rfl) (hN:oi.dst=some n:=by rfl) (hk:anyT T (bZ n0 m0).toList (bZ n0 m).toList i=true:=by kernel_rfl) (hQ:∀ c a w,Q (.panic c) (a.put oi.dst v) w→Q (.panic c) a w:=by exact fun _ _ _ h=>h) (hw:Region.wanted oi (yielded ops a.tmps)=true:=by rfl) :
    wpAnyLast P md ops Q S ds (fuel+1) (bZ n0 m0) a w:=pu i n (bZ n0 m) hi hN hT hk hQ hw hy ha h
theorem p2 (i n m:Nat)(hT:Aside0 (rtab md ops=T))(hB:Aside0 (waitsOk T.2 B=true)){v:Value}(hy:∀ w,S w→(execOp a.eval oi).run P w = .ok (.value v) w)(hS:S w){a':Act}(ha:a.put (some n) v=a')(h:wpAnyLast P md ops Q S ds fuel (bZ n0 m) a' w)
    (hi:ops[i]?=some oi:=by rfl) (hN:oi.dst=some n:=by rfl) (hk:takeW T B ds (bZ n0 m0).toList (bZ n0 m).toList i=true:=by kernel_rfl) (hQ:∀ c a w,Q (.panic c) (a.put oi.dst v) w→Q (.panic c) a w:=by exact fun _ _ _ h=>h) (hw:Region.wanted oi (yielded ops a.tmps)=true:=by rfl) :
    wpAnyLast P md ops Q S ds (fuel+1) (bZ n0 m0) a w:=ta i n (bZ n0 m) hi hN hT hB hk hQ hw hy hS ha h
theorem gL {rest:List Oper}(N:Option Tmp){f:FuncId}{fn:Func}{xs:Array Operand}{ts:Array TypeId}(hf:P.funcs[f]?=some fn)(args:Array Value)(h:Calls P f args w fun e w'=>∃ v,e = .returned v∧wpList P ops Q rest (a.put N v) w')
    (hd : oi.dst = N := by rfl) (hg : oi.guard = none := by rfl) (hname : (fn.name == "runtime.NumGoroutine") = false := by kernel_rfl) (hb : fn.body.isSome = true := by rfl) (hop : oi.op = .call { callee := .value (.func f), args := xs, argTypes := ts } := by rfl)
    (hargs:xs.map a.eval=args:=by (try simp only [mA,mB,mC]);first|done|rfl|(simp only [lD,lT];rfl)):wpList P ops Q (oi :: rest) a w:=goesL_ N hd hg hf hname hb args hop hargs h
theorem bX {α β:Type}{o:Option α}{f:α→Option β}{r:β}(h:o.bind f=some r):∃ a,Sd (o=some a)∧f a=some r:=by
 obtain ⟨a,h1,h2⟩:=Option.bind_eq_some_iff.mp h
 exact ⟨a,⟨h1⟩,h2⟩
end
end
end Go.Proofs.YtklebhlanidloaaGreatDoor.PZ
end
section
noncomputable section
namespace Go.Proofs.YtklebhlanidloaaGreatDoor.PZ
open Go.RowKit Go.Proofs.YtklebhlanidloaaGreatDoorW.PrintWords Go.Proofs.YtklebhlanidloaaGreatDoorW.PrintLast Go.Proofs.YtklebhlanidloaaGreatDoorW.PrintMore
attribute [local go_sem] max2_int min2_int max_two min_two max_three min_three max_four min_four   -- for this text's walks alone
def round_found_odd.f (aa:List Int)(ad:Int)(ae:Bool):Option (Bool):=if (aa.length:Int)>0 then (if 0≤(wrap64 ((aa.length:Int) - 1)) then (if (wrap64 ((aa.length:Int) - 1))<(aa.length:Int) then (some ((Int.tmod (rd aa (wrap64 ((aa.length:Int) - 1))) 2) == 1)) else (none)) else (none)) else (some false)
set_option maxHeartbeats 8000000 in
set_option maxRecDepth 100000 in
theorem round_found_odd.calls (af:Option Addr)(ag:Nat)(aa:List Int)(ad:Int)(ae:Bool)(r:Bool)(w:World)(ai:Kd.C (Kd.int .u8) w af aa.length aa)(aj:aa.length≤ag)(h:round_found_odd.f aa ad ae=some r) :
  Calls Tryz.prog 123 #[.agg #[.slice af aa.length ag,.int .i64 ad,.bool ae]] w fun e w'=>e = .returned (.bool r)∧Below w.heap.size w w':=by
 have hu126:=Tryz.underlying126
 have am:=zS ai
 have au:=zS aj
 clear ai aj
 have HB:=zS (Below.refl w.heap.size w)
 have H:(if (aa.length:Int)>0 then (if 0≤(wrap64 ((aa.length:Int) - 1)) then (if (wrap64 ((aa.length:Int) - 1))<(aa.length:Int) then (some ((Int.tmod (rd aa (wrap64 ((aa.length:Int) - 1))) 2) == 1)) else (none)) else (none)) else (some false))=some r:=h
 clear h
 by_cases c2:(aa.length:Int)>0
 rotate_left
 ·rw [if_neg c2] at H
  have ap:decide (0<(aa.length:Int))=false:=zD c2
  have aq:decide (0<aa.length)=false:=zD (by omega)
  clear c2
  obtain rfl:=zE H
  go_enter Tryz.func123,Tryz.ntmps123
  go_wp2_with (first|((with_reducible refine gate_dst (N:=1) rfl ?_);(try (refine gate_guard (by rfl) ?_;dsimp only));refine box_event ?hg (N:=1) ?hd (cs:=#[.slice af aa.length ag,.int .i64 ad,.bool ae]) (t:=126) ?hr ?_;(case hd=>rfl);(case hg=>rfl);(case hr=>first|(go_simp;done)|(go_simp;rfl));intro an hg w8 hbox hb;have ac:=zS (hbox);have ao:=bg HB hg;replace HB:=bs HB hb;clear hb hbox hg;have ax:=blkc3 ac.out;have ay:=blkf3 ac.out))
  go_ret
  exact ⟨by first|rfl|(simp <;> rfl)|(simp [*] <;> rfl),bl HB⟩
 rw [if_pos c2] at H
 have ap:decide (0<(aa.length:Int))=true:=zC c2
 have aq:decide (0<aa.length)=true:=zC (by omega)
 clear c2
 obtain ⟨ji3,ah⟩:∃ j_:Int,(wrap64 ((aa.length:Int) - 1))=j_:=⟨_,rfl⟩
 replace H:(if 0≤(ji3) then (if (ji3)<(aa.length:Int) then (some ((Int.tmod (rd aa (ji3)) 2) == 1)) else (none)) else (none))=some r:=by first|(rw [ah] at H;exact H)|(simp only [ah] at H ⊢;exact H)
 have av:(IntKind.i64.wrap ((aa.length:Int) - 1))=ji3:=(i64_w _).trans ah
 by_cases c4:0≤(ji3)
 ·rw [if_pos c4] at H
  have az:=zC c4
  clear c4
  by_cases c5:(ji3)<(aa.length:Int)
  ·rw [if_pos c5] at H
   have aA:=zC c5
   clear c5
   obtain rfl:=zE H
   go_enter Tryz.func123,Tryz.ntmps123
   go_wp2_with (first|((with_reducible refine gate_dst (N:=1) rfl ?_);(try (refine gate_guard (by rfl) ?_;dsimp only));refine box_event ?hg (N:=1) ?hd (cs:=#[.slice af aa.length ag,.int .i64 ad,.bool ae]) (t:=126) ?hr ?_;(case hd=>rfl);(case hg=>rfl);(case hr=>first|(go_simp;done)|(go_simp;rfl));intro an hg w6 hbox hb;have ac:=zS (hbox);have ao:=bg HB hg;replace HB:=bs HB hb;clear hb hbox hg;have aB:=blkc3 ac.out;have aC:=blkf3 ac.out;have ak:0≤((ji3):Int):=zB (by first|(with_reducible assumption)|assumption);have al:(ji3)<(aa.length:Int):=zB (by first|(with_reducible assumption)|assumption);obtain ⟨aw,ar,ab⟩:=Kd.at_int am.out (ji3) ak al;cases ar;replace ab:=(HB.out.cell (World.block_lt_of_cell? w _ ab)).trans ab;replace ak:=eq_true ak;replace al:=eq_true al))
   go_ret
   exact ⟨by first|rfl|(simp <;> rfl)|(simp only [← ah];first|rfl|(simp <;> rfl))|(simp [*] <;> rfl),bl HB⟩
  rw [if_neg c5] at H
  exact absurd H (by simp)
 rw [if_neg c4] at H
 exact absurd H (by simp)
end Go.Proofs.YtklebhlanidloaaGreatDoor.PZ
end
end
section
set_option maxRecDepth 100000
namespace Go.Proofs.YtklebhlanidloaaGreatDoor.PZ
open Go.RowKit Go.Proofs.YtklebhlanidloaaGreatDoorW.PrintWords Go.Proofs.YtklebhlanidloaaGreatDoorW.PrintLast
def lessB (c:Int):Int:=(c - 48) % 256
def numText (n:Int):ByteArray:=⟨(Lib.itoa n).toArray⟩
theorem numText_size (n:Int)(h0 : -9223372036854775808≤n)(h1:n≤9223372036854775807):(numText n).size≤21:=by
 have:=Lib.itoa_length_le n h0 h1
 show (Lib.itoa n).toArray.size≤21
 simpa using this
def MixSt (g:Nat)(L:List Int)(k:Nat)(W:World):Prop:=g<W.heap.size∧∀ j,j<L.length→W.cell? ⟨g,j,none⟩=some (.int .u8 (if j<k then lessB (rd L j) else rd L j))∧W.frozen? ⟨g,j,none⟩=false
theorem MixSt.put {g:Nat}{L:List Int}{k:Nat}{W:World}(h:MixSt g L k W)(hk:k<L.length):MixSt g L (k+1) (W.setCell ⟨g,k,none⟩ (.int .u8 (lessB (rd L k)))):=by
 refine ⟨by simpa using h.1,fun j hj=>?_⟩
 obtain ⟨h1,h2⟩:=h.2 j hj
 by_cases e:j=k
 ·subst e
  rw [if_pos (by omega)]
  exact ⟨World.cell?_setCell_same _ _ _ h1,by rw [World.frozen?_setCell];exact h2⟩
 rw [World.cell?_setCell_other _ _ _ _ (by intro z;injection z with _ z2;omega),h1,World.frozen?_setCell]
 refine ⟨?_,h2⟩
 by_cases hj2:j<k
 · rw [if_pos hj2,if_pos (by omega)]
 rw [if_neg hj2,if_neg (by omega)]
theorem MixSt.done {g:Nat}{L:List Int}{W:World}(h:MixSt g L L.length W)(base:Nat)(hb:base≤g)(c:Nat)(hc:L.length≤c)(hl:L.length≤100):Kd.V (Kd.int .u8) 5 W base (fun k_=>base≤k_) (.slice (some ⟨g,0,none⟩) L.length c) (L.map lessB):=by
 have hF:Kd.F (Kd.int .u8) W (fun k_=>base≤k_) (some ⟨g,0,none⟩) (L.map lessB).length (L.map lessB):=by
  intro W' hW
  have hg:=hW g hb h.1
  refine Kd.C_of_reads (d:=(0:Int)) (h1:=fun _=>rfl) ⟨rfl,by rw [List.length_map];omega,fun _=>⟨_,rfl,fun j hj=>?_⟩⟩
  rw [List.length_map] at hj
  rw [add_plain,World.cell?_of_block (w:=W) hg,(h.2 j hj).1,if_pos hj]
  simp [rd,List.getD_eq_getElem?_getD,List.getElem?_eq_getElem hj]
 have:=Kd.V_mk (e:=5) (base:=base) (by rw [List.length_map];exact hc) hF
 rwa [List.length_map] at this
theorem bytes_frozen (W:World)(s:ByteArray)(j:Nat)(hj:j<s.size):(Lib.bytesWorld W 5 s).frozen? ⟨W.heap.size,j,none⟩=false:=by
 have h1:=Lib.bytesWorld_at_new W 5 s
 have h2:=Lib.bytesWorld_cell W 5 s j hj
 have h3:j<(Lib.bytesCells W 5 s).size:=by
  have h4:(Lib.bytesWorld W 5 s).cell? ⟨W.heap.size,j,none⟩=(Lib.bytesCells W 5 s)[j]?:=cell_of_row _ _ _ _ _ _ h1
  rw [h4] at h2
  exact (Array.getElem?_eq_some_iff.1 h2).1
 unfold World.frozen?
 simp only [h1]
 simp
 omega
theorem MixSt.start (W:World)(s:ByteArray):MixSt W.heap.size (bytesOf s) 0 (Lib.bytesWorld W 5 s):=by
 refine ⟨by rw [Lib.bytesWorld_size];omega,fun j hj=>?_⟩
 rw [bytesOf_length] at hj
 rw [if_neg (by omega),Lib.bytesWorld_cell W 5 s j hj,rd_bytesOf]
 refine ⟨?_,bytes_frozen W s j hj⟩
 simp [bt,hj,List.getD_eq_getElem?_getD]
 rfl
end Go.Proofs.YtklebhlanidloaaGreatDoor.PZ
end
section
noncomputable section
namespace Go.Proofs.YtklebhlanidloaaGreatDoor.PZ
open Go.RowKit Go.Proofs.YtklebhlanidloaaGreatDoorW.PrintWords Go.Proofs.YtklebhlanidloaaGreatDoorW.PrintLast Go.Proofs.YtklebhlanidloaaGreatDoorW.PrintMore
attribute [local go_sem] max2_int min2_int max_two min_two max_three min_three max_four min_four   -- for this text's walks alone
def round_bare.l0:Nat→List Int→Option (List Int)
 | 0,_=>none
 | k+1,x0=>if (x0.length:Int)>0 then (if 0<(x0.length:Int) then (if (rd x0 0)=0 then (if 1≤(x0.length:Int) then (round_bare.l0 k (x0.drop 1)) else (none)) else (some x0)) else (none)) else (some x0)
def round_bare.f (k:Nat)(l0:List Int):Option (List Int):=round_bare.l0 k l0
theorem round_bare.mono_l:∀ k,(∀ y0,LeO (round_bare.l0 k y0) (round_bare.l0 (k+1) y0))
 | 0=>fun _ r h=>by simp [round_bare.l0] at h
 | k+1=>by
  have ih0:=round_bare.mono_l k
  ·intro y0
   unfold round_bare.l0
   repeat' first|(with_reducible first|apply ih0|apply LeO.refl|apply LeO.none|refine LeO.ite ?_ ?_|refine LeO.bind ?_ (fun _=>?_))|apply ih0|apply LeO.none
theorem round_bare.mono:∀ a0 k,LeO (round_bare.f k a0) (round_bare.f (k+1) a0):=by
 intro a0 k
 have ih0:=round_bare.mono_l k
 unfold round_bare.f
 repeat' first|(with_reducible first|apply ih0|apply LeO.refl|apply LeO.none|refine LeO.ite ?_ ?_|refine LeO.bind ?_ (fun _=>?_))|apply ih0|apply LeO.none
set_option maxHeartbeats 8000000 in
set_option maxRecDepth 100000 in
theorem round_bare.calls (k:Nat)(P0_:Nat→Prop)(A0:Option Addr)(c0:Nat)(l0:List Int)(r:List Int)(w:World)(hs0:Kd.V (Kd.int .u8) 5 w w.heap.size (fun k_=>P0_ k_) (.slice A0 l0.length c0) l0)(h:round_bare.f k l0=some r) :
  Calls Tryz.prog 120 #[.slice A0 l0.length c0] w fun e w'=>∃ v0_:Value,e = .returned (v0_)∧Kd.V (Kd.int .u8) 5 w' w.heap.size (fun k_=>(P0_ k_∨w.heap.size≤k_)) v0_ r∧Below w.heap.size w w':=by
 have HO0:=zS (show Kd.V (Kd.int .u8) 5 w w.heap.size (fun k_=>(P0_ k_∨w.heap.size≤k_)) (.slice A0 l0.length c0) l0 from Kd.V_mono hs0 (fun k_ hk=>.inl hk))
 have HB:=zS (Below.refl w.heap.size w)
 have H:(round_bare.l0 k l0)=some r:=h
 clear h
 have H':=zS H
 clear H
 go_enter Tryz.func120,Tryz.ntmps120
 go_wp2
 go_loopg [0] k (fun kq v0 w'=>∃ (aa:List Int),Sd (round_bare.l0 kq aa=some r)∧Sd (kq≤k)∧Sd (Kd.V (Kd.int .u8) 5 w' w.heap.size (fun k_=>(P0_ k_∨w.heap.size≤k_)) v0 aa)∧Sd (Below w.heap.size w w'))
 case atStart=>exact ⟨(l0),H',⟨Nat.le_refl _⟩,⟨vo HO0⟩,⟨bl HB⟩⟩
 case round=>
  clear H'
  try clear c1
  obtain ⟨aa,HA,HK1,HO_0,HB⟩:=hrel
  cases gk with
  | zero=>exact absurd HA.out (by simp [round_bare.l0])
  | succ k1=>
   have H:=HA.out
   clear HA
   simp only [round_bare.l0] at H
   by_cases c2:(aa.length:Int)>0
   rotate_left
   ·rw [if_neg c2] at H
    have ak:decide (0<(aa.length:Int))=false:=zD c2
    have al:decide (0<aa.length)=false:=zD (by omega)
    clear c2
    obtain rfl:=zE H
    obtain ⟨Ao9,co9,eo9⟩:=Kd.V_slice HO_0.out
    subst eo9
    go_wp2
    go_ret
    exact ⟨_,by first|rfl|(simp <;> rfl)|(simp [*] <;> rfl),by (with_reducible repeat (first|apply Kd.V_alloc|apply Kd.V_drewN|apply Kd.V_drew));exact HO_0.out,bl HB⟩
   rw [if_pos c2] at H
   have ak:decide (0<(aa.length:Int))=true:=zC c2
   have al:decide (0<aa.length)=true:=zC (by omega)
   clear c2
   by_cases c3:0<(aa.length:Int)
   rotate_left
   ·rw [if_neg c3] at H
    exact absurd H (by simp)
   rw [if_pos c3] at H
   have ap:=zC c3
   have aq:decide (0<aa.length)=true:=zC (by omega)
   clear c3
   by_cases c4:(rd aa 0)=0
   rotate_left
   ·rw [if_neg c4] at H
    have am:((rd aa 0) == 0)=false:=zF c4
    have an:((rd aa 0) != 0)=true:=zI c4
    obtain rfl:=zE H
    obtain ⟨Ao8,co8,eo8⟩:=Kd.V_slice HO_0.out
    subst eo8
    have af:0≤(0:Int):=(by omega)
    have ag:0<(aa.length:Int):=zB (by first|(with_reducible assumption)|assumption)
    obtain ⟨ad,ai,ab⟩:=Kd.at_int (Kd.V_reads' HO_0.out).2.2 0 af ag
    cases ai
    have qi130:(0<aa.length)=True:=eq_true (by omega)
    (try rw [show ((0:Int)).toNat=0 from rfl] at ab)
    (try rw [Addr.add_zero'] at ab)
    replace af:=eq_true af
    replace ag:=eq_true ag
    go_wp2
    go_ret
    exact ⟨_,by first|rfl|(simp <;> rfl)|(simp [*] <;> rfl),by (with_reducible repeat (first|apply Kd.V_alloc|apply Kd.V_drewN|apply Kd.V_drew));exact HO_0.out,bl HB⟩
   rw [if_pos c4] at H
   have am:((rd aa 0) == 0)=true:=zH c4
   have an:((rd aa 0) != 0)=false:=zG c4
   clear c4
   by_cases c5:1≤(aa.length:Int)
   rotate_left
   ·rw [if_neg c5] at H
    exact absurd H (by simp)
   rw [if_pos c5] at H
   have ar:=eq_true c5
   have au:=zC c5
   clear c5
   obtain ⟨ac,ae⟩:∃ y_:List Int,y_=(aa.drop 1):=⟨_,rfl⟩
   replace H:(round_bare.l0 k1 ac)=some r:=by first|(rw [ae];with_reducible exact H)|(have H2_:=(Option.bind_some _ _).symm.trans H;rw [ae];with_reducible exact H2_)|(have H2_:=(Option.bind_some _ _).symm.trans H;with_reducible exact H2_)|with_reducible exact H|(rw [ae];exact H)|exact H
   have ah:=zS ae
   clear ae
   have H':=zS H
   clear H
   obtain ⟨Ao6,co6,eo6⟩:=Kd.V_slice HO_0.out
   subst eo6
   have af:0≤(0:Int):=(by omega)
   have ag:0<(aa.length:Int):=zB (by first|(with_reducible assumption)|assumption)
   obtain ⟨ad,ai,ab⟩:=Kd.at_int (Kd.V_reads' HO_0.out).2.2 0 af ag
   cases ai
   have qi130:(0<aa.length)=True:=eq_true (by omega)
   (try rw [show ((0:Int)).toNat=0 from rfl] at ab)
   (try rw [Addr.add_zero'] at ab)
   replace af:=eq_true af
   replace ag:=eq_true ag
   have q7:(1:Int)≤((aa.length:Int):Int):=zB (by first|(with_reducible assumption)|assumption)
   obtain ⟨i07,hi07,_,hsz7,_⟩:=info_parts info5
   have hroom7:aa.length≤co6:=(Kd.V_reads' HO_0.out).2.1
   have hC7:Kd.F (Kd.int .u8) _ _ (some ad) aa.length aa:=(Kd.V_at (base:=w.heap.size) HO_0.out).2.2
   have hcut7:=cut_from (P:=Tryz.prog) 27 5 .i64 Tryz.underlying27 hi07 1 hsz7 (some ad) aa.length co6 1 (by omega) q7
   have hr7:=Kd.F_cut (m:=(1:Int).toNat) (c:=co6) hC7 (by omega) hroom7
   obtain ⟨A7,hA7⟩:∃ Az_,Az_=(if co6=(1:Int).toNat then (some ad) else ((some ad):Option Addr).map (·.add ((1:Int).toNat * 1))):=⟨_,rfl⟩
   obtain ⟨c7,hc7⟩:∃ cz_,cz_=co6 - (1:Int).toNat:=⟨_,rfl⟩
   have hy7:ac.length=aa.length - (1:Int).toNat:=(by rw [ah.out,List.length_drop] <;> omega)
   rw [show (aa).drop (1:Int).toNat=ac from ah.out.symm] at hr7
   replace hr7:Kd.F (Kd.int .u8) _ _ A7 ac.length ac:=(by rw [hA7];exact hr7)
   rw [← hy7,← hA7,← hc7] at hcut7
   have aj:=zS (show Kd.V (Kd.int .u8) 5 _ w.heap.size _ (.slice A7 ac.length c7) ac from Kd.V_mk (by rw [hy7,hc7];exact Nat.sub_le_sub_right hroom7 _) hr7)
   have ao:=zS (show ac.length≤c7 from by rw [hy7,hc7];exact Nat.sub_le_sub_right hroom7 _)
   clear hr7 hC7 hroom7 hi07 hsz7 hc7
   have KY7:=zS hy7
   have KA7:=zS hA7
   clear hy7 hA7
   replace q7:=eq_true q7
   go_wp2
   go_roundg k1
   case measure=>have:=HK1.out;omega
   case rel=>exact ⟨(ac),H',⟨by have:=HK1.out;omega⟩,⟨vo aj⟩,⟨bl HB⟩⟩
end Go.Proofs.YtklebhlanidloaaGreatDoor.PZ
end
end
section
set_option maxRecDepth 100000
namespace Go.Proofs.YtklebhlanidloaaGreatDoor.PZ
open Go.RowKit Go.Proofs.YtklebhlanidloaaGreatDoorW.PrintWords Go.Proofs.YtklebhlanidloaaGreatDoorW.PrintLast Go.Proofs.YtklebhlanidloaaGreatDoorW.PrintMore
def slices_Grow_byte_byte.f (_:Unit)(n:Int):Option (List Int):=if 0≤n∧n≤1000000 then some [] else none
set_option maxHeartbeats 1000000 in
set_option maxRecDepth 100000 in
theorem slices_Grow_byte_byte.calls (u:Unit)(n:Int)(r:List Int)(w:World)(h:slices_Grow_byte_byte.f u n=some r) :
    Calls Tryz.prog 85 #[.slice none 0 0,.int .i64 n] w fun e w'=>∃ v0_:Value,e = .returned v0_∧Kd.R (Kd.int .u8) 5 w' w.heap.size (fun _=>True) v0_ r∧Below w.heap.size w w':=by
 unfold slices_Grow_byte_byte.f at h
 split at h
 ·rename_i hn
  obtain rfl:=zE h
  obtain ⟨h0,h1⟩:=hn
  have hw:IntKind.i64.wrap n=n:=by rw [IntKind.wrap_i64];omega
  have hlt:(n<0)=False:=eq_false (by omega)
  have HB:=zA (Below.refl w.heap.size w)
  by_cases hp:0<n
  ·have hp1:(0<n)=True:=eq_true hp
   have H0:=zA h0
   have HL:=zA (show ((([]:List Int).length+n.toNat) * 1≤140737488355328) by simp;omega)
   clear h0 h1 hp
   go_enter Tryz.func85,Tryz.ntmps85
   go_wp2_with (first|((with_reducible refine gate_builtin (b:=.append) (xs:=#[.tmp 20,.tmp 21]) rfl ?_);at_builtin;refine Kd.R_append_zeros (Kd.int .u8) (w0:=w) w.heap.size rfl (.tmp 20) (.tmp 21) 27 3 5 (.int .u8 0) 1 rfl Tryz.underlying27 Tryz.underlying3 info5 rfl (by decide) (by decide) (.slice none 0 0) ([]:List Int) 0 n (fun _=>True) rfl rfl rfl (fun _ _=>trivial) (Kd.R_nil _ _ _ _ _) H0.out HB.out (Nat.le_refl _) HL.out ?_;intro v1 w1 hr hb hg hat;clear hg hat;obtain ⟨A,c,hv⟩:=Kd.R_slice hr;subst hv;have HO:=zA (Kd.R_take (m:=0) hr (Nat.zero_le _));replace HB:=zA hb;clear hr hb))
   go_ret
   exact ⟨_,rfl,HO.out,HB.out⟩
  obtain rfl:n=0:=by omega
  go_enter Tryz.func85,Tryz.ntmps85
  go_wp2
  go_ret
  exact ⟨_,rfl,Kd.R_nil _ _ _ _ _,HB.out⟩
 cases h
end Go.Proofs.YtklebhlanidloaaGreatDoor.PZ
end
