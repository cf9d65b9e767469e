/- Texts of this seat, joined. Conditions: none beyond each statement's own. -/
import Derived.Test.YtklebhlanidloaaGreatDoorD22
set_option linter.all false
section
set_option maxRecDepth 100000
namespace Go.Proofs.YtklebhlanidloaaGreatDoor.PZ
open Go.RowKit Go.Sort Go.Proofs.YtklebhlanidloaaGreatDoorW.PrintWords Go.Proofs.YtklebhlanidloaaGreatDoorW.PrintLast Go.Proofs.YtklebhlanidloaaGreatDoorW.PrintMore
section
attribute [local go_sem] max2_int min2_int max_two min_two
theorem dec3 {W:World}{g:Nat}{b:Bool}{A:Option Addr}{n c:Nat}{e:Int}{t:TypeId}(h:W.heap[g]?=some (.cells #[.bool b,.slice A n c,.int .i64 e] t (0,0))):W.cell? ⟨g,0,none⟩=some (.bool b)∧W.cell? ⟨g,1,none⟩=some (.slice A n c)∧W.cell? ⟨g,2,none⟩=some (.int .i64 e):=⟨(blk_cell h 0).trans rfl,(blk_cell h 1).trans rfl,(blk_cell h 2).trans rfl⟩
theorem int1 {W:World}{g:Nat}{x:Value}{t:TypeId}(h:W.heap[g]?=some (.cells #[x] t (0,0))):W.cell? ⟨g,0,none⟩=some x:=(blk_cell h 0).trans rfl
def atV (g:Bool)(l:List Int)(e p:Int):Int:=(dec_At.f g l e p).getD 0
theorem atV_f (g:Bool)(l:List Int)(e p:Int):dec_At.f g l e p=some (atV g l e p):=by
 have h:∃ r,dec_At.f g l e p=some r:=by
  unfold dec_At.f dec_Mag.f
  simp only [Option.bind_some]
  repeat' split
  all_goals first|exact ⟨_,rfl⟩|(exfalso;omega)
 obtain ⟨r,h⟩:=h
 unfold atV
 rw [h]
 rfl
def figRow (g:Bool)(l:List Int)(e pw fr tt:Int):List Int:=(List.range (fr - tt+1).toNat).map fun (k:Nat)=>atV g l e (fr - (k:Int)+pw)
set_option maxHeartbeats 1000000 in
set_option maxRecDepth 100000 in
theorem figAt_c (g:Bool)(A:Option Addr)(c:Nat)(l:List Int)(e pw fr tt:Int)(gd gi:Nat)(w:World)(hd:w.heap[gd]?=some (.cells #[.bool g,.slice A l.length c,.int .i64 e] 29 (0,0)))(hi:w.heap[gi]?=some (.cells #[.int .i64 pw] 3 (0,0)))
    (hr:Kd.C (Kd.int .u8) w A l.length l) (hc:l.length≤c) (b1 : -1000000≤fr∧fr≤1000000) (b2 : -1000000≤tt∧tt≤1000000) (b3 : -1000000≤pw∧pw≤1000000) :
    Calls Tryz.prog 46 #[.int .i64 fr,.int .i64 tt,.pointer (some ⟨gd,0,none⟩),.pointer (some ⟨gi,0,none⟩)] w fun x w'=>∃ v,x = .returned v∧Kd.R (Kd.int .u8) 5 w' w.heap.size (fun _=>True) v (figRow g l e pw fr tt)∧Below w.heap.size w w':=by
 unfold figRow
 obtain ⟨n,hn⟩:∃ n,(fr - tt+1).toNat=n:=⟨_,rfl⟩
 rw [hn]
 have hn2:n≤3000000:=by omega
 have hw1:IntKind.i64.wrap (fr - tt)=fr - tt:=by rw [IntKind.wrap_i64];omega
 have hw2:IntKind.i64.wrap (fr - tt+1)=fr - tt+1:=by rw [IntKind.wrap_i64];omega
 have hmax:(if fr - tt+1<0 then 0 else fr - tt+1)=(n:Int):=by split <;> omega
 have hu:=Tryz.underlying29
 have HR:=Sd.mk hr
 have HC:=Sd.mk hc
 have HD:=Sd.mk hd
 have HI:=Sd.mk hi
 have HB:=Sd.mk (Below.refl w.heap.size w)
 clear hr hc hd hi hn
 go_enter Tryz.func46,Tryz.ntmps46
 go_wp2
 go_loopw [7,14] (fun s7 s14 wr=>∃ k:Nat,k≤n∧s14 = .int .i64 k∧Sd (Kd.R (Kd.int .u8) 5 wr w.heap.size (fun _=>True) s7 ((List.range k).map fun (k:Nat)=>atV g l e (fr - (k:Int)+pw)))∧Sd (Below w.heap.size w wr)) (fun _ s14 _=>n - (intOf s14).toNat)
 case atStart=>exact ⟨0,Nat.zero_le _,rfl,⟨Kd.R_nil _ _ _ _ _⟩,⟨bl HB⟩⟩
 case round=>
  clear HB hmax hw1 hw2
  obtain ⟨k,hk,rfl,HO,HB⟩:=hrel
  by_cases hlt:k<n
  ·have hlt2:(k:Int)<(n:Int):=by omega
   have hw3:IntKind.i64.wrap (fr - (k:Int))=fr - (k:Int):=by rw [IntKind.wrap_i64];omega
   have hw4:IntKind.i64.wrap (fr - (k:Int)+pw)=fr - (k:Int)+pw:=by rw [IntKind.wrap_i64];omega
   obtain ⟨y,hy⟩:∃ y,atV g l e (fr - (k:Int)+pw)=y:=⟨_,rfl⟩
   have HE:=Sd.mk (show ((List.range (k+1)).map fun (k:Nat)=>atV g l e (fr - (k:Int)+pw))=((List.range k).map fun (k:Nat)=>atV g l e (fr - (k:Int)+pw)) ++ [y] by rw [List.range_succ,List.map_append,List.map_singleton,hy])
   have HA:=Sd.mk ((atV_f g l e (fr - (k:Int)+pw)).trans (congrArg some hy))
   obtain ⟨R,hR⟩:∃ R,((List.range k).map fun (k:Nat)=>atV g l e (fr - (k:Int)+pw))=R:=⟨_,rfl⟩
   have HL:=Sd.mk (show R.length=k by rw [← hR];simp)
   have HE2:=Sd.mk (HE.out.trans (by rw [hR]))
   rw [hR] at HO
   clear HE hy hR b1 b2 b3
   have q0:=dec3 (blk_below HD.out HB.out)
   have q1:=int1 (blk_below HI.out HB.out)
   go_wp2_with (first|(go_at_call 47;(with_reducible refine (dec_At.calls g A c l e (fr - (k:Int)+pw) y _ (Kd.C_below HR.out HB.out) HC.out HA.out).mono ?_);rintro x w5 ⟨rfl,hb5⟩;replace HO:=Sd.mk (Kd.R_below HO.out hb5);replace HB:=Sd.mk (HB.out.trans (hb5.mono HB.out.size));clear hb5)|((with_reducible refine gate_builtin (b:=.append) (xs:=#[.tmp 17,.tmp 25]) rfl ?_);at_builtin;refine Kd.R_append (Kd.int .u8) (w0:=w) w.heap.size rfl (.tmp 17) (.tmp 25) 27 5 (.int .u8 0) 1 rfl Tryz.underlying27 info5 rfl (by decide) (by omega) u7 R y [.int .u8 y] (fun _=>True) (fun _=>False) rfl rfl ?aP (fun _ hk=>hk.elim) ?aF ?aO ?aB ?aS ?aL ?_;(case aP=>exact rfl);(case aB=>exact (bl HB));(case aF=>exact (fun _ _=>trivial));(case aO=>exact (ro HO));(case aS=>exact (bz HB));(case aL=>have:=HL.out;omega);intro v9 w9 ho hb hg hat;replace HB:=Sd.mk hb;have HO2:=Sd.mk ho;clear HO ho hb hg hat))
   go_roundw
   case rel=>exact ⟨k+1,by omega,by go_num,⟨by rw [HE2.out];exact HO2.out⟩,HB⟩
   case measure=>simp [intOf];omega
  obtain rfl:k=n:=by omega
  have hlt2:¬ (k:Int)<(k:Int):=by omega
  go_wp2
  go_ret
  exact ⟨_,rfl,HO.out,HB.out⟩
theorem goesF_ {P : Program} {ops : Array Oper} {Q : Exit → Act → World → Prop} {oi : Oper} {N : Option Tmp} {a : Act} {w : World} {K : Act → World → Prop} {f : FuncId} {fn : Func} {xs : Array Operand} {ts : Array TypeId} {x : Operand} {caps : Array Value} (hf : P.funcs[f]? = some fn) (hname : (fn.name == "runtime.NumGoroutine") = false) (hb : fn.body.isSome = true) (args : Array Value)
    (hw:Region.wanted oi (yielded ops a.tmps)=true) (hN:oi.dst=N) (hop:oi.op = .call { callee:=.value x,args:=xs,argTypes:=ts }) (hx:a.eval x = .func (.func f) #[] caps) (hargs:xs.map a.eval ++ caps=args)
    (h:Calls P f args w fun e w'=>∃ v,e = .returned v∧K (a.put N v) w'):if Region.wanted oi (yielded ops a.tmps)=true then Oper.wp P oi a w K Q else K (a.put N undef) w:=by
 refine call_ f args hw hN ?_ h
 have he:=enters_ hf hname hb args w
 unfold execOp
 simp [hop,resolve,Deferred.ofValue,invoke,hx,hargs,he]
def magV (l:List Int)(e:Int):Int:=mx (l.length:Int) 1+e - 1
def RowQ (W:World)(x:SV)(l:List S114):Prop:=x.n=l.length∧x.n≤x.c∧Kd.C k114 W x.a l.length l
def leastV (s:PS)(dg mg:Int):Int×Int:=if s.exp>0 then (s.minInt,s.minFrac) else if s.maxSig>0 then (1,mx (s.minSig - 1 - mg) 0) else if dg≥0 then (s.minInt,dg) else (s.minInt,s.minFrac)
def powV (s:PS)(l:List Int)(e:Int):Int:=if s.exp>0 then magV l e else 0
def fstV (s:PS)(l:List Int)(e:Int):Int:=if l.length=0 then -1 else magV l e - powV s l e
def figV (s:PS)(dg:Int)(g:Bool)(l:List Int)(e:Int):List Int×List Int×Int:=(figRow g l e (powV s l e) (mx (fstV s l e) ((leastV s dg (magV l e)).1 - 1)) 0,figRow g l e (powV s l e) (-1) (mn (e - powV s l e) (-(leastV s dg (magV l e)).2)),powV s l e)
structure FigOk (s:PS)(dg:Int)(l:List Int)(e:Int):Prop where
  l:l.length≤100000
  e : -100000≤e∧e≤100000
  dg:dg≤100000
  minInt:0≤s.minInt∧s.minInt≤100000
  minFrac:0≤s.minFrac∧s.minFrac≤100000
  minSig:0≤s.minSig∧s.minSig≤100000
structure FC (gp gd gi:Nat)(s:PS)(v:V4)(g:Bool)(A:Option Addr)(n c:Nat)(e pw:Int)(W:World):Prop where
  p:PBox gp s v W
  d:W.heap[gd]?=some (.cells #[.bool g,.slice A n c,.int .i64 e] 29 (0,0))
  i:W.heap[gi]?=some (.cells #[.int .i64 pw] 3 (0,0))
structure FS (w:World)(gp gd gi:Nat)(s:PS)(v:V4)(g:Bool)(A:Option Addr)(n c:Nat)(e pw:Int)(W:World):Prop where
  c:FC gp gd gi s v g A n c e pw W
  hi:w.heap.size≤gi
  b:Below w.heap.size w W
section
variable {w W W1:World}{gp gd gi n c:Nat}{s:PS}{v:V4}{g:Bool}{A:Option Addr}{e pw:Int}
theorem FC.below (h:FC gp gd gi s v g A n c e pw W)(hb:Below W.heap.size W W1):FC gp gd gi s v g A n c e pw W1:=⟨h.p.below hb,blk_below h.d hb,blk_below h.i hb⟩
theorem FS.below (h:FS w gp gd gi s v g A n c e pw W)(hb:Below W.heap.size W W1):FS w gp gd gi s v g A n c e pw W1:=⟨h.c.below hb,h.hi,h.b.trans (hb.mono h.b.size)⟩
theorem FS.start (h:P1 w W gp s v)(hd:W.heap[gd]?=some (.cells #[.bool g,.slice A n c,.int .i64 e] 29 (0,0)))(hg:gi=W.heap.size)(hi:W1.heap[gi]?=some (.cells #[.int .i64 pw] 3 (0,0)))(hb:Below W.heap.size W W1):FS w gp gd gi s v g A n c e pw W1:=
  ⟨⟨h.p.below hb,blk_below hd hb,hi⟩,by have:=h.b.size;omega,h.b.trans (hb.mono h.b.size)⟩
theorem FS.put (h:FS w gp gd gi s v g A n c e pw W)(x:Int):FS w gp gd gi s v g A n c e x (W.setCell ⟨gi,0,none⟩ (.int .i64 x)):=
  ⟨⟨(Below.heap_setCell W ⟨gi,0,none⟩ (.int .i64 x) gp (blk_ne h.c.p h.c.i (by decide))).trans h.c.p,(Below.heap_setCell W ⟨gi,0,none⟩ (.int .i64 x) gd (blk_ne h.c.d h.c.i (by decide))).trans h.c.d,blk_put h.c.i 0 (.int .i64 x) rfl⟩,h.hi,Below.setCell h.b h.hi _⟩
variable {ops:Array Oper}{rest:List Oper}{o:Oper}{a:Act}{Q:Exit→Act→World→Prop}
theorem fs_store {t:TypeId}{x y:Operand}(hg:o.guard=none)(hN:o.dst=none)(_ho:o.op = .store t x y)(st:FS w gp gd gi s v g A n c e pw W)(m:Int)
    (hrun:(execOp a.eval o).run Tryz.prog W = .ok .skip (W.setCell ⟨gi,0,none⟩ (.int .i64 m)))
    (h:∀ W1,FS w gp gd gi s v g A n c e m W1→wpList Tryz.prog ops Q rest a W1):wpList Tryz.prog ops Q (o :: rest) a W:=by
 refine wpList_plain hg fun K hK=>?_
 unfold Oper.wp
 rw [hrun]
 show K (a.put o.dst undef) _
 rw [hN]
 exact hK _ _ (h _ (st.put m))
end
def figA.T:Bool×List (List Nat×List Nat):=(true,[([],[]),([],[]),([],[]),([2],[2]),([0,1,3,3],[0,1,3]),([4],[4]),([5],[5]),([5],[5]),([6,4,0,1,2,3,4,5,6],[6]),([7,8,0,1,2,3,4,5,6,7,8],[7])])
def figA.B:List Nat:=[0,0,0,4,15,31,63,63,127,511]
theorem figA.tab:rtab .any (opsOf Tryz.f17 4)=figA.T:=by kernel_rfl
theorem figA.bits:waitsOk figA.T.2 figA.B=true:=by kernel_rfl
def figB.T:Bool×List (List Nat×List Nat):=(true,[([],[]),([0],[0]),([],[]),([1,2],[1,2]),([3,1,0,1,2,3],[3])])
def figB.B:List Nat:=[0,1,0,7,15]
theorem figB.tab:rtab .any (opsOf Tryz.f17 6)=figB.T:=by kernel_rfl
theorem figB.bits:waitsOk figB.T.2 figB.B=true:=by kernel_rfl
def figC.T:Bool×List (List Nat×List Nat):=(true,[([],[]),([],[]),([],[]),([2],[2]),([1,3],[1,3]),([0,4],[0,4]),([],[]),([],[]),([7],[7]),([],[]),([8,9],[8,9]),([],[]),([11],[11]),([10,12],[10,12]),([6,13,5],[6,13]),([],[]),([5,14,0,1,2,3,4,5],[5]),([14,16,0,1,2,3,4,5,6,7,8,9,10,11,12,13,14,16],[14]),([15,17,0,1,2,3,4,5,6,7,8,9,10,11,12,13,14,15,16,17],[15])])
def figC.B:List Nat:=[0,0,0,4,14,31,0,0,128,0,896,0,2048,8064,16383,0,32767,98303,262143]
theorem figC.tab:rtab .any (opsOf Tryz.f17 9)=figC.T:=by kernel_rfl
theorem figC.bits:waitsOk figC.T.2 figC.B=true:=by kernel_rfl
theorem least_f (s:PS)(v:V4)(l0 l1 l2 l3:List S114)(dg mg:Int)(h1:0≤s.minSig∧s.minSig≤100000)(h2 : -1000000≤mg∧mg≤1000000):shape_least.f l0 l1 l2 l3 s.neg s.hash s.minInt s.minFrac s.maxFrac s.g1 s.g2 s.minSig s.maxSig s.exp s.plus s.pad s.padAt dg mg=some (leastV s dg mg):=by
 unfold shape_least.f leastV
 rw [w64 (s.minSig - 1) (by omega) (by omega),w64 (s.minSig - 1 - mg) (by omega) (by omega)]
 repeat' split
 all_goals rfl
set_option maxHeartbeats 4000000 in
set_option maxRecDepth 100000 in
theorem figures_c (s:PS)(v:V4)(l0 l1 l2 l3:List S114)(dg:Int)(g:Bool)(A:Option Addr)(c:Nat)(l:List Int)(e:Int)(w:World)(h0:RowQ w v.v0 l0)(h1:RowQ w v.v1 l1)(h2:RowQ w v.v2 l2)(h3:RowQ w v.v3 l3)(hr:Kd.C (Kd.int .u8) w A l.length l)(hc:l.length≤c)(ok:FigOk s dg l e) :
    Calls Tryz.prog 17 #[s.val v,.int .i64 dg,.agg #[.bool g,.slice A l.length c,.int .i64 e]] w fun x w'=>∃ v0_ v1_:Value,x = .returned (.tuple #[v0_,v1_,.int .i64 (figV s dg g l e).2.2])∧Kd.R (Kd.int .u8) 5 w' w.heap.size (fun k_=>some k_≠(v1_:Value).ownBlock) v0_ (figV s dg g l e).1∧Kd.R (Kd.int .u8) 5 w' w.heap.size (fun k_=>some k_≠(v0_:Value).ownBlock) v1_ (figV s dg g l e).2.1∧Below w.heap.size w w':=by
 obtain ⟨o1,o2,o3,o4,o5,o6⟩:=ok
 have hmgb : -100000≤magV l e∧magV l e≤200000:=by unfold magV mx;split <;> omega
 have hmf:dec_Mag.f g l e=some (magV l e):=by
  unfold dec_Mag.f magV
  have:mx (l.length:Int) 1≤100000∧1≤mx (l.length:Int) 1:=by unfold mx;split <;> omega
  rw [w64 (mx (l.length:Int) 1+e) (by omega) (by omega),w64 _ (by omega) (by omega)]
 have hlf:=least_f s v l0 l1 l2 l3 dg (magV l e) o6 (by omega)
 have hlb:(-1≤(leastV s dg (magV l e)).1∧(leastV s dg (magV l e)).1≤100000)∧0≤(leastV s dg (magV l e)).2∧(leastV s dg (magV l e)).2≤300000:=by
  unfold leastV mx
  repeat' split
  all_goals (dsimp only;omega)
 unfold figV
 unfold fstV powV
 generalize magV l e=mg at *
 generalize leastV s dg mg=le at *
 obtain ⟨ah,bh⟩:=le
 dsimp only at hlb ⊢
 have KM:=zA (fun W (hb:Below w.heap.size w W)=>dec_Mag.calls g A c l e mg W (Kd.C_below hr hb) hc hmf)
 have KL:Aside0 (∀ W (hb:Below w.heap.size w W),Calls Tryz.prog 45 #[s.val v,.int .i64 dg,.int .i64 mg] W fun e w'=>e = .returned (.tuple #[.int .i64 ah,.int .i64 bh])∧Below W.heap.size W w'):=⟨fun W hb=>by
  obtain ⟨n0,m0,r0⟩:=h0
  obtain ⟨n1,m1,r1⟩:=h1
  obtain ⟨n2,m2,r2⟩:=h2
  obtain ⟨n3,m3,r3⟩:=h3
  rw [n0] at m0
  rw [n1] at m1
  rw [n2] at m2
  rw [n3] at m3
  unfold PS.val
  rw [n0,n1,n2,n3]
  exact shape_least.calls v.v0.a v.v0.c l0 v.v1.a v.v1.c l1 v.v2.a v.v2.c l2 v.v3.a v.v3.c l3 s.neg s.hash s.minInt s.minFrac s.maxFrac s.g1 s.g2 s.minSig s.maxSig s.exp s.plus s.pad s.padAt dg mg ah bh W (Kd.C_below r0 hb) m0 (Kd.C_below r1 hb) m1 (Kd.C_below r2 hb) m2 (Kd.C_below r3 hb) m3 hlf⟩
 have KF:=zA (fun (pw fr tt:Int) (gd gi:Nat) W (hb:Below w.heap.size w W) hd hi b1 b2 b3=>figAt_c g A c l e pw fr tt gd gi W hd hi (Kd.C_below hr hb) hc b1 b2 b3)
 have hu:=Tryz.underlying29
 have HO2:=zA o2
 clear hmf hlf h0 h1 h2 h3 hr hc o2 o3 o4 o5 o6
 by_cases hx:0<s.exp
 all_goals (first|rw [if_pos hx]|rw [if_neg hx])
 all_goals by_cases c0:l.length=0
 all_goals
  first
   | have dx:=zC hx
     rw [if_pos c0]
     have d0:((l.length:Int) == 0)=true:=by simp [c0]
     clear c0
     have ho2:=HO2.out
     have hs1:e - mg=(e - mg):=by omega
     rw [hs1]
     clear hs1
     obtain ⟨fr,hfr⟩:∃ x,mx (-1) (ah - 1)=x:=⟨_,rfl⟩
     obtain ⟨tt,htt⟩:∃ x,mn (e - mg) (-bh)=x:=⟨_,rfl⟩
     have b1 : -1000000≤fr∧fr≤1000000:=by unfold mx at hfr;split at hfr <;> omega
     have b2 : -1000000≤tt∧tt≤1000000:=by unfold mn at htt;split at htt <;> omega
     rw [hfr,htt]
     have hfr_:(if -1<ah - 1 then ah - 1 else -1)=fr:=hfr
     have htt_:=htt
     unfold mn at htt_
     have hw5:wrap64 (ah - 1)=ah - 1:=w64 _ (by omega) (by omega)
     have hw6:wrap64 (e - mg)=(e - mg):=w64 _ (by omega) (by omega)
     have hw7:wrap64 (-bh) = -bh:=w64 _ (by omega) (by omega)
     have hw5':IntKind.i64.wrap (ah - 1)=ah - 1:=by rw [IntKind.wrap_i64];omega
     have hw6':IntKind.i64.wrap (e - mg)=(e - mg):=by rw [IntKind.wrap_i64];omega
     have hw7':IntKind.i64.wrap (-bh) = -bh:=by rw [IntKind.wrap_i64];omega
     have hwf:wrap64 (0:Int)=(0:Int):=w64 _ (by omega) (by omega)
     have hwf2:IntKind.i64.wrap (0:Int)=(0:Int):=by rw [IntKind.wrap_i64];omega
     have HB3:=zA (And.intro b1 (And.intro b2 (show -1000000≤mg∧mg≤1000000 by omega)))
     clear b1 b2 ho2 hfr htt
   | have dx:=zC hx
     rw [if_neg c0]
     have d0:((l.length:Int) == 0)=false:=by simp [c0]
     clear c0
     have ho2:=HO2.out
     have hs1:e - mg=(e - mg):=by omega
     have hs2:mg - mg=(0:Int):=by omega
     rw [hs2]
     rw [hs1]
     clear hs1 hs2
     obtain ⟨fr,hfr⟩:∃ x,mx ((0:Int)) (ah - 1)=x:=⟨_,rfl⟩
     obtain ⟨tt,htt⟩:∃ x,mn (e - mg) (-bh)=x:=⟨_,rfl⟩
     have b1 : -1000000≤fr∧fr≤1000000:=by unfold mx at hfr;split at hfr <;> omega
     have b2 : -1000000≤tt∧tt≤1000000:=by unfold mn at htt;split at htt <;> omega
     rw [hfr,htt]
     have hfr_:(if (0:Int)<ah - 1 then ah - 1 else (0:Int))=fr:=hfr
     have hfr2:(if 1<ah then ah - 1 else 0)=fr:=by have h_:=hfr_;(split at h_) <;> split <;> omega
     have htt_:=htt
     unfold mn at htt_
     have hw5:wrap64 (ah - 1)=ah - 1:=w64 _ (by omega) (by omega)
     have hw6:wrap64 (e - mg)=(e - mg):=w64 _ (by omega) (by omega)
     have hw7:wrap64 (-bh) = -bh:=w64 _ (by omega) (by omega)
     have hw5':IntKind.i64.wrap (ah - 1)=ah - 1:=by rw [IntKind.wrap_i64];omega
     have hw6':IntKind.i64.wrap (e - mg)=(e - mg):=by rw [IntKind.wrap_i64];omega
     have hw7':IntKind.i64.wrap (-bh) = -bh:=by rw [IntKind.wrap_i64];omega
     have hwf:wrap64 (0:Int)=(0:Int):=w64 _ (by omega) (by omega)
     have hwf2:IntKind.i64.wrap (0:Int)=(0:Int):=by rw [IntKind.wrap_i64];omega
     have HB3:=zA (And.intro b1 (And.intro b2 (show -1000000≤mg∧mg≤1000000 by omega)))
     clear b1 b2 ho2 hfr htt
   | have dx:=zD hx
     rw [if_pos c0]
     have d0:((l.length:Int) == 0)=true:=by simp [c0]
     clear c0
     have ho2:=HO2.out
     have hs1:e - (0:Int)=e:=by omega
     rw [hs1]
     clear hs1
     obtain ⟨fr,hfr⟩:∃ x,mx (-1) (ah - 1)=x:=⟨_,rfl⟩
     obtain ⟨tt,htt⟩:∃ x,mn e (-bh)=x:=⟨_,rfl⟩
     have b1 : -1000000≤fr∧fr≤1000000:=by unfold mx at hfr;split at hfr <;> omega
     have b2 : -1000000≤tt∧tt≤1000000:=by unfold mn at htt;split at htt <;> omega
     rw [hfr,htt]
     have hfr_:(if -1<ah - 1 then ah - 1 else -1)=fr:=hfr
     have htt_:=htt
     unfold mn at htt_
     have hw5:wrap64 (ah - 1)=ah - 1:=w64 _ (by omega) (by omega)
     have hw6:wrap64 e=e:=w64 _ (by omega) (by omega)
     have hw7:wrap64 (-bh) = -bh:=w64 _ (by omega) (by omega)
     have hw5':IntKind.i64.wrap (ah - 1)=ah - 1:=by rw [IntKind.wrap_i64];omega
     have hw6':IntKind.i64.wrap e=e:=by rw [IntKind.wrap_i64];omega
     have hw7':IntKind.i64.wrap (-bh) = -bh:=by rw [IntKind.wrap_i64];omega
     have hwf:wrap64 mg=mg:=w64 _ (by omega) (by omega)
     have hwf2:IntKind.i64.wrap mg=mg:=by rw [IntKind.wrap_i64];omega
     have HB3:=zA (And.intro b1 (And.intro b2 (show -1000000≤(0:Int)∧(0:Int)≤1000000 by omega)))
     clear b1 b2 ho2 hfr htt
   | have dx:=zD hx
     rw [if_neg c0]
     have d0:((l.length:Int) == 0)=false:=by simp [c0]
     clear c0
     have ho2:=HO2.out
     have hs1:e - (0:Int)=e:=by omega
     have hs2:mg - (0:Int)=mg:=by omega
     rw [hs2]
     rw [hs1]
     clear hs1 hs2
     obtain ⟨fr,hfr⟩:∃ x,mx (mg) (ah - 1)=x:=⟨_,rfl⟩
     obtain ⟨tt,htt⟩:∃ x,mn e (-bh)=x:=⟨_,rfl⟩
     have b1 : -1000000≤fr∧fr≤1000000:=by unfold mx at hfr;split at hfr <;> omega
     have b2 : -1000000≤tt∧tt≤1000000:=by unfold mn at htt;split at htt <;> omega
     rw [hfr,htt]
     have hfr_:(if mg<ah - 1 then ah - 1 else mg)=fr:=hfr
     have htt_:=htt
     unfold mn at htt_
     have hw5:wrap64 (ah - 1)=ah - 1:=w64 _ (by omega) (by omega)
     have hw6:wrap64 e=e:=w64 _ (by omega) (by omega)
     have hw7:wrap64 (-bh) = -bh:=w64 _ (by omega) (by omega)
     have hw5':IntKind.i64.wrap (ah - 1)=ah - 1:=by rw [IntKind.wrap_i64];omega
     have hw6':IntKind.i64.wrap e=e:=by rw [IntKind.wrap_i64];omega
     have hw7':IntKind.i64.wrap (-bh) = -bh:=by rw [IntKind.wrap_i64];omega
     have hwf:wrap64 mg=mg:=w64 _ (by omega) (by omega)
     have hwf2:IntKind.i64.wrap mg=mg:=by rw [IntKind.wrap_i64];omega
     have HB3:=zA (And.intro b1 (And.intro b2 (show -1000000≤(0:Int)∧(0:Int)≤1000000 by omega)))
     clear b1 b2 ho2 hfr htt
  go_enter Tryz.func17,Tryz.ntmps17
  go_wp2_with (first|((with_reducible refine gate_dst (N:=3) rfl ?_);refine pat_box rfl rfl rfl s v rfl ?_;intro gp w1 hgp hbp hb1;have P0:=zA (P1.start hgp hbp hb1);clear hgp hbp hb1)|((with_reducible refine gate_dst (N:=5) rfl ?_);refine box_event rfl rfl (cs:=#[.bool g,.slice A l.length c,.int .i64 e]) (t:=29) (by first|(go_simp;done)|(go_simp;rfl)) ?_;intro gd hgd w2 hbd hb2;replace P0:=zA (P0.out.below hb2);have DD:=zA hbd;clear hgd hbd hb2)|((with_reducible refine gate_dst (N:=9) rfl ?_);refine box_event rfl rfl (cs:=#[.int .i64 0]) (t:=3) (by first|(go_simp;done)|(go_simp;rfl)) ?_;intro gi hgi w3 hbi hb3;have ST:=zA (FS.start P0.out DD.out hgi hbi hb3);have q0:=dec3 ST.out.c.d;have q1:=int1 ST.out.c.i;have q2:=blk_frozen ST.out.c.i 0;have q3:World.cell? _ ⟨gp,13,none⟩=some (.int .i64 s.exp):=ST.out.c.p.cell 13;clear P0 DD hgi hbi hb3)|(go_at_call 44;(with_reducible refine (KM.out _ ST.out.b).mono ?_);rintro x w7 ⟨rfl,hb7⟩;replace ST:=zA (ST.out.below hb7);clear hb7 q0 q1 q2 q3;have q0:=dec3 ST.out.c.d;have q1:=int1 ST.out.c.i;have q2:=blk_frozen ST.out.c.i 0;have q3:World.cell? _ ⟨gp,13,none⟩=some (.int .i64 s.exp):=ST.out.c.p.cell 13)|(first|((with_reducible refine gate_store (t:=3) (p:=9) rfl ?_);refine fs_store rfl rfl rfl ST.out (0) (by first|(go_simp;done)|(go_simp;rfl)) ?_;intro w8 hs8;replace ST:=zA hs8;clear hs8 q0 q1 q2 q3;have q0:=dec3 ST.out.c.d;have q1:=int1 ST.out.c.i;have q2:=blk_frozen ST.out.c.i 0;have q3:World.cell? _ ⟨gp,13,none⟩=some (.int .i64 s.exp):=ST.out.c.p.cell 13)|((with_reducible refine gate_store (t:=3) (p:=9) rfl ?_);refine fs_store rfl rfl rfl ST.out (mg) (by first|(go_simp;done)|(go_simp;rfl)) ?_;intro w8 hs8;replace ST:=zA hs8;clear hs8 q0 q1 q2 q3;have q0:=dec3 ST.out.c.d;have q1:=int1 ST.out.c.i;have q2:=blk_frozen ST.out.c.i 0;have q3:World.cell? _ ⟨gp,13,none⟩=some (.int .i64 s.exp):=ST.out.c.p.cell 13)))
  clear q0 q1 q2 q3
  have SD:=zA (ST.out.below (below_drew1 (Below.refl _ _)))
  first|refine start_ (n:=10) (S:=(fun w'=>FC gp gd gi s v g A l.length c e mg w')) (ds:=[]) (bZ 10 0) (by kernel_rfl) rfl (by kernel_rfl) SD.out.c (fun hHeld=>?_)|refine start_ (n:=10) (S:=(fun w'=>FC gp gd gi s v g A l.length c e 0 w')) (ds:=[]) (bZ 10 0) (by kernel_rfl) rfl (by kernel_rfl) SD.out.c (fun hHeld=>?_)
  clear ST;have ST:=SD;clear SD
  refine with_tabW figA.tab figA.bits (fun HT_ HW_=>?_)
  refine p1 1 21 2 HT_ (v:=?_) ?_ (a':=?_) ?_ ?_
  rotate_left
  ·intro w';go_simp;with_reducible rfl
  rotate_left
  ·simp only [Act.put,sA,sB,sC,i64_w,i32_w];rfl
  refine p2 0 20 3 HT_ HW_ (v:=?_) ?_ hHeld (a':=?_) ?_ ?_
  rotate_left
  ·intro w' hs;refine (pat_load_run (by rfl) gp (by rfl) _ _ hs.p).trans ?_;with_reducible rfl
  rotate_left
  ·simp only [Act.put,sA,sB,sC,i64_w,i32_w];rfl
  refine p2 2 22 7 HT_ HW_ (v:=?_) ?_ hHeld (a':=?_) ?_ ?_
  rotate_left
  ·intro w' hs;have q:=dec3 hs.d;clear hs;go_simp;with_reducible rfl
  rotate_left
  ·simp only [Act.put,sA,sB,sC,i64_w,i32_w];rfl
  refine one_ (i:=3) (N:=some 23) (bZ 10 15) rfl rfl (one_of HT_.out (by kernel_rfl)) (by decide) (fun K hK=>?_)
  refine goes_ Tryz.func44 (by kernel_rfl) rfl #[.agg #[.bool g,.slice A l.length c,.int .i64 e]] (by rfl) rfl rfl (by first|done|rfl|(simp only [mA,mB,mC];rfl)) ?_
  refine Calls.mono (KM.out _ ST.out.b) ?_
  rintro x w7 ⟨rfl,hb7⟩
  refine ⟨_,rfl,?_⟩
  replace ST:=zA (ST.out.below hb7)
  clear hb7 hHeld
  refine hK.out _ _ ST.out.c (fun hHeld=>?_)
  clear hK K
  refine norm_ (a':=?_) ?_ ?_
  rotate_left
  ·show Act.put _ (some 23) _=_
   simp only [Act.put,sA,sB,sC,i64_w,i32_w]
   rfl
  refine one_ (i:=4) (N:=some 24) (bZ 10 31) rfl rfl (one_of HT_.out (by kernel_rfl)) (by decide) (fun K hK=>?_)
  refine goes_ Tryz.func45 (by kernel_rfl) rfl #[s.val v,.int .i64 dg,.int .i64 mg] (by rfl) rfl rfl (by first|done|rfl|(simp only [mA,mB,mC];rfl)) ?_
  refine Calls.mono (KL.out _ ST.out.b) ?_
  rintro x w7 ⟨rfl,hb7⟩
  refine ⟨_,rfl,?_⟩
  replace ST:=zA (ST.out.below hb7)
  clear hb7 hHeld
  refine hK.out _ _ ST.out.c (fun hHeld=>?_)
  clear hK K
  refine norm_ (a':=?_) ?_ ?_
  rotate_left
  ·show Act.put _ (some 24) _=_
   simp only [Act.put,sA,sB,sC,i64_w,i32_w]
   rfl
  refine p1 5 19 63 HT_ (v:=?_) ?_ (a':=?_) ?_ ?_
  rotate_left
  ·intro w';go_simp;with_reducible rfl
  rotate_left
  ·simp only [Act.put,sA,sB,sC,i64_w,i32_w];rfl
  refine p1 6 25 127 HT_ (v:=?_) ?_ (a':=?_) ?_ ?_
  rotate_left
  ·intro w';go_simp;with_reducible rfl
  rotate_left
  ·simp only [Act.put,sA,sB,sC,i64_w,i32_w];rfl
  refine p1 7 26 255 HT_ (v:=?_) ?_ (a':=?_) ?_ ?_
  rotate_left
  ·intro w';go_simp;with_reducible rfl
  rotate_left
  ·simp only [Act.put,sA,sB,sC,i64_w,i32_w];rfl
  refine p1 8 10 511 HT_ (v:=?_) ?_ (a':=?_) ?_ ?_
  rotate_left
  ·intro w';go_simp;with_reducible rfl
  rotate_left
  ·simp only [Act.put,sA,sB,sC,i64_w,i32_w];rfl
  refine p1 9 11 1023 HT_ (v:=?_) ?_ (a':=?_) ?_ ?_
  rotate_left
  ·intro w';go_simp;with_reducible rfl
  rotate_left
  ·simp only [Act.put,sA,sB,sC,i64_w,i32_w];rfl
  refine done_ (done_of HT_.out (by kernel_rfl)) ?_
  go_wp2
  have SD:=zA (ST.out.below (below_drew1 (Below.refl _ _)))
  first|refine start_ (n:=5) (S:=(fun w'=>FC gp gd gi s v g A l.length c e mg w')) (ds:=[]) (bZ 5 0) (by kernel_rfl) rfl (by kernel_rfl) SD.out.c (fun hHeld=>?_)|refine start_ (n:=5) (S:=(fun w'=>FC gp gd gi s v g A l.length c e 0 w')) (ds:=[]) (bZ 5 0) (by kernel_rfl) rfl (by kernel_rfl) SD.out.c (fun hHeld=>?_)
  clear ST;have ST:=SD;clear SD
  refine with_tabW figB.tab figB.bits (fun HT_ HW_=>?_)
  refine p2 0 28 1 HT_ HW_ (v:=?_) ?_ hHeld (a':=?_) ?_ ?_
  rotate_left
  ·intro w' hs;have q:=dec3 hs.d;clear hs;go_simp;with_reducible rfl
  rotate_left
  ·simp only [Act.put,sA,sB,sC,i64_w,i32_w];rfl
  refine p2 2 30 5 HT_ HW_ (v:=?_) ?_ hHeld (a':=?_) ?_ ?_
  rotate_left
  ·intro w' hs;have q:=int1 hs.i;clear hs;go_simp;with_reducible rfl
  rotate_left
  ·simp only [Act.put,sA,sB,sC,i64_w,i32_w];rfl
  refine one_ (i:=1) (N:=some 29) (bZ 5 7) rfl rfl (one_of HT_.out (by kernel_rfl)) (by decide) (fun K hK=>?_)
  refine goes_ Tryz.func44 (by kernel_rfl) rfl #[.agg #[.bool g,.slice A l.length c,.int .i64 e]] (by rfl) rfl rfl (by first|done|rfl|(simp only [mA,mB,mC];rfl)) ?_
  refine Calls.mono (KM.out _ ST.out.b) ?_
  rintro x w7 ⟨rfl,hb7⟩
  refine ⟨_,rfl,?_⟩
  replace ST:=zA (ST.out.below hb7)
  clear hb7 hHeld
  refine hK.out _ _ ST.out.c (fun hHeld=>?_)
  clear hK K
  refine norm_ (a':=?_) ?_ ?_
  rotate_left
  ·show Act.put _ (some 29) _=_
   simp only [Act.put,sA,sB,sC,i64_w,i32_w]
   rfl
  refine p1 3 31 15 HT_ (v:=?_) ?_ (a':=?_) ?_ ?_
  rotate_left
  ·intro w';go_simp;with_reducible rfl
  rotate_left
  ·simp only [Act.put,sA,sB,sC,i64_w,i32_w];rfl
  refine p1 4 13 31 HT_ (v:=?_) ?_ (a':=?_) ?_ ?_
  rotate_left
  ·intro w';go_simp;with_reducible rfl
  rotate_left
  ·simp only [Act.put,sA,sB,sC,i64_w,i32_w];rfl
  refine done_ (done_of HT_.out (by kernel_rfl)) ?_
  have q0:=dec3 ST.out.c.d
  go_wp2
  clear q0
  have SD:=zA (ST.out.below (below_drew1 (Below.refl _ _)))
  first|refine start_ (n:=19) (S:=(fun w'=>FC gp gd gi s v g A l.length c e mg w')) (ds:=[]) (bZ 19 0) (by kernel_rfl) rfl (by kernel_rfl) SD.out.c (fun hHeld=>?_)|refine start_ (n:=19) (S:=(fun w'=>FC gp gd gi s v g A l.length c e 0 w')) (ds:=[]) (bZ 19 0) (by kernel_rfl) rfl (by kernel_rfl) SD.out.c (fun hHeld=>?_)
  clear ST;have ST:=SD;clear SD
  refine with_tabW figC.tab figC.bits (fun HT_ HW_=>?_)
  refine p1 0 36 1 HT_ (v:=?_) ?_ (a':=?_) ?_ ?_
  rotate_left
  ·intro w';go_simp;with_reducible rfl
  rotate_left
  ·simp only [Act.put,sA,sB,sC,i64_w,i32_w];rfl
  refine p1 1 37 3 HT_ (v:=?_) ?_ (a':=?_) ?_ ?_
  rotate_left
  ·intro w';go_simp;with_reducible rfl
  rotate_left
  ·simp only [Act.put,sA,sB,sC,i64_w,i32_w];rfl
  refine p1 2 38 7 HT_ (v:=?_) ?_ (a':=?_) ?_ ?_
  rotate_left
  ·intro w';go_simp;with_reducible rfl
  rotate_left
  ·simp only [Act.put,sA,sB,sC,i64_w,i32_w];rfl
  refine p1 6 42 71 HT_ (v:=?_) ?_ (a':=?_) ?_ ?_
  rotate_left
  ·intro w';go_simp;with_reducible rfl
  rotate_left
  ·simp only [Act.put,sA,sB,sC,i64_w,i32_w];rfl
  refine p1 7 43 199 HT_ (v:=?_) ?_ (a':=?_) ?_ ?_
  rotate_left
  ·intro w';go_simp;with_reducible rfl
  rotate_left
  ·simp only [Act.put,sA,sB,sC,i64_w,i32_w];rfl
  refine p1 11 47 2247 HT_ (v:=?_) ?_ (a':=?_) ?_ ?_
  rotate_left
  ·intro w';go_simp;with_reducible rfl
  rotate_left
  ·simp only [Act.put,sA,sB,sC,i64_w,i32_w];rfl
  refine p1 3 39 2255 HT_ (v:=?_) ?_ (a':=?_) ?_ ?_
  rotate_left
  ·intro w';go_simp;with_reducible rfl
  rotate_left
  ·simp only [Act.put,sA,sB,sC,i64_w,i32_w];rfl
  refine p1 12 48 6351 HT_ (v:=?_) ?_ (a':=?_) ?_ ?_
  rotate_left
  ·intro w';go_simp;with_reducible rfl
  rotate_left
  ·simp only [Act.put,sA,sB,sC,i64_w,i32_w];rfl
  refine p2 9 45 6863 HT_ HW_ (v:=?_) ?_ hHeld (a':=?_) ?_ ?_
  rotate_left
  ·intro w' hs;have q:=int1 hs.i;clear hs;go_simp;with_reducible rfl
  rotate_left
  ·simp only [Act.put,sA,sB,sC,i64_w,i32_w];rfl
  refine p2 8 44 7119 HT_ HW_ (v:=?_) ?_ hHeld (a':=?_) ?_ ?_
  rotate_left
  ·intro w' hs;have q:=dec3 hs.d;clear hs;go_simp;with_reducible rfl
  rotate_left
  ·simp only [Act.put,sA,sB,sC,i64_w,i32_w];rfl
  refine p2 15 51 39887 HT_ HW_ (v:=?_) ?_ hHeld (a':=?_) ?_ ?_
  rotate_left
  ·intro w' hs;have q:=int1 hs.i;clear hs;go_simp;with_reducible rfl
  rotate_left
  ·simp only [Act.put,sA,sB,sC,i64_w,i32_w];rfl
  refine p1 10 46 40911 HT_ (v:=?_) ?_ (a':=?_) ?_ ?_
  rotate_left
  ·intro w';go_simp;with_reducible rfl
  rotate_left
  ·simp only [Act.put,sA,sB,sC,i64_w,i32_w];rfl
  refine p1 4 40 40927 HT_ (v:=?_) ?_ (a':=?_) ?_ ?_
  rotate_left
  ·intro w';go_simp;with_reducible rfl
  rotate_left
  ·simp only [Act.put,sA,sB,sC,i64_w,i32_w];rfl
  refine p1 13 49 49119 HT_ (v:=?_) ?_ (a':=?_) ?_ ?_
  rotate_left
  ·intro w';go_simp;with_reducible rfl
  rotate_left
  ·simp only [Act.put,sA,sB,sC,i64_w,i32_w];rfl
  refine one_ (i:=5) (N:=some 41) (bZ 19 49151) rfl rfl (one_of HT_.out (by kernel_rfl)) (by decide) (fun K hK=>?_)
  refine goesF_ Tryz.func46 (by kernel_rfl) rfl #[.int .i64 fr,.int .i64 0,.pointer (some ⟨gd,0,none⟩),.pointer (some ⟨gi,0,none⟩)] (by rfl) rfl rfl rfl (by first|done|rfl|(simp only [mA,mB,mC];rfl)) ?_
  refine Calls.mono (KF.out _ fr 0 gd gi _ ST.out.b ST.out.c.d ST.out.c.i HB3.out.1 (by decide) HB3.out.2.2) ?_
  rintro x w7 ⟨v1,rfl,hR7,hb7⟩
  refine ⟨_,rfl,?_⟩
  have HR1:=zA (Kd.R_lower hR7 ST.out.b.size)
  clear hR7
  replace ST:=zA (ST.out.below hb7)
  clear hb7 hHeld
  refine hK.out _ _ ST.out.c (fun hHeld=>?_)
  clear hK K
  refine norm_ (a':=?_) ?_ ?_
  rotate_left
  ·show Act.put _ (some 41) _=_
   simp only [Act.put,sA,sB,sC,i64_w,i32_w]
   rfl
  refine one_ (i:=14) (N:=some 50) (bZ 19 65535) rfl rfl (one_of HT_.out (by kernel_rfl)) (by decide) (fun K hK=>?_)
  refine goesF_ Tryz.func46 (by kernel_rfl) rfl #[.int .i64 (-1),.int .i64 tt,.pointer (some ⟨gd,0,none⟩),.pointer (some ⟨gi,0,none⟩)] (by rfl) rfl rfl rfl (by first|done|rfl|(simp only [mA,mB,mC];rfl)) ?_
  refine Calls.mono (KF.out _ (-1) tt gd gi _ ST.out.b ST.out.c.d ST.out.c.i (by decide) HB3.out.2.1 HB3.out.2.2) ?_
  rintro x w7 ⟨v2,rfl,hR7,hb7⟩
  refine ⟨_,rfl,?_⟩
  have HR2:=zA (Kd.R_lower (Kd.R_new' hR7 (Kd.R_lt HR1.out)) ST.out.b.size)
  replace HR1:=zA (Kd.R_elder' HR1.out (Kd.R_base hR7) hb7)
  clear hR7
  replace ST:=zA (ST.out.below hb7)
  clear hb7 hHeld
  refine hK.out _ _ ST.out.c (fun hHeld=>?_)
  clear hK K
  refine norm_ (a':=?_) ?_ ?_
  rotate_left
  ·show Act.put _ (some 50) _=_
   simp only [Act.put,sA,sB,sC,i64_w,i32_w]
   rfl
  refine p1 16 6 131071 HT_ (v:=?_) ?_ (a':=?_) ?_ ?_
  rotate_left
  ·intro w';go_simp;with_reducible rfl
  rotate_left
  ·simp only [Act.put,sA,sB,sC,i64_w,i32_w];rfl
  refine p1 17 7 262143 HT_ (v:=?_) ?_ (a':=?_) ?_ ?_
  rotate_left
  ·intro w';go_simp;with_reducible rfl
  rotate_left
  ·simp only [Act.put,sA,sB,sC,i64_w,i32_w];rfl
  refine p1 18 8 524287 HT_ (v:=?_) ?_ (a':=?_) ?_ ?_
  rotate_left
  ·intro w';go_simp;with_reducible rfl
  rotate_left
  ·simp only [Act.put,sA,sB,sC,i64_w,i32_w];rfl
  refine done_ (done_of HT_.out (by kernel_rfl)) ?_
  go_wp2
  go_ret3
  exact ⟨_,_,rfl,Kd.R_mono HR1.out (fun _ h=>h.2),Kd.R_mono HR2.out (fun _ h=>h.2),ST.out.b⟩
instance figOk_dec (s:PS) (dg:Int) (l:List Int) (e:Int):Decidable (FigOk s dg l e):=decidable_of_iff (l.length≤100000∧(-100000≤e∧e≤100000)∧dg≤100000∧(0≤s.minInt∧s.minInt≤100000)∧(0≤s.minFrac∧s.minFrac≤100000)∧0≤s.minSig∧s.minSig≤100000) ⟨fun h=>⟨h.1,h.2.1,h.2.2.1,h.2.2.2.1,h.2.2.2.2.1,h.2.2.2.2.2⟩,fun h=>⟨h.l,h.e,h.dg,h.minInt,h.minFrac,h.minSig⟩⟩
def shape_Figures.f (l0_0:List S114)(l0_1:List S114)(l0_2:List S114)(l0_3:List S114)(a0_4:Bool)(a0_5:Int)(a0_6:Int)(a0_7:Int)(a0_8:Int)(a0_9:Int)(a0_10:Int)(a0_11:Int)(a0_12:Int)(a0_13:Int)(a0_14:Bool)(a0_15:Int)(a0_16:Int)(a1:Int)(a2_0:Bool)(l2_1:List Int)(a2_2:Int):Option (List Int×List Int×Int):=if FigOk ⟨a0_4,a0_5,a0_6,a0_7,a0_8,a0_9,a0_10,a0_11,a0_12,a0_13,a0_14,a0_15,a0_16⟩ a1 l2_1 a2_2 then some (figV ⟨a0_4,a0_5,a0_6,a0_7,a0_8,a0_9,a0_10,a0_11,a0_12,a0_13,a0_14,a0_15,a0_16⟩ a1 a2_0 l2_1 a2_2) else none
theorem shape_Figures.calls (A0_0:Option Addr)(c0_0:Nat)(l0_0:List S114)(A0_1:Option Addr)(c0_1:Nat)(l0_1:List S114)(A0_2:Option Addr)(c0_2:Nat)(l0_2:List S114)(A0_3:Option Addr)(c0_3:Nat)(l0_3:List S114)(a0_4:Bool)(a0_5:Int)(a0_6:Int)(a0_7:Int)(a0_8:Int)(a0_9:Int)(a0_10:Int)(a0_11:Int)(a0_12:Int)(a0_13:Int)(a0_14:Bool)(a0_15:Int)(a0_16:Int)(a1:Int)(a2_0:Bool)(A2_1:Option Addr)(c2_1:Nat)(l2_1:List Int)(a2_2:Int)(r1 r2:List Int)(r3:Int)(w:World)(hr0_0:Kd.C k114 w A0_0 l0_0.length l0_0)(hc0_0:l0_0.length≤c0_0)(hr0_1:Kd.C k114 w A0_1 l0_1.length l0_1)(hc0_1:l0_1.length≤c0_1)(hr0_2:Kd.C k114 w A0_2 l0_2.length l0_2)(hc0_2:l0_2.length≤c0_2)(hr0_3:Kd.C k114 w A0_3 l0_3.length l0_3)(hc0_3:l0_3.length≤c0_3)(hr2_1:Kd.C (Kd.int .u8) w A2_1 l2_1.length l2_1)(hc2_1:l2_1.length≤c2_1)(h:shape_Figures.f l0_0 l0_1 l0_2 l0_3 a0_4 a0_5 a0_6 a0_7 a0_8 a0_9 a0_10 a0_11 a0_12 a0_13 a0_14 a0_15 a0_16 a1 a2_0 l2_1 a2_2=some (r1,r2,r3)) :
    Calls Tryz.prog 17 #[.agg #[.slice A0_0 l0_0.length c0_0,.slice A0_1 l0_1.length c0_1,.slice A0_2 l0_2.length c0_2,.slice A0_3 l0_3.length c0_3,.bool a0_4,.int .i64 a0_5,.int .i64 a0_6,.int .i64 a0_7,.int .i64 a0_8,.int .i64 a0_9,.int .i64 a0_10,.int .i64 a0_11,.int .i64 a0_12,.int .i64 a0_13,.bool a0_14,.int .i32 a0_15,.int .i64 a0_16],.int .i64 a1,.agg #[.bool a2_0,.slice A2_1 l2_1.length c2_1,.int .i64 a2_2]] w fun e w'=>∃ v0_ v1_:Value,e = .returned (.tuple #[v0_,v1_,.int .i64 r3])∧Kd.R (Kd.int .u8) 5 w' w.heap.size (fun k_=>some k_≠(v1_:Value).ownBlock) v0_ r1∧Kd.R (Kd.int .u8) 5 w' w.heap.size (fun k_=>some k_≠(v0_:Value).ownBlock) v1_ r2∧Below w.heap.size w w':=by
 unfold shape_Figures.f at h
 split at h
 ·rename_i hc
  have e:=zE h
  have:=figures_c ⟨a0_4,a0_5,a0_6,a0_7,a0_8,a0_9,a0_10,a0_11,a0_12,a0_13,a0_14,a0_15,a0_16⟩ ⟨⟨A0_0,_,c0_0⟩,⟨A0_1,_,c0_1⟩,⟨A0_2,_,c0_2⟩,⟨A0_3,_,c0_3⟩⟩ l0_0 l0_1 l0_2 l0_3 a1 a2_0 A2_1 c2_1 l2_1 a2_2 w ⟨rfl,hc0_0,hr0_0⟩ ⟨rfl,hc0_1,hr0_1⟩ ⟨rfl,hc0_2,hr0_2⟩ ⟨rfl,hc0_3,hr0_3⟩ hr2_1 hc2_1 hc
  rw [e] at this
  exact this
 cases h
end
end Go.Proofs.YtklebhlanidloaaGreatDoor.PZ
end
section
set_option maxRecDepth 100000
namespace Go.Proofs.YtklebhlanidloaaGreatDoor.PZ
open Go.RowKit Go.Proofs.YtklebhlanidloaaGreatDoorW.PrintWords Go.Proofs.YtklebhlanidloaaGreatDoorW.PrintLast
def patTa.T:Bool×List (List Nat×List Nat):=(true,[([],[]),([0],[0]),([],[]),([2],[2]),([3,1],[3]),([1,4],[1,4]),([],[]),([6,4],[6]),([5,7],[5,7]),([],[]),([9,7],[9]),([8,10],[8,10]),([],[]),([12,10],[12]),([11,13],[11,13]),([],[]),([15],[15]),([16,13],[16]),([14,17],[14,17]),([],[]),([19,17],[19]),([18,20],[18,20]),([21,20,0,1,2,3,4,5,6,7,8,9,10,11,12,13,14,15,16,17,18,19,20,21],[21])])
def patTa.B:List Nat:=[0,1,0,4,15,31,0,95,255,0,735,2047,0,5855,16383,0,32768,112351,262143,0,767711,2097151,4194303]
theorem patTa.tab:rtab .any (opsOf Tryz.f67 1)=patTa.T:=by kernel_rfl
theorem patTa.bits:waitsOk patTa.T.2 patTa.B=true:=by kernel_rfl
def patTb.T:Bool×List (List Nat×List Nat):=(true,[([],[]),([0],[0]),([],[]),([2],[2]),([3],[3]),([1,4],[1,4]),([],[]),([6,4],[6]),([5,7],[5,7]),([],[]),([9],[9]),([10,7],[10]),([8,11],[8,11]),([12,11,0,1,2,3,4,5,6,7,8,9,10,11,12],[0,12])])
def patTb.B:List Nat:=[0,1,0,4,12,31,0,92,255,0,512,1756,4095,8191]
theorem patTb.tab:rtab .any (opsOf Tryz.f67 3)=patTb.T:=by kernel_rfl
theorem patTb.bits:waitsOk patTb.T.2 patTb.B=true:=by kernel_rfl
def RowT (W:World)(x:SV)(l:List S114):Prop:=x.n=l.length∧x.n≤x.c∧Kd.C k114 W x.a l.length l
theorem RowT.below {W W1:World}{x:SV}{l:List S114}(h:RowT W x l)(hb:Below W.heap.size W W1):RowT W1 x l:=⟨h.1,h.2.1,Kd.C_below h.2.2 hb⟩
theorem written_c (x:SV)(l:List S114)(w:World)(h:RowT w x l)(hl:l.length≤300):Calls Tryz.prog 91 #[.slice x.a x.n x.c] w fun e w'=>e = .returned (.string (writtenV l))∧Below w.heap.size w w':=by
 obtain ⟨k,hk⟩:=(written_ev l (by omega)).1.rounds
 obtain ⟨h1,h2,h3⟩:=h
 rw [h1] at h2 ⊢
 exact exergueref10_written.calls k x.a x.c l _ w h3 h2 hk
noncomputable def padS (s:PS)(k:Int):ByteArray:=if s.padAt=k then ⟨#[42]⟩ ++ textV s.pad else ⟨#[]⟩
theorem padS_size (s:PS)(k:Int):(padS s k).size≤5:=by
 unfold padS
 split
 · rw [ByteArray.size_append];have:=(ptext_f s.pad).2;show 1+_≤_;omega
 show 0≤5;omega
noncomputable def headS (s:PS)(l0 l1:List S114):ByteArray:=(((((padS s 1 ++ writtenV l0) ++ padS s 2) ++ numS s) ++ padS s 3) ++ writtenV l1) ++ padS s 4
noncomputable def textS (s:PS)(l0 l1 l2 l3:List S114):ByteArray:=if s.neg=true then (((headS s l0 l1 ++ ⟨#[59]⟩) ++ writtenV l2) ++ numS s) ++ writtenV l3 else headS s l0 l1
theorem numS_size (s:PS)(hs:s.nums):(numS s).size≤1000:=by
 obtain ⟨n1,n2,n3,n4,n5,n6,n7,n8,n9⟩:=hs
 have one:∀ b:UInt8,(⟨#[b]⟩:ByteArray).size=1:=fun _=>rfl
 have h1:=numL_size s (s.hash+s.minInt).toNat
 have h2:(sigS s).size≤300:=by
  unfold sigS
  rw [ByteArray.size_append,ByteArray.size_append,tmsS_size,tmsS_size,one,one]
  omega
 have h3:(fracS s).size≤500:=by
  unfold fracS
  split
  · rw [ByteArray.size_append,ByteArray.size_append,ByteArray.size_append,tmsS_size,tmsS_size,one,one,one];omega
  omega
 unfold numS
 split
 ·split
  · rw [ByteArray.size_append,ByteArray.size_append,ByteArray.size_append,tmsS_size,one,one,one];omega
  rw [ByteArray.size_append,ByteArray.size_append,tmsS_size,one,one];omega
 omega
set_option maxHeartbeats 4000000 in
set_option maxRecDepth 100000 in
theorem text_c (s:PS)(v:V4)(l0 l1 l2 l3:List S114)(w:World)(hs:s.nums)(h0:RowT w v.v0 l0)(h1:RowT w v.v1 l1)(h2:RowT w v.v2 l2)(h3:RowT w v.v3 l3)(k0:l0.length≤300)(k1:l1.length≤300)(k2:l2.length≤300)(k3:l3.length≤300) :
    Calls Tryz.prog 67 #[s.val v] w fun e w'=>e = .returned (.string (textS s l0 l1 l2 l3))∧Below w.heap.size w w':=by
 have KP:=zA (fun k W=>padded_c s v k W)
 have KN:=zA (fun W=>numberS_c s v W hs)
 have W0:=zA (fun W hb=>written_c v.v0 l0 W (h0.below hb) k0)
 have W1:=zA (fun W hb=>written_c v.v1 l1 W (h1.below hb) k1)
 have W2:=zA (fun W hb=>written_c v.v2 l2 W (h2.below hb) k2)
 have W3:=zA (fun W hb=>written_c v.v3 l3 W (h3.below hb) k3)
 have z0:(writtenV l0).size≤2000:=by have:=(written_ev l0 (by omega)).2;omega
 have z1:(writtenV l1).size≤2000:=by have:=(written_ev l1 (by omega)).2;omega
 have z2:(writtenV l2).size≤2000:=by have:=(written_ev l2 (by omega)).2;omega
 have z3:(writtenV l3).size≤2000:=by have:=(written_ev l3 (by omega)).2;omega
 have zn:=numS_size s hs
 have zp1:=padS_size s 1
 have zp2:=padS_size s 2
 have zp3:=padS_size s 3
 have zp4:=padS_size s 4
 have KP1:=zA (fun W=>KP.out 1 W)
 have KP2:=zA (fun W=>KP.out 2 W)
 have KP3:=zA (fun W=>KP.out 3 W)
 have KP4:=zA (fun W=>KP.out 4 W)
 change Aside0 (∀ W,Calls _ _ _ W fun e w'=>e = .returned (.string (padS s 1))∧_) at KP1
 change Aside0 (∀ W,Calls _ _ _ W fun e w'=>e = .returned (.string (padS s 2))∧_) at KP2
 change Aside0 (∀ W,Calls _ _ _ W fun e w'=>e = .returned (.string (padS s 3))∧_) at KP3
 change Aside0 (∀ W,Calls _ _ _ W fun e w'=>e = .returned (.string (padS s 4))∧_) at KP4
 have HT:=zA (show textS s l0 l1 l2 l3=if s.neg=true then (((((((((padS s 1 ++ writtenV l0) ++ padS s 2) ++ numS s) ++ padS s 3) ++ writtenV l1) ++ padS s 4) ++ ⟨#[59]⟩) ++ writtenV l2) ++ numS s) ++ writtenV l3 else (((((padS s 1 ++ writtenV l0) ++ padS s 2) ++ numS s) ++ padS s 3) ++ writtenV l1) ++ padS s 4 from rfl)
 generalize textS s l0 l1 l2 l3=X at *
 generalize writtenV l0=x0 at *
 generalize writtenV l1=x1 at *
 generalize writtenV l2=x2 at *
 generalize writtenV l3=x3 at *
 generalize numS s=xn at *
 generalize padS s 1=y1 at *
 generalize padS s 2=y2 at *
 generalize padS s 3=y3 at *
 generalize padS s 4=y4 at *
 have hq0:(9223372036854775807<y1.size+x0.size)=False:=eq_false (by omega)
 have hq1:(9223372036854775807<y1.size+x0.size+y2.size)=False:=eq_false (by omega)
 have hq2:(9223372036854775807<y1.size+x0.size+y2.size+xn.size)=False:=eq_false (by omega)
 have hq3:(9223372036854775807<y1.size+x0.size+y2.size+xn.size+y3.size)=False:=eq_false (by omega)
 have hq4:(9223372036854775807<y1.size+x0.size+y2.size+xn.size+y3.size+x1.size)=False:=eq_false (by omega)
 have hq5:(9223372036854775807<y1.size+x0.size+y2.size+xn.size+y3.size+x1.size+y4.size)=False:=eq_false (by omega)
 have hq6:(9223372036854775807<y1.size+x0.size+y2.size+xn.size+y3.size+x1.size+y4.size+1)=False:=eq_false (by omega)
 have hq7:(9223372036854775807<y1.size+x0.size+y2.size+xn.size+y3.size+x1.size+y4.size+1+x2.size)=False:=eq_false (by omega)
 have hq8:(9223372036854775807<y1.size+x0.size+y2.size+xn.size+y3.size+x1.size+y4.size+1+x2.size+xn.size)=False:=eq_false (by omega)
 have hq9:(9223372036854775807<y1.size+x0.size+y2.size+xn.size+y3.size+x1.size+y4.size+1+x2.size+xn.size+x3.size)=False:=eq_false (by omega)
 clear hs h0 h1 h2 h3 KP
 go_enter Tryz.func67,Tryz.ntmps67
 go_wp2_with (first|((with_reducible refine gate_dst (N:=1) rfl ?_);refine pat_box rfl rfl rfl s v rfl ?_;intro gp w1 hgp hbp hb1;have ST:=zA (P1.start hgp hbp hb1);clear hgp hbp hb1))
 have SD:=zA (ST.out.below (below_drew1 (Below.refl _ _)))
 refine start_ (n:=23) (S:=fun w'=>PBox gp s v w') (ds:=[]) (bZ 23 0) (by kernel_rfl) rfl (by kernel_rfl) SD.out.p (fun hHeld=>?_)
 clear ST;have ST:=SD;clear SD
 refine with_tabW patTa.tab patTa.bits (fun HT_ HW_=>?_)
 refine p1 2 6 4 HT_ (v:=?_) ?_ (a':=?_) ?_ ?_
 rotate_left
 ·intro w';go_simp;with_reducible rfl
 rotate_left
 ·simp only [Act.put,sA,sB,sC,i64_w,i32_w];rfl
 refine p1 15 19 32772 HT_ (v:=?_) ?_ (a':=?_) ?_ ?_
 rotate_left
 ·intro w';go_simp;with_reducible rfl
 rotate_left
 ·simp only [Act.put,sA,sB,sC,i64_w,i32_w];rfl
 refine p2 0 4 32773 HT_ HW_ (v:=?_) ?_ hHeld (a':=?_) ?_ ?_
 rotate_left
 ·intro w' hs;refine (pat_load_run (by rfl) gp (by rfl) _ _ hs).trans ?_;with_reducible rfl
 rotate_left
 ·simp only [Act.put,sA,sB,sC,i64_w,i32_w];rfl
 refine p2 3 7 32781 HT_ HW_ (v:=?_) ?_ hHeld (a':=?_) ?_ ?_
 rotate_left
 ·intro w' hs;have q:World.cell? w' ⟨gp,0,none⟩=some (.slice v.v0.a v.v0.n v.v0.c):=hs.cell 0;clear hs;go_simp;with_reducible rfl
 rotate_left
 ·simp only [Act.put,sA,sB,sC,i64_w,i32_w];rfl
 refine p2 6 10 32845 HT_ HW_ (v:=?_) ?_ hHeld (a':=?_) ?_ ?_
 rotate_left
 ·intro w' hs;refine (pat_load_run (by rfl) gp (by rfl) _ _ hs).trans ?_;with_reducible rfl
 rotate_left
 ·simp only [Act.put,sA,sB,sC,i64_w,i32_w];rfl
 refine p2 9 13 33357 HT_ HW_ (v:=?_) ?_ hHeld (a':=?_) ?_ ?_
 rotate_left
 ·intro w' hs;refine (pat_load_run (by rfl) gp (by rfl) _ _ hs).trans ?_;with_reducible rfl
 rotate_left
 ·simp only [Act.put,sA,sB,sC,i64_w,i32_w];rfl
 refine p2 12 16 37453 HT_ HW_ (v:=?_) ?_ hHeld (a':=?_) ?_ ?_
 rotate_left
 ·intro w' hs;refine (pat_load_run (by rfl) gp (by rfl) _ _ hs).trans ?_;with_reducible rfl
 rotate_left
 ·simp only [Act.put,sA,sB,sC,i64_w,i32_w];rfl
 refine p2 16 20 102989 HT_ HW_ (v:=?_) ?_ hHeld (a':=?_) ?_ ?_
 rotate_left
 ·intro w' hs;have q:World.cell? w' ⟨gp,1,none⟩=some (.slice v.v1.a v.v1.n v.v1.c):=hs.cell 1;clear hs;go_simp;with_reducible rfl
 rotate_left
 ·simp only [Act.put,sA,sB,sC,i64_w,i32_w];rfl
 refine p2 19 23 627277 HT_ HW_ (v:=?_) ?_ hHeld (a':=?_) ?_ ?_
 rotate_left
 ·intro w' hs;refine (pat_load_run (by rfl) gp (by rfl) _ _ hs).trans ?_;with_reducible rfl
 rotate_left
 ·simp only [Act.put,sA,sB,sC,i64_w,i32_w];rfl
 refine one_ (i:=1) (N:=some 5) (bZ 23 627279) rfl rfl (one_of HT_.out (by kernel_rfl)) (by decide) (fun K hK=>?_)
 refine goes_ Tryz.func90 (by kernel_rfl) rfl #[s.val v,.int .i64 1] (by rfl) rfl rfl (by first|done|rfl|(simp only [mA,mB,mC];rfl)) ?_
 refine Calls.mono (KP1.out _) ?_
 rintro e w7 ⟨rfl,hb7⟩
 refine ⟨_,rfl,?_⟩
 replace ST:=zA (ST.out.below hb7)
 clear hb7 hHeld
 refine hK.out _ _ ST.out.p (fun hHeld=>?_)
 clear hK K
 refine norm_ (a':=?_) ?_ ?_
 rotate_left
 ·show Act.put _ (some 5) _=_
  simp only [Act.put,sA,sB,sC,i64_w,i32_w]
  rfl
 refine one_ (i:=4) (N:=some 8) (bZ 23 627295) rfl rfl (one_of HT_.out (by kernel_rfl)) (by decide) (fun K hK=>?_)
 refine goes_ Tryz.func91 (by kernel_rfl) rfl #[.slice v.v0.a v.v0.n v.v0.c] (by rfl) rfl rfl (by first|done|rfl|(simp only [mA,mB,mC];rfl)) ?_
 refine Calls.mono (W0.out _ ST.out.b) ?_
 rintro e w7 ⟨rfl,hb7⟩
 refine ⟨_,rfl,?_⟩
 replace ST:=zA (ST.out.below hb7)
 clear hb7 hHeld
 refine hK.out _ _ ST.out.p (fun hHeld=>?_)
 clear hK K
 refine norm_ (a':=?_) ?_ ?_
 rotate_left
 ·show Act.put _ (some 8) _=_
  simp only [Act.put,sA,sB,sC,i64_w,i32_w]
  rfl
 refine p1 5 9 627327 HT_ (v:=?_) ?_ (a':=?_) ?_ ?_
 rotate_left
 ·intro w';go_simp;with_reducible rfl
 rotate_left
 ·simp only [Act.put,sA,sB,sC,i64_w,i32_w];rfl
 refine one_ (i:=7) (N:=some 11) (bZ 23 627455) rfl rfl (one_of HT_.out (by kernel_rfl)) (by decide) (fun K hK=>?_)
 refine goes_ Tryz.func90 (by kernel_rfl) rfl #[s.val v,.int .i64 2] (by rfl) rfl rfl (by first|done|rfl|(simp only [mA,mB,mC];rfl)) ?_
 refine Calls.mono (KP2.out _) ?_
 rintro e w7 ⟨rfl,hb7⟩
 refine ⟨_,rfl,?_⟩
 replace ST:=zA (ST.out.below hb7)
 clear hb7 hHeld
 refine hK.out _ _ ST.out.p (fun hHeld=>?_)
 clear hK K
 refine norm_ (a':=?_) ?_ ?_
 rotate_left
 ·show Act.put _ (some 11) _=_
  simp only [Act.put,sA,sB,sC,i64_w,i32_w]
  rfl
 refine p1 8 12 627711 HT_ (v:=?_) ?_ (a':=?_) ?_ ?_
 rotate_left
 ·intro w';go_simp;with_reducible rfl
 rotate_left
 ·simp only [Act.put,sA,sB,sC,i64_w,i32_w];rfl
 refine one_ (i:=10) (N:=some 14) (bZ 23 628735) rfl rfl (one_of HT_.out (by kernel_rfl)) (by decide) (fun K hK=>?_)
 refine goes_ Tryz.func92 (by kernel_rfl) rfl #[s.val v] (by rfl) rfl rfl (by first|done|rfl|(simp only [mA,mB,mC];rfl)) ?_
 refine Calls.mono (KN.out _) ?_
 rintro e w7 ⟨rfl,hb7⟩
 refine ⟨_,rfl,?_⟩
 replace ST:=zA (ST.out.below hb7)
 clear hb7 hHeld
 refine hK.out _ _ ST.out.p (fun hHeld=>?_)
 clear hK K
 refine norm_ (a':=?_) ?_ ?_
 rotate_left
 ·show Act.put _ (some 14) _=_
  simp only [Act.put,sA,sB,sC,i64_w,i32_w]
  rfl
 refine p1 11 15 630783 HT_ (v:=?_) ?_ (a':=?_) ?_ ?_
 rotate_left
 ·intro w';go_simp;with_reducible rfl
 rotate_left
 ·simp only [Act.put,sA,sB,sC,i64_w,i32_w];rfl
 refine one_ (i:=13) (N:=some 17) (bZ 23 638975) rfl rfl (one_of HT_.out (by kernel_rfl)) (by decide) (fun K hK=>?_)
 refine goes_ Tryz.func90 (by kernel_rfl) rfl #[s.val v,.int .i64 3] (by rfl) rfl rfl (by first|done|rfl|(simp only [mA,mB,mC];rfl)) ?_
 refine Calls.mono (KP3.out _) ?_
 rintro e w7 ⟨rfl,hb7⟩
 refine ⟨_,rfl,?_⟩
 replace ST:=zA (ST.out.below hb7)
 clear hb7 hHeld
 refine hK.out _ _ ST.out.p (fun hHeld=>?_)
 clear hK K
 refine norm_ (a':=?_) ?_ ?_
 rotate_left
 ·show Act.put _ (some 17) _=_
  simp only [Act.put,sA,sB,sC,i64_w,i32_w]
  rfl
 refine p1 14 18 655359 HT_ (v:=?_) ?_ (a':=?_) ?_ ?_
 rotate_left
 ·intro w';go_simp;with_reducible rfl
 rotate_left
 ·simp only [Act.put,sA,sB,sC,i64_w,i32_w];rfl
 refine one_ (i:=17) (N:=some 21) (bZ 23 786431) rfl rfl (one_of HT_.out (by kernel_rfl)) (by decide) (fun K hK=>?_)
 refine goes_ Tryz.func91 (by kernel_rfl) rfl #[.slice v.v1.a v.v1.n v.v1.c] (by rfl) rfl rfl (by first|done|rfl|(simp only [mA,mB,mC];rfl)) ?_
 refine Calls.mono (W1.out _ ST.out.b) ?_
 rintro e w7 ⟨rfl,hb7⟩
 refine ⟨_,rfl,?_⟩
 replace ST:=zA (ST.out.below hb7)
 clear hb7 hHeld
 refine hK.out _ _ ST.out.p (fun hHeld=>?_)
 clear hK K
 refine norm_ (a':=?_) ?_ ?_
 rotate_left
 ·show Act.put _ (some 21) _=_
  simp only [Act.put,sA,sB,sC,i64_w,i32_w]
  rfl
 refine p1 18 22 1048575 HT_ (v:=?_) ?_ (a':=?_) ?_ ?_
 rotate_left
 ·intro w';go_simp;with_reducible rfl
 rotate_left
 ·simp only [Act.put,sA,sB,sC,i64_w,i32_w];rfl
 refine one_ (i:=20) (N:=some 24) (bZ 23 2097151) rfl rfl (one_of HT_.out (by kernel_rfl)) (by decide) (fun K hK=>?_)
 refine goes_ Tryz.func90 (by kernel_rfl) rfl #[s.val v,.int .i64 4] (by rfl) rfl rfl (by first|done|rfl|(simp only [mA,mB,mC];rfl)) ?_
 refine Calls.mono (KP4.out _) ?_
 rintro e w7 ⟨rfl,hb7⟩
 refine ⟨_,rfl,?_⟩
 replace ST:=zA (ST.out.below hb7)
 clear hb7 hHeld
 refine hK.out _ _ ST.out.p (fun hHeld=>?_)
 clear hK K
 refine norm_ (a':=?_) ?_ ?_
 rotate_left
 ·show Act.put _ (some 24) _=_
  simp only [Act.put,sA,sB,sC,i64_w,i32_w]
  rfl
 refine p1 21 25 4194303 HT_ (v:=?_) ?_ (a':=?_) ?_ ?_
 rotate_left
 ·intro w';go_simp;with_reducible rfl
 rotate_left
 ·simp only [Act.put,sA,sB,sC,i64_w,i32_w];rfl
 refine p1 22 3 8388607 HT_ (v:=?_) ?_ (a':=?_) ?_ ?_
 rotate_left
 ·intro w';go_simp;with_reducible rfl
 rotate_left
 ·simp only [Act.put,sA,sB,sC,i64_w,i32_w];rfl
 refine done_ (done_of HT_.out (by kernel_rfl)) ?_
 have c4:World.cell? _ ⟨gp,4,none⟩=some (.bool s.neg):=ST.out.p.cell 4
 cases hn:s.neg with
 | false=>
  rw [hn] at c4
  have HE:=HT.out
  rw [hn] at HE
  simp only [Bool.false_eq_true,if_false] at HE
  have HE2:=zA HE
  clear HE HT
  go_wp2
  go_ret
  exact ⟨by rw [HE2.out];rfl,ST.out.b⟩
 | true=>
  rw [hn] at c4
  have HE:=HT.out
  rw [hn] at HE
  simp only [if_true] at HE
  have HE2:=zA HE
  clear HE HT
  go_wp2
  have SD:=zA (ST.out.below (below_drew1 (Below.refl _ _)))
  refine start_ (n:=14) (S:=fun w'=>PBox gp s v w') (ds:=[]) (bZ 14 0) (by kernel_rfl) rfl (by kernel_rfl) SD.out.p (fun hHeld=>?_)
  clear ST;have ST:=SD;clear SD
  refine with_tabW patTb.tab patTb.bits (fun HT_ HW_=>?_)
  refine p1 0 28 1 HT_ (v:=?_) ?_ (a':=?_) ?_ ?_
  rotate_left
  ·intro w';go_simp;with_reducible rfl
  rotate_left
  ·simp only [Act.put,sA,sB,sC,i64_w,i32_w];rfl
  refine p1 1 29 3 HT_ (v:=?_) ?_ (a':=?_) ?_ ?_
  rotate_left
  ·intro w';go_simp;with_reducible rfl
  rotate_left
  ·simp only [Act.put,sA,sB,sC,i64_w,i32_w];rfl
  refine p1 2 30 7 HT_ (v:=?_) ?_ (a':=?_) ?_ ?_
  rotate_left
  ·intro w';go_simp;with_reducible rfl
  rotate_left
  ·simp only [Act.put,sA,sB,sC,i64_w,i32_w];rfl
  refine p1 9 37 519 HT_ (v:=?_) ?_ (a':=?_) ?_ ?_
  rotate_left
  ·intro w';go_simp;with_reducible rfl
  rotate_left
  ·simp only [Act.put,sA,sB,sC,i64_w,i32_w];rfl
  refine p2 3 31 527 HT_ HW_ (v:=?_) ?_ hHeld (a':=?_) ?_ ?_
  rotate_left
  ·intro w' hs;have q:World.cell? w' ⟨gp,2,none⟩=some (.slice v.v2.a v.v2.n v.v2.c):=hs.cell 2;clear hs;go_simp;with_reducible rfl
  rotate_left
  ·simp only [Act.put,sA,sB,sC,i64_w,i32_w];rfl
  refine p2 6 34 591 HT_ HW_ (v:=?_) ?_ hHeld (a':=?_) ?_ ?_
  rotate_left
  ·intro w' hs;refine (pat_load_run (by rfl) gp (by rfl) _ _ hs).trans ?_;with_reducible rfl
  rotate_left
  ·simp only [Act.put,sA,sB,sC,i64_w,i32_w];rfl
  refine p2 10 38 1615 HT_ HW_ (v:=?_) ?_ hHeld (a':=?_) ?_ ?_
  rotate_left
  ·intro w' hs;have q:World.cell? w' ⟨gp,3,none⟩=some (.slice v.v3.a v.v3.n v.v3.c):=hs.cell 3;clear hs;go_simp;with_reducible rfl
  rotate_left
  ·simp only [Act.put,sA,sB,sC,i64_w,i32_w];rfl
  refine one_ (i:=4) (N:=some 32) (bZ 14 1631) rfl rfl (one_of HT_.out (by kernel_rfl)) (by decide) (fun K hK=>?_)
  refine goes_ Tryz.func91 (by kernel_rfl) rfl #[.slice v.v2.a v.v2.n v.v2.c] (by rfl) rfl rfl (by first|done|rfl|(simp only [mA,mB,mC];rfl)) ?_
  refine Calls.mono (W2.out _ ST.out.b) ?_
  rintro e w7 ⟨rfl,hb7⟩
  refine ⟨_,rfl,?_⟩
  replace ST:=zA (ST.out.below hb7)
  clear hb7 hHeld
  refine hK.out _ _ ST.out.p (fun hHeld=>?_)
  clear hK K
  refine norm_ (a':=?_) ?_ ?_
  rotate_left
  ·show Act.put _ (some 32) _=_
   simp only [Act.put,sA,sB,sC,i64_w,i32_w]
   rfl
  refine p1 5 33 1663 HT_ (v:=?_) ?_ (a':=?_) ?_ ?_
  rotate_left
  ·intro w';go_simp;with_reducible rfl
  rotate_left
  ·simp only [Act.put,sA,sB,sC,i64_w,i32_w];rfl
  refine one_ (i:=7) (N:=some 35) (bZ 14 1791) rfl rfl (one_of HT_.out (by kernel_rfl)) (by decide) (fun K hK=>?_)
  refine goes_ Tryz.func92 (by kernel_rfl) rfl #[s.val v] (by rfl) rfl rfl (by first|done|rfl|(simp only [mA,mB,mC];rfl)) ?_
  refine Calls.mono (KN.out _) ?_
  rintro e w7 ⟨rfl,hb7⟩
  refine ⟨_,rfl,?_⟩
  replace ST:=zA (ST.out.below hb7)
  clear hb7 hHeld
  refine hK.out _ _ ST.out.p (fun hHeld=>?_)
  clear hK K
  refine norm_ (a':=?_) ?_ ?_
  rotate_left
  ·show Act.put _ (some 35) _=_
   simp only [Act.put,sA,sB,sC,i64_w,i32_w]
   rfl
  refine p1 8 36 2047 HT_ (v:=?_) ?_ (a':=?_) ?_ ?_
  rotate_left
  ·intro w';go_simp;with_reducible rfl
  rotate_left
  ·simp only [Act.put,sA,sB,sC,i64_w,i32_w];rfl
  refine one_ (i:=11) (N:=some 39) (bZ 14 4095) rfl rfl (one_of HT_.out (by kernel_rfl)) (by decide) (fun K hK=>?_)
  refine goes_ Tryz.func91 (by kernel_rfl) rfl #[.slice v.v3.a v.v3.n v.v3.c] (by rfl) rfl rfl (by first|done|rfl|(simp only [mA,mB,mC];rfl)) ?_
  refine Calls.mono (W3.out _ ST.out.b) ?_
  rintro e w7 ⟨rfl,hb7⟩
  refine ⟨_,rfl,?_⟩
  replace ST:=zA (ST.out.below hb7)
  clear hb7 hHeld
  refine hK.out _ _ ST.out.p (fun hHeld=>?_)
  clear hK K
  refine norm_ (a':=?_) ?_ ?_
  rotate_left
  ·show Act.put _ (some 39) _=_
   simp only [Act.put,sA,sB,sC,i64_w,i32_w]
   rfl
  refine p1 12 40 8191 HT_ (v:=?_) ?_ (a':=?_) ?_ ?_
  rotate_left
  ·intro w';go_simp;with_reducible rfl
  rotate_left
  ·simp only [Act.put,sA,sB,sC,i64_w,i32_w];rfl
  refine p1 13 3 16383 HT_ (v:=?_) ?_ (a':=?_) ?_ ?_
  rotate_left
  ·intro w';go_simp;with_reducible rfl
  rotate_left
  ·simp only [Act.put,sA,sB,sC,i64_w,i32_w];rfl
  refine done_ (done_of HT_.out (by kernel_rfl)) ?_
  go_wp2
  go_ret
  exact ⟨by rw [HE2.out];rfl,ST.out.b⟩
end Go.Proofs.YtklebhlanidloaaGreatDoor.PZ
end
