/- Texts of this seat, joined. Conditions: none beyond each statement's own. -/
import Derived.Test.YtgfajgkjbckkgaaGreatDoorPd10
import Derived.Test.YtgfajgkjbckkgaaGreatDoorPd09
set_option linter.all false
section
set_option maxRecDepth 100000
namespace Go.Proofs.YtgfajgkjbckkgaaGreatDoor.PZ
open Go.RowKit Go.Proofs.YtgfajgkjbckkgaaGreatDoorW.PrintWords Go.Proofs.YtgfajgkjbckkgaaGreatDoorW.PrintLast
section
section
variable {W W' W2 w0:World}{g:Nat}{s:ByteArray}{a:Nat}{b:Bool}
theorem RdTo.more (h:RdTo W g s a b W')(hb:Below W'.heap.size W' W2):RdTo W g s a b W2:=
  ⟨(hb.block g (blk_lt h.1)).trans h.1,Lib.grownBy_below h.2 hb⟩
theorem RdTo.below (h:RdTo W g s a b W')(hB:Below w0.heap.size w0 W)(hg:w0.heap.size≤g):Below w0.heap.size w0 W':=
  pw_below_grown hB (some g) hB.size h.2 (fun k e=>by cases e;exact hg)
end
theorem parse_ok:∀ (l:List UInt8) (acc:Nat),(∀ c ∈ l,48≤c.toNat∧c.toNat≤57)→(acc+1) * 10 ^ l.length≤10 ^ 18→∃ v,Lib.parseUint10 acc l = .ok v∧(v:Int)=(l.map fun b=>(b.toNat:Int)).foldl (fun n c=>n * 10+(c - 48)) (acc:Int)∧v<(acc+1) * 10 ^ l.length
  | [],acc,_,h=>⟨acc,rfl,rfl,by simp⟩
  | c :: l,acc,hc,h=>by
    have h1:=hc c (by simp)
    have hp:0<10 ^ l.length:=Nat.pow_pos (by decide)
    rw [List.length_cons,Nat.pow_succ] at h
    have h2:(acc * 10+(c.toNat - 48)+1) * 10 ^ l.length≤(acc+1) * (10 ^ l.length * 10):=by
     rw [show (acc+1) * (10 ^ l.length * 10)=((acc+1) * 10) * 10 ^ l.length by rw [Nat.mul_comm (10 ^ l.length) 10,Nat.mul_assoc]]
     exact Nat.mul_le_mul_right _ (by omega)
    obtain ⟨v,e1,e2,e3⟩:=parse_ok l (acc * 10+(c.toNat - 48)) (fun x hx=>hc x (by simp [hx])) (Nat.le_trans h2 h)
    have h3:acc * 10+(c.toNat - 48)+1≤10 ^ 18:=by
     have:(acc * 10+(c.toNat - 48)+1) * 1≤(acc * 10+(c.toNat - 48)+1) * 10 ^ l.length:=Nat.mul_le_mul_left _ hp
     omega
    refine ⟨v,?_,?_,by rw [List.length_cons,Nat.pow_succ];omega⟩
    · rw [Lib.parseUint10,if_pos h1,if_neg (by omega),if_neg (by omega),e1]
    · rw [e2,List.map_cons,List.foldl_cons]
      congr 1
      omega
theorem atoi_dig {q:ByteArray}(hd:∀ c ∈ bytesOf q,isDi c=true)(h0:0<q.size)(h9:q.size≤9):Lib.atoiAll q.data.toList = .ok (decv (bytesOf q)):=by
 have hc:∀ c ∈ q.data.toList,48≤c.toNat∧c.toNat≤57:=by
  intro c hc
  have:=hd (c.toNat:Int) (List.mem_map.2 ⟨c,hc,rfl⟩)
  unfold isDi at this
  simp at this
  omega
 have hl:=data_length q
 obtain ⟨v,e1,e2,e3⟩:=parse_ok q.data.toList 0 hc (by
  rw [hl,Nat.zero_add,Nat.one_mul]
  exact Nat.pow_le_pow_right (by decide) (by omega))
 have hv:v<9223372036854775808:=by
  rw [hl] at e3
  have:(10:Nat) ^ q.size≤10 ^ 9:=Nat.pow_le_pow_right (by decide) h9
  omega
 unfold decv bytesOf
 generalize q.data.toList=l at *
 match l,hc,e1,e2 with
 | [],_,_,_=>simp at hl;omega
 | c :: r,hc,e1,e2=>
  have h1:=hc c (by simp)
  unfold Lib.atoiAll
  simp only
  rw [if_neg (by omega)]
  unfold Lib.parseMag
  rw [if_neg (by simp),e1]
  simp only
  rw [if_neg (by omega),if_neg (by omega),if_neg (by omega),e2]
  rfl
def AtoiEnd (q:ByteArray)(w:World)(e:Ending)(w':World):Prop:=
  ((∃ v,e = .returned (.tuple #[.int .i64 v,.nilIface])∧Lib.atoiAll q.data.toList = .ok v)∨(∃ v te pe,e = .returned (.tuple #[.int .i64 v,.iface te pe])∧∀ v,Lib.atoiAll q.data.toList ≠ .ok v))∧Below w.heap.size w w'
theorem atoi_any (q:ByteArray)(hq:q.size≤140737488351232)(w:World)(hG:GL w):Calls Tryz.prog 114 #[.string q] w (AtoiEnd q w):=by
 cases h:Lib.atoiAll q.data.toList with
 | ok v=>
  refine (Tryz.strconv_Atoi_ok q (by omega) v h w).mono ?_
  rintro e w' ⟨rfl,hw⟩
  refine ⟨.inl ⟨v,rfl,h⟩,?_⟩
  rcases hw with rfl|⟨t,rfl⟩
  · exact Below.refl _ _
  exact bytes_below (Below.refl _ _) (Nat.le_refl _) _ _
 | «syntax»=>
  obtain ⟨tp,p,hv⟩:=hG.2.1
  refine (Tryz.strconv_Atoi_syntax_var q (by omega) h tp p w hv).mono ?_
  rintro e w' ⟨N,rfl,_,_,hb⟩
  exact ⟨.inr ⟨_,_,_,rfl,fun v hv=>by rw [h] at hv;cases hv⟩,hb⟩
 | range=>
  obtain ⟨tp,p,hv⟩:=hG.2.2
  refine (Tryz.strconv_Atoi_range_var q (by omega) h tp p w hv).mono ?_
  rintro e w' ⟨N,rfl,_,_,hb⟩
  exact ⟨.inr ⟨_,_,_,rfl,fun v hv=>by rw [h] at hv;cases hv⟩,hb⟩
def NumEnd (least:Int)(W:World)(g:Nat)(s:ByteArray)(a:Nat)(b:Bool)(e:Ending)(W':World):Prop:=
  match numP least ((bytesOf s).drop a) with
  | (none,n)=>e = .returned (.int .i64 0)∧RdTo W g s (a+n) false W'
  | (some v,n)=>e = .returned (.int .i64 v)∧RdTo W g s (a+n) b W'
theorem take_runs (p:Int→Bool):∀ (t:List Int),∀ c ∈ t.take (runL p t),p c=true
  | [],c,h=>by simp [runL] at h
  | x :: t,c,h=>by
    rw [run_cons] at h
    split at h
    · rename_i hx
      rw [List.take_succ_cons] at h
      rcases List.mem_cons.1 h with rfl|h
      · exact hx
      · exact take_runs p t c h
    · simp at h
structure NumQ (least:Int)(s:ByteArray)(a A:Nat)(q:ByteArray):Prop where
  le:A+q.size≤s.size
  dig:∀ c ∈ bytesOf q,isDi c=true
  eq:numP least ((bytesOf s).drop a)=if q.size=0∨9<q.size∨(bt q 0=48∧1<q.size)∨decv (bytesOf q)<least then (none,A - a) else (some (decv (bytesOf q)),A - a+q.size)
  at_:a≤A
theorem numQ (least:Int)(s:ByteArray)(a:Nat)(ha:a≤s.size):NumQ least s a (a+bl ((bytesOf s).drop a)) (s.extract (a+bl ((bytesOf s).drop a)) (farTo isDi s a)):=by
 have hA:=run_size isBl s a ha
 change a+bl ((bytesOf s).drop a)≤s.size at hA
 have hd:=bl_drop s a
 unfold farTo
 have hE:=run_size isDi s _ hA
 obtain ⟨n,hn⟩:∃ n,bl ((bytesOf s).drop a)=n:=⟨_,rfl⟩
 rw [hn] at hA hd hE ⊢
 obtain ⟨A,hA3⟩:∃ A,a+n=A:=⟨_,rfl⟩
 rw [hA3] at hA hd hE ⊢
 have hbl:A - a=n:=by omega
 have hsz:(s.extract A (A+runL isDi ((bytesOf s).drop A))).size=runL isDi ((bytesOf s).drop A):=by rw [ByteArray.size_extract];omega
 have hb:bytesOf (s.extract A (A+runL isDi ((bytesOf s).drop A)))=((bytesOf s).drop A).take (runL isDi ((bytesOf s).drop A)):=by rw [bytes_cut,Nat.add_sub_cancel_left]
 refine ⟨by rw [hsz];exact hE,by rw [hb];exact take_runs _ _,?_,by omega⟩
 unfold numP
 simp only
 rw [hn,hd,hsz,hb,hbl]
 by_cases h0:runL isDi ((bytesOf s).drop A)=0
 · rw [if_pos (.inl h0),if_pos (.inl h0)]
 have hr:bt (s.extract A (A+runL isDi ((bytesOf s).drop A))) 0=rd ((bytesOf s).drop A) 0:=by
  rw [← rd_bytesOf,hb]
  unfold rd
  simp only [Int.toNat_zero,List.getD_eq_getElem?_getD]
  rw [List.getElem?_take_of_lt (by omega)]
 rw [hr]
set_option maxHeartbeats 4000000 in
set_option maxRecDepth 100000 in
theorem rd_number (least:Int)(w0:World)(hG:GL w0)(g:Nat)(s:ByteArray)(a:Nat)(b:Bool)(W:World)(h:Rdr W g s a b)(hB:Below w0.heap.size w0 W)(hg:w0.heap.size≤g)(ha:a≤s.size)(hs:s.size≤140737488351232) :
    Calls Tryz.prog 91 #[.pointer (some ⟨g,0,none⟩),.int .i64 least] W (NumEnd least W g s a b):=by
 have hF:=rd_far 113 isDi fv_dig (enters_of Tryz.func113 (by kernel_rfl) rfl) g s a b W h ha hs
 have hQ:=numQ least s a ha
 unfold NumEnd
 generalize s.extract (a+bl ((bytesOf s).drop a)) (farTo isDi s a)=q at *
 generalize a+bl ((bytesOf s).drop a)=A at *
 obtain ⟨q1,q2,q3,q4⟩:=hQ
 rw [q3]
 clear q3 h
 have hq:q.size≤140737488351232:=by omega
 have HQ:=zA q2
 have HT:=zA (fun w hG=>atoi_any q hq w hG)
 have HA:=zA (fun (W1:World) (x:RdTo W g s A b W1)=>hG.below (x.below hB hg))
 have hc1:((A+q.size:Nat):Int)=(A:Int)+(q.size:Int):=by omega
 have ha3:a+(A - a)=A:=by omega
 have ha4:a+(A - a+q.size)=A+q.size:=by omega
 clear hG hB q2 ha
 have p0:(0≤(A:Int))=True:=eq_true (by omega)
 by_cases h9:q.size=0∨9<q.size
 ·rw [if_pos (by rcases h9 with h|h;exact .inl h;exact .inr (.inl h))]
  simp only [ha3]
  clear ha3 ha4 hc1
  rcases h9 with h|h2
  ·have HV:=zA (show ∀ v,Lib.atoiAll q.data.toList ≠ .ok v from fun v hv=>by
    have:q.data.toList=[]:=by
     have:=data_length q
     exact List.eq_nil_of_length_eq_zero (by omega)
    rw [this] at hv
    cases hv)
   clear h
   go_enter Tryz.func91,Tryz.ntmps91
   go_wp2_with (go_at_call 92;refine hF.mono ?_;rintro e W1 ⟨rfl,hr1⟩;have HR:=zA hr1;clear hr1)
   clear hF
   go_wp2_with (go_at_call 114;refine (HT.out _ (HA.out _ HR.out)).mono ?_;rintro e W2 ⟨he,hb2⟩;have HE:=zA he;have HR2:=zA (HR.out.more hb2);clear he hb2;obtain ⟨c0,c1,c2,f1,f2⟩:=HR2.out.1.c;rcases HE.out with ⟨v,he1,hv⟩|⟨v,te,pe,he1,hv⟩;(exact absurd hv (HV.out v));subst he1;clear hv HE)
   go_wp2
   go_ret
   exact ⟨rfl,HR2.out.bad false⟩
  have g1:decide ((q.size:Int)>9)=true:=zC (by omega)
  have g2:decide (9<q.size)=true:=zC h2
  have g3:decide ((9:Int)<(q.size:Int))=true:=zC (by omega)
  clear h2
  go_enter Tryz.func91,Tryz.ntmps91
  go_wp2_with (go_at_call 92;refine hF.mono ?_;rintro e W1 ⟨rfl,hr1⟩;have HR:=zA hr1;clear hr1)
  clear hF
  go_wp2_with (go_at_call 114;refine (HT.out _ (HA.out _ HR.out)).mono ?_;rintro e W2 ⟨he,hb2⟩;have HE:=zA he;have HR2:=zA (HR.out.more hb2);clear he hb2;obtain ⟨c0,c1,c2,f1,f2⟩:=HR2.out.1.c;rcases HE.out with ⟨v,he1,hv⟩|⟨v,te,pe,he1,hv⟩ <;> (subst he1;clear hv HE))
  all_goals
   go_wp2
   go_ret
   exact ⟨rfl,HR2.out.bad false⟩
 have hA9:=atoi_dig HQ.out (by omega) (by omega)
 have g1:decide ((q.size:Int)>9)=false:=zD (by omega)
 have g2:decide (9<q.size)=false:=zD (by omega)
 have g3:decide ((9:Int)<(q.size:Int))=false:=zD (by omega)
 have g4:decide (0<q.size)=true:=zC (by omega)
 have g5:(0<q.size)=True:=eq_true (by omega)
 have g6:((0:Int)<(q.size:Int))=True:=eq_true (by omega)
 have hx:=bt_nat q 0
 rw [show ((0:Nat):Int)=0 from rfl] at hx
 have hc9:¬ (q.size=0∨9<q.size∨(bt q 0=48∧1<q.size)∨decv (bytesOf q)<least) ↔ ¬ (bt q 0=48∧1<q.size)∧¬ decv (bytesOf q)<least:=by
  constructor
  · intro h;exact ⟨fun z=>h (.inr (.inr (.inl z))),fun z=>h (.inr (.inr (.inr z)))⟩
  rintro ⟨h1,h2⟩ (h|h|h|h)
  · exact h9 (.inl h)
  · exact h9 (.inr h)
  · exact h1 h
  exact h2 h
 have HV:=zA hA9
 have H9:=zA hc9
 clear hA9 hc9 h9
 obtain ⟨V,hV⟩:∃ V,decv (bytesOf q)=V:=⟨_,rfl⟩
 rw [hV] at HV H9 ⊢
 clear hV
 by_cases h48:bt q 0=48
 rotate_left
 ·have e1:(bt q 0 == 48)=false:=zF h48
  by_cases hl:V<least
  ·have l1:decide (V<least)=true:=zC hl
   rw [if_pos (.inr (.inr (.inr hl)))]
   simp only [ha3]
   clear h48 ha3 ha4 hc1 H9 hl
   go_enter Tryz.func91,Tryz.ntmps91
   go_wp2_with (go_at_call 92;refine hF.mono ?_;rintro e W1 ⟨rfl,hr1⟩;have HR:=zA hr1;clear hr1)
   clear hF
   go_wp2_with (go_at_call 114;refine (HT.out _ (HA.out _ HR.out)).mono ?_;rintro e W2 ⟨he,hb2⟩;have HE:=zA he;have HR2:=zA (HR.out.more hb2);clear he hb2;obtain ⟨c0,c1,c2,f1,f2⟩:=HR2.out.1.c;rcases HE.out with ⟨v,he1,hv⟩|⟨v,te,pe,he1,hv⟩;rotate_left;(exact absurd HV.out (hv V));obtain rfl:V=v:=(Lib.NumEnd.ok.inj (HV.out.symm.trans hv));subst he1;clear hv HE)
   go_wp2
   go_ret
   exact ⟨rfl,HR2.out.bad false⟩
  have l1:decide (V<least)=false:=zD hl
  rw [if_neg (H9.out.2 ⟨fun z=>h48 z.1,hl⟩)]
  simp only [ha4]
  clear h48 ha3 ha4 H9 hl
  go_enter Tryz.func91,Tryz.ntmps91
  go_wp2_with (go_at_call 92;refine hF.mono ?_;rintro e W1 ⟨rfl,hr1⟩;have HR:=zA hr1;clear hr1)
  clear hF
  go_wp2_with (go_at_call 114;refine (HT.out _ (HA.out _ HR.out)).mono ?_;rintro e W2 ⟨he,hb2⟩;have HE:=zA he;have HR2:=zA (HR.out.more hb2);clear he hb2;obtain ⟨c0,c1,c2,f1,f2⟩:=HR2.out.1.c;rcases HE.out with ⟨v,he1,hv⟩|⟨v,te,pe,he1,hv⟩;rotate_left;(exact absurd HV.out (hv V));obtain rfl:V=v:=(Lib.NumEnd.ok.inj (HV.out.symm.trans hv));subst he1;clear hv HE)
  go_wp2
  go_ret
  exact ⟨rfl,HR2.out.put hc1.symm⟩
 have e1:(bt q 0 == 48)=true:=zH h48
 by_cases h1:1<q.size
 ·have d1:decide ((q.size:Int)>1)=true:=zC (by omega)
  have d2:decide (1<q.size)=true:=zC h1
  have d3:decide ((1:Int)<(q.size:Int))=true:=zC (by omega)
  rw [if_pos (.inr (.inr (.inl ⟨h48,h1⟩)))]
  simp only [ha3]
  clear h48 h1 ha3 ha4 hc1 H9
  go_enter Tryz.func91,Tryz.ntmps91
  go_wp2_with (go_at_call 92;refine hF.mono ?_;rintro e W1 ⟨rfl,hr1⟩;have HR:=zA hr1;clear hr1)
  clear hF
  go_wp2_with (go_at_call 114;refine (HT.out _ (HA.out _ HR.out)).mono ?_;rintro e W2 ⟨he,hb2⟩;have HE:=zA he;have HR2:=zA (HR.out.more hb2);clear he hb2;obtain ⟨c0,c1,c2,f1,f2⟩:=HR2.out.1.c;rcases HE.out with ⟨v,he1,hv⟩|⟨v,te,pe,he1,hv⟩;rotate_left;(exact absurd HV.out (hv V));obtain rfl:V=v:=(Lib.NumEnd.ok.inj (HV.out.symm.trans hv));subst he1;clear hv HE)
  go_wp2
  go_ret
  exact ⟨rfl,HR2.out.bad false⟩
 have d1:decide ((q.size:Int)>1)=false:=zD (by omega)
 have d2:decide (1<q.size)=false:=zD h1
 have d3:decide ((1:Int)<(q.size:Int))=false:=zD (by omega)
 by_cases hl:V<least
 ·have l1:decide (V<least)=true:=zC hl
  rw [if_pos (.inr (.inr (.inr hl)))]
  simp only [ha3]
  clear h48 h1 ha3 ha4 hc1 H9 hl
  go_enter Tryz.func91,Tryz.ntmps91
  go_wp2_with (go_at_call 92;refine hF.mono ?_;rintro e W1 ⟨rfl,hr1⟩;have HR:=zA hr1;clear hr1)
  clear hF
  go_wp2_with (go_at_call 114;refine (HT.out _ (HA.out _ HR.out)).mono ?_;rintro e W2 ⟨he,hb2⟩;have HE:=zA he;have HR2:=zA (HR.out.more hb2);clear he hb2;obtain ⟨c0,c1,c2,f1,f2⟩:=HR2.out.1.c;rcases HE.out with ⟨v,he1,hv⟩|⟨v,te,pe,he1,hv⟩;rotate_left;(exact absurd HV.out (hv V));obtain rfl:V=v:=(Lib.NumEnd.ok.inj (HV.out.symm.trans hv));subst he1;clear hv HE)
  go_wp2
  go_ret
  exact ⟨rfl,HR2.out.bad false⟩
 have l1:decide (V<least)=false:=zD hl
 rw [if_neg (H9.out.2 ⟨fun z=>h1 z.2,hl⟩)]
 simp only [ha4]
 clear h48 h1 ha3 ha4 H9 hl
 go_enter Tryz.func91,Tryz.ntmps91
 go_wp2_with (go_at_call 92;refine hF.mono ?_;rintro e W1 ⟨rfl,hr1⟩;have HR:=zA hr1;clear hr1)
 clear hF
 go_wp2_with (go_at_call 114;refine (HT.out _ (HA.out _ HR.out)).mono ?_;rintro e W2 ⟨he,hb2⟩;have HE:=zA he;have HR2:=zA (HR.out.more hb2);clear he hb2;obtain ⟨c0,c1,c2,f1,f2⟩:=HR2.out.1.c;rcases HE.out with ⟨v,he1,hv⟩|⟨v,te,pe,he1,hv⟩;rotate_left;(exact absurd HV.out (hv V));obtain rfl:V=v:=(Lib.NumEnd.ok.inj (HV.out.symm.trans hv));subst he1;clear hv HE)
 go_wp2
 go_ret
 exact ⟨rfl,HR2.out.put hc1.symm⟩
def OpEndR (W:World)(g:Nat)(s:ByteArray)(a:Nat)(b:Bool)(e:Ending)(W':World):Prop:=
  match opP ((bytesOf s).drop a) with
  | (none,n)=>e = .returned (.int .u8 0)∧RdTo W g s (a+n) false W'
  | (some c,n)=>e = .returned (.int .u8 c)∧RdTo W g s (a+n) b W'
set_option maxHeartbeats 4000000 in
set_option maxRecDepth 100000 in
theorem rd_op (g:Nat)(s:ByteArray)(a:Nat)(b:Bool)(W:World)(h:Rdr W g s a b)(ha:a≤s.size)(hs:s.size≤140737488351232) :
    Calls Tryz.prog 89 #[.pointer (some ⟨g,0,none⟩)] W (OpEndR W g s a b):=by
 have hF:=rd_word g s a b W h ha hs
 have hA:=run_size isBl s a ha
 change a+bl ((bytesOf s).drop a)≤s.size at hA
 have hd:=bl_drop s a
 unfold OpEndR opP
 rw [hd]
 unfold farTo at hF
 have hE:=run_size isLo s _ hA
 have ha1:a+(bl ((bytesOf s).drop a)+1)=a+bl ((bytesOf s).drop a)+1:=by omega
 generalize bl ((bytesOf s).drop a)=n at *
 generalize hA3:a+n=A at *
 have hsz:(s.extract A (A+runL isLo ((bytesOf s).drop A))).size=runL isLo ((bytesOf s).drop A):=by rw [ByteArray.size_extract];omega
 clear hd h ha
 by_cases h1:runL isLo ((bytesOf s).drop A)=1
 rotate_left
 ·rw [if_neg (fun z=>h1 z.1)]
  generalize s.extract A (A+runL isLo ((bytesOf s).drop A))=q at *
  have hz:q.size≠1:=by rw [hsz];exact h1
  have HC:=zA hA3
  have k1:((q.size:Int) == 1)=false:=zF (by omega)
  have k2:((q.size:Int) != 1)=true:=zI (by omega)
  have k3:(q.size == 1)=false:=zF hz
  have k4:(q.size != 1)=true:=zI hz
  clear hsz h1 hz hE hA3 ha1
  simp only
  go_enter Tryz.func89,Tryz.ntmps89
  go_wp2_with (go_at_call 67;refine hF.mono ?_;rintro e W1 ⟨rfl,hr1⟩;have HR:=zA hr1;obtain ⟨c0,c1,c2,f1,f2⟩:=hr1.1.c;clear hr1)
  clear hF
  go_wp2
  go_ret
  exact ⟨rfl,by rw [HC.out];exact HR.out.bad false⟩
 rw [h1] at hF hsz hE ⊢
 obtain ⟨c,hc1,hc2⟩:=cut_one s A (by omega)
 have hN:=fun w=>Tryz.strings_Contains_one ⟨#[110,105,118,119,102,116,99,101]⟩ c w
 change ∀ w,Calls _ _ _ w fun e w'=>e = .returned (.bool (decide (0≤Lib.indexByte [110,105,118,119,102,116,99,101] c)))∧w'=w at hN
 rw [names_op,hc2,← hc1] at hN
 have hrd:rd ((bytesOf s).drop A) 0=bt s (A:Int):=by
  rw [drop_bt s A (by omega)]
  simp [rd]
 rw [hrd]
 have hq0:bt (s.extract A (A+1)) 0=bt s (A:Int):=by
  rw [← rd_bytesOf,bytes_cut,drop_bt s A (by omega),Nat.add_sub_cancel_left]
  simp [rd]
 generalize s.extract A (A+1)=q at *
 rw [← hq0] at hN ⊢
 have HN:=zA hN
 have HC:=zA hA3
 have HC1:=zA ha1
 have hx:=bt_nat q 0
 rw [show ((0:Nat):Int)=0 from rfl] at hx
 have g4:decide (0<q.size)=true:=zC (by omega)
 have g5:(0<q.size)=True:=eq_true (by omega)
 have g6:((0:Int)<(q.size:Int))=True:=eq_true (by omega)
 have k1:((q.size:Int) == 1)=true:=zH (by omega)
 have k2:((q.size:Int) != 1)=false:=zG (by omega)
 have k3:(q.size == 1)=true:=zH hsz
 have k4:(q.size != 1)=false:=zG hsz
 clear hc1 hc2 hrd hq0 hN hA3 ha1 hsz h1
 cases hop:isOp (bt q 0) with
 | true=>
  rw [hop] at HN
  rw [if_pos ⟨rfl,rfl⟩]
  simp only
  clear hop
  go_enter Tryz.func89,Tryz.ntmps89
  go_wp2_with (go_at_call 67;refine hF.mono ?_;rintro e W1 ⟨rfl,hr1⟩;have HR:=zA hr1;obtain ⟨c0,c1,c2,f1,f2⟩:=hr1.1.c;clear hr1)
  clear hF
  go_wp2_with (go_at_call 110;refine (HN.out _).mono ?_;rintro e w2 ⟨rfl,rfl⟩)
  go_ret
  exact ⟨rfl,by rw [HC1.out];exact HR.out.put (by omega)⟩
 | false=>
  rw [hop] at HN
  rw [if_neg (by simp)]
  simp only
  clear hop
  go_enter Tryz.func89,Tryz.ntmps89
  go_wp2_with (go_at_call 67;refine hF.mono ?_;rintro e W1 ⟨rfl,hr1⟩;have HR:=zA hr1;obtain ⟨c0,c1,c2,f1,f2⟩:=hr1.1.c;clear hr1)
  clear hF
  go_wp2_with (go_at_call 110;refine (HN.out _).mono ?_;rintro e w2 ⟨rfl,rfl⟩)
  go_ret
  exact ⟨rfl,by rw [HC.out];exact HR.out.bad false⟩
end
section
theorem sN_app (a b:List Int):strOfNums a ++ strOfNums b=strOfNums (a ++ b):=by
 apply ByteArray.ext
 rw [ByteArray.data_append]
 unfold strOfNums
 simp
theorem sN_join (sep:List Int)(l:List (List Int)):joinB (l.map strOfNums) (strOfNums sep)=strOfNums (joinT sep l):=by
 unfold joinB
 apply ByteArray.ext
 cases l with
 | nil=>rfl
 | cons a l=>
  rw [List.map_cons,List.map_cons,Lib.join_cons]
  unfold strOfNums Lib.joinTail joinT
  simp only [List.map_append,List.map_map]
  congr 2
  induction l with
  | nil=>rfl
  | cons b l ih=>simp only [List.map_cons,List.flatten_cons,List.flatMap_cons,List.map_append,ih];simp [Function.comp_def]
theorem itoa_f {e:Int}(he:NumOk e):strconv_Itoa.f e=some (strOfNums (pw e)):=by
 obtain ⟨h1,h2⟩:=he
 unfold strconv_Itoa.f
 rw [if_pos ⟨by omega,h2⟩]
 congr 1
 exact bytesInj (by rw [bytes_list,itoa_map,bytesOf_nums pw_bytes])
def wR (x:Rl):Nat:=1+x.f3.length
def wRow (r:List Rl):Nat:=1+(r.map wR).sum
def wC (c:List (List Rl)):Nat:=(c.map wRow).sum
structure NumR (x:Rl):Prop where
  op:0≤x.f0∧x.f0≤255
  m:NumOk x.f1
  r:∀ r ∈ x.f3,NumOk r.f0∧NumOk r.f1
structure TxtOk (c:List (List Rl)):Prop where
  w:wC c≤10000
  n:∀ row ∈ c,∀ x ∈ row,NumR x
theorem join_le (sep:List Int):∀ l:List (List Int),(joinT sep l).length≤(l.map fun x=>x.length+sep.length).sum
  | []=>by simp [joinT]
  | a :: l=>by
    have:∀ l:List (List Int),(l.flatMap fun y=>sep ++ y).length=(l.map fun x=>x.length+sep.length).sum:=by
     intro l
     induction l with
     | nil=>rfl
     | cons b l ih=>rw [List.flatMap_cons,List.length_append,ih,List.map_cons,List.sum_cons,List.length_append];omega
    unfold joinT
    rw [List.length_append,this,List.map_cons,List.sum_cons]
    omega
theorem sum_le {α:Type}{f g:α→Nat}:∀ {l:List α},(∀ x ∈ l,f x≤g x)→(l.map f).sum≤(l.map g).sum
  | [],_=>by simp
  | a :: l,h=>by
    have h1:=h a (by simp)
    have h2:=sum_le (l:=l) (fun x hx=>h x (by simp [hx]))
    rw [List.map_cons,List.map_cons,List.sum_cons,List.sum_cons]
    omega
theorem sum_const {α:Type}(k:Nat)(l:List α):(l.map fun _=>k).sum=k * l.length:=by
 induction l with
 | nil=>rfl
 | cons a l ih=>rw [List.map_cons,List.sum_cons,ih,List.length_cons,Nat.mul_succ];omega
theorem sum_mul {α:Type}(k:Nat)(f:α→Nat)(l:List α):(l.map fun x=>k * f x).sum=k * (l.map f).sum:=by
 induction l with
 | nil=>rfl
 | cons a l ih=>rw [List.map_cons,List.sum_cons,ih,List.map_cons,List.sum_cons,Nat.mul_add]
theorem sum_mem {α:Type}{f:α→Nat}{l:List α}{a:α}(h:a ∈ l):f a≤(l.map f).sum:=by
 induction l with
 | nil=>cases h
 | cons b l ih=>
  rw [List.map_cons,List.sum_cons]
  rcases List.mem_cons.1 h with rfl|h
  · omega
  have:=ih h;omega
theorem rgT_len {r:Rg}(h:NumOk r.f0∧NumOk r.f1):(rgT r).length≤42:=by
 have h1:=pw_len h.1
 have h2:=pw_len h.2
 unfold rgT
 split
 · simp;omega
 omega
theorem rgs_len {l:List Rg}(h:∀ r ∈ l,NumOk r.f0∧NumOk r.f1):(joinT [44] (l.map rgT)).length≤43 * l.length:=by
 refine Nat.le_trans (join_le _ _) ?_
 rw [List.map_map,← sum_const 43 l]
 refine sum_le (fun r hr=>?_)
 have:=rgT_len (h r hr)
 simp only [Function.comp_apply,List.length_cons,List.length_nil]
 omega
theorem relT_len {x:Rl}(h:NumR x):(relT [32] x).length≤45 * wR x - 10:=by
 have h1:=rgs_len h.r
 have h2:=pw_len h.m
 unfold relT wR
 by_cases hm:x.f1≠0
 ·simp only [if_pos hm]
  cases x.f2 <;> simp <;> omega
 simp only [if_neg hm]
 cases x.f2 <;> simp <;> omega
theorem rowT_len {r:List Rl}(h:∀ x ∈ r,NumR x):(rowT [32] r).length≤45 * (r.map wR).sum:=by
 unfold rowT
 refine Nat.le_trans (join_le _ _) ?_
 rw [List.map_map,← sum_mul]
 refine sum_le (fun x hx=>?_)
 have:=relT_len (h x hx)
 simp only [Function.comp_apply,wordAnd,List.length_append,List.length_cons,List.length_nil]
 unfold wR at this ⊢
 omega
theorem condT_len {c:List (List Rl)}(h:∀ row ∈ c,∀ x ∈ row,NumR x):(condT [32] c).length≤45 * wC c:=by
 unfold condT wC
 refine Nat.le_trans (join_le _ _) ?_
 rw [List.map_map,← sum_mul]
 refine sum_le (fun r hr=>?_)
 have:=rowT_len (h r hr)
 simp only [Function.comp_apply,wordOr,List.length_append,List.length_cons,List.length_nil]
 unfold wRow
 omega
theorem join_f (sep:List Int)(l:List (List Int))(h:(joinT sep l).length≤1000000)(h2:l.length≤1000000):strings_Join.f (l.map strOfNums) (strOfNums sep)=some (strOfNums (joinT sep l)):=by
 unfold strings_Join.f
 rw [sN_join,strOfNums_size,List.length_map,if_pos ⟨by omega,by omega⟩]
theorem rd57 {l:List Rg}{i:Nat}(h:i<l.length):rd_T57 l (i:Int)=l[i]:=by
 unfold rd_T57
 simp [List.getD_eq_getElem?_getD,List.getElem?_eq_getElem h]
theorem rd60 {l:List Rl}{i:Nat}(h:i<l.length):rd_T60 l (i:Int)=l[i]:=by
 unfold rd_T60
 simp [List.getD_eq_getElem?_getD,List.getElem?_eq_getElem h]
theorem written_l0 {l:List Rg}(hl:∀ r ∈ l,NumOk r.f0∧NumOk r.f1)(hn:l.length≤10000)(x3:List Int)(h3:x3.length≤1000)(n:Nat):∀ i:Nat,i+n=l.length →
    Ev (fun k=>rule_written.l0 k (strOfNums x3) ((l.take i).map fun r=>strOfNums (rgT r)) l (l.length:Int) (i:Int)) (strOfNums (x3 ++ ([61,32] ++ joinT [44] (l.map rgT)))):=by
 have hj:=rgs_len hl
 induction n with
 | zero=>
  intro i hi
  obtain rfl:i=l.length:=by omega
  refine Ev_shift ?_
  have e1:(l.take l.length).map (fun r=>strOfNums (rgT r))=(l.map rgT).map strOfNums:=by rw [List.take_length,List.map_map];rfl
  have e2:(⟨#[44]⟩:ByteArray)=strOfNums [44]:=rfl
  have e3:(⟨#[61,32]⟩:ByteArray)=strOfNums [61,32]:=rfl
  simp only [rule_written.l0,if_neg (show ¬ ((l.length:Nat):Int)<(l.length:Int) by omega),e1,e2,e3,join_f [44] (l.map rgT) (by omega) (by rw [List.length_map];omega),Option.bind_some,strOfNums_size,sN_app]
  rw [if_pos (by omega),if_pos (by simp;omega),List.append_assoc]
  exact Ev.now _
 | succ n ih=>
  intro i hi
  have hlt:i<l.length:=by omega
  obtain ⟨r0,r1⟩:=hl l[i] (List.getElem_mem hlt)
  have w1:wrap64 ((i:Int)+1)=((i+1:Nat):Int):=by rw [w64 _ (by omega) (by omega)];omega
  have hnext:=ih (i+1) (by omega)
  have e2:(l.take (i+1)).map (fun r=>strOfNums (rgT r))=(l.take i).map (fun r=>strOfNums (rgT r)) ++ [strOfNums (rgT l[i])]:=by rw [List.take_succ_eq_append_getElem hlt,List.map_append];rfl
  have e4:(⟨#[46,46]⟩:ByteArray)=strOfNums [46,46]:=rfl
  have p0:=pw_len r0
  have p1:=pw_len r1
  have hla:((l.take i).map (fun r=>strOfNums (rgT r))).length<8796093022208:=by rw [List.length_map,List.length_take];omega
  refine Ev_shift ?_
  simp only [rule_written.l0,if_pos (show ((i:Nat):Int)<(l.length:Int) by omega),if_pos (show (0:Int)≤(i:Int) by omega),rd57 hlt,itoa_f r0,itoa_f r1,Option.bind_some,w1,e4,strOfNums_size,sN_app,if_pos hla]
  by_cases he:(l[i]).f1=(l[i]).f0
  ·rw [e2,show rgT l[i]=pw (l[i]).f0 from by unfold rgT;rw [if_neg (by simp [he])]] at hnext
   simp only [if_pos he]
   exact hnext
  rw [e2,show rgT l[i]=pw (l[i]).f0 ++ ([46,46] ++ pw (l[i]).f1) from by unfold rgT;rw [if_pos he,List.append_assoc]] at hnext
  simp only [if_neg he,if_pos (show 2+(pw (l[i]).f1).length≤9223372036854775807 by omega),if_pos (show (pw (l[i]).f0).length+(([46,46]:List Int) ++ pw (l[i]).f1).length≤9223372036854775807 by simp;omega)]
  exact hnext
theorem written_ev {x:Rl}(hx:NumR x)(hn:x.f3.length≤10000):Ev (fun k=>rule_written.f k x.f0 x.f1 x.f2 x.f3) (strOfNums (relT [32] x)):=by
 have hp:=pw_len hx.m
 have j0:∀ y:List Int,y.length≤100→Ev (fun k=>rule_written.j0 k (strOfNums y) x.f0 x.f1 x.f2 x.f3) (strOfNums (y ++ ([32] ++ ((if x.f2 then [33,61] else [61]) ++ ([32] ++ joinT [44] (x.f3.map rgT)))))):=by
  intro y hy
  have e1:(⟨#[32,33]⟩:ByteArray)=strOfNums [32,33]:=rfl
  have e2:(⟨#[32]⟩:ByteArray)=strOfNums [32]:=rfl
  cases hb:x.f2 with
  | true=>
   have:=written_l0 hx.r hn (y ++ [32,33]) (by simp;omega) x.f3.length 0 (by omega)
   refine Ev_shift ?_
   simp only [rule_written.j0,if_true,e1,strOfNums_size,if_pos (show y.length+2≤9223372036854775807 by omega),sN_app]
   refine Ev_shift ?_
   simp only [rule_written.j1]
   simpa using this
  | false=>
   have:=written_l0 hx.r hn (y ++ [32]) (by simp;omega) x.f3.length 0 (by omega)
   refine Ev_shift ?_
   simp only [rule_written.j0,Bool.false_eq_true,if_false,e2,strOfNums_size,if_pos (show y.length+1≤9223372036854775807 by omega),sN_app]
   refine Ev_shift ?_
   simp only [rule_written.j1]
   simpa using this
 have e3:(⟨#[32,37,32]⟩:ByteArray)=strOfNums [32,37,32]:=rfl
 unfold rule_written.f
 simp only [Option.bind_some]
 by_cases hm:x.f1=0
 ·have ht:relT [32] x=[x.f0] ++ ([32] ++ ((if x.f2 then [33,61] else [61]) ++ ([32] ++ joinT [44] (x.f3.map rgT)))):=by unfold relT;rw [if_neg (by simpa using hm)];simp
  have:=j0 [x.f0] (by simp)
  rw [ht]
  simp only [if_pos hm]
  exact this
 have ht:relT [32] x=([x.f0] ++ ([32,37,32] ++ pw x.f1)) ++ ([32] ++ ((if x.f2 then [33,61] else [61]) ++ ([32] ++ joinT [44] (x.f3.map rgT)))):=by unfold relT;rw [if_pos hm];simp
 have:=j0 ([x.f0] ++ ([32,37,32] ++ pw x.f1)) (by simp;omega)
 rw [ht]
 simp only [if_neg hm,itoa_f hx.m,Option.bind_some,strOfNums_size,e3,sN_app,if_pos (show 3+(pw x.f1).length≤9223372036854775807 by omega),if_pos (show ([x.f0]:List Int).length+(([32,37,32]:List Int) ++ pw x.f1).length≤9223372036854775807 by simp;omega)]
 exact this
theorem rdL {c:List (List Rl)}{i:Nat}(h:i<c.length):rd_L7 c (i:Int)=c[i]:=by
 unfold rd_L7
 simp [List.getD_eq_getElem?_getD,List.getElem?_eq_getElem h]
theorem wRow_le {c:List (List Rl)}{row:List Rl}(h:row ∈ c):wRow row≤wC c:=sum_mem h
theorem wR_le {row:List Rl}{x:Rl}(h:x ∈ row):wR x<wRow row:=by
 have:=sum_mem (f:=wR) h
 unfold wRow;omega
theorem len_wRow (row:List Rl):row.length<wRow row:=by
 have h1:=sum_le (f:=fun _:Rl=>1) (g:=wR) (l:=row) (fun x _=>by unfold wR;omega)
 rw [sum_const] at h1
 unfold wRow;omega
theorem len_wC (c:List (List Rl)):c.length≤wC c:=by
 have h1:=sum_le (f:=fun _:List Rl=>1) (g:=wRow) (l:=c) (fun x _=>by unfold wRow;omega)
 rw [sum_const] at h1
 unfold wC;omega
theorem take_len_lt {α β:Type}(f:α→β)(l:List α)(j:Nat)(h:l.length≤10000):((l.take j).map f).length<8796093022208:=by
 rw [List.length_map,List.length_take];omega
section
variable {c:List (List Rl)}(hc:TxtOk c)
include hc
theorem text_l1 {i:Nat}(hi:i<c.length)(acc:List ByteArray)(hacc:acc.length<10001){T:ByteArray}(hT:Ev (fun k=>rule_Text.l0 k (acc ++ [strOfNums (rowT [32] c[i])]) c (c.length:Int) ((i+1:Nat):Int)) T)(n:Nat):∀ j:Nat,j+n=(c[i]).length →
    Ev (fun k=>rule_Text.l1 k acc (((c[i]).take j).map fun x=>strOfNums (relT [32] x)) c (c.length:Int) (i:Int) c[i] ((c[i]).length:Int) (j:Int)) T:=by
 have hm:c[i] ∈ c:=List.getElem_mem hi
 have hnum:=hc.n _ hm
 have hw1:=wRow_le hm
 have hw2:=hc.w
 have hw3:=len_wRow c[i]
 have hw4:=len_wC c
 have hrl:=rowT_len hnum
 have hrl2:(rowT [32] c[i]).length≤1000000:=by
  unfold wRow at hw1
  omega
 have hr10:(c[i]).length≤10000:=by omega
 have hx10:∀ x ∈ c[i],x.f3.length≤10000:=fun x hx=>by
  have:=wR_le hx
  unfold wR at this
  omega
 have hi10:i≤10000:=by omega
 clear hw1 hw2 hw3 hw4 hrl hm
 generalize c[i]=row at *
 have wi:wrap64 ((i:Int)+1)=((i+1:Nat):Int):=by rw [w64 _ (by omega) (by omega)];omega
 clear hc
 induction n with
 | zero=>
  intro j hj
  obtain rfl:j=row.length:=by omega
  refine Ev_shift ?_
  have e1:(row.take row.length).map (fun x=>strOfNums (relT [32] x))=(row.map (relT [32])).map strOfNums:=by rw [List.take_length,List.map_map];rfl
  have e2:(⟨#[32,97,110,100,32]⟩:ByteArray)=strOfNums ([32] ++ wordAnd ++ [32]):=rfl
  have e3:strings_Join.f ((row.map (relT [32])).map strOfNums) (strOfNums ([32] ++ wordAnd ++ [32]))=some (strOfNums (rowT [32] row)):=join_f _ _ hrl2 (by rw [List.length_map];omega)
  have q1:¬ ((row.length:Nat):Int)<(row.length:Int):=by omega
  have q2:acc.length<8796093022208:=by omega
  simp only [rule_Text.l1,if_neg q1,e1,e2,e3,Option.bind_some,if_pos q2,wi]
  exact hT
 | succ n ih=>
  intro j hj
  have hlt:j<row.length:=by omega
  have hx:=hnum row[j] (List.getElem_mem hlt)
  have hx3:=hx10 row[j] (List.getElem_mem hlt)
  have hnext:=ih (j+1) (by omega)
  have e2:(row.take (j+1)).map (fun x=>strOfNums (relT [32] x))=(row.take j).map (fun x=>strOfNums (relT [32] x)) ++ [strOfNums (relT [32] row[j])]:=by rw [List.take_succ_eq_append_getElem hlt,List.map_append];rfl
  rw [e2] at hnext
  have hla:=take_len_lt (fun x=>strOfNums (relT [32] x)) row j hr10
  have q1:((j:Nat):Int)<(row.length:Int):=by omega
  have q2:(0:Int)≤(j:Int):=by omega
  have wj:wrap64 ((j:Int)+1)=((j+1:Nat):Int):=by rw [w64 _ (by omega) (by omega)];omega
  refine Ev_shift ?_
  simp only [rule_Text.l1,if_pos q1,if_pos q2,rd60 hlt,if_pos hla,wj]
  exact Ev.bind (written_ev hx hx3) hnext
theorem text_l0 (n:Nat):∀ i:Nat,i+n=c.length →
    Ev (fun k=>rule_Text.l0 k ((c.take i).map fun r=>strOfNums (rowT [32] r)) c (c.length:Int) (i:Int)) (strOfNums (condT [32] c)):=by
 have hw4:=len_wC c
 have hw2:=hc.w
 have hcl:=condT_len hc.n
 induction n with
 | zero=>
  intro i hi
  obtain rfl:i=c.length:=by omega
  refine Ev_shift ?_
  have e1:(c.take c.length).map (fun r=>strOfNums (rowT [32] r))=(c.map (rowT [32])).map strOfNums:=by rw [List.take_length,List.map_map];rfl
  have e2:(⟨#[32,111,114,32]⟩:ByteArray)=strOfNums ([32] ++ wordOr ++ [32]):=rfl
  have e3:strings_Join.f ((c.map (rowT [32])).map strOfNums) (strOfNums ([32] ++ wordOr ++ [32]))=some (strOfNums (condT [32] c)):=join_f _ _ (Nat.le_trans hcl (by omega)) (by rw [List.length_map];omega)
  simp only [rule_Text.l0,if_neg (show ¬ ((c.length:Nat):Int)<(c.length:Int) by omega),e1,e2,e3,Option.bind_some]
  exact Ev.now _
 | succ n ih=>
  intro i hi
  have hlt:i<c.length:=by omega
  have hnext:=ih (i+1) (by omega)
  have e2:(c.take (i+1)).map (fun r=>strOfNums (rowT [32] r))=(c.take i).map (fun r=>strOfNums (rowT [32] r)) ++ [strOfNums (rowT [32] c[i])]:=by rw [List.take_succ_eq_append_getElem hlt,List.map_append];rfl
  rw [e2] at hnext
  refine Ev_shift ?_
  simp only [rule_Text.l0,if_pos (show ((i:Nat):Int)<(c.length:Int) by omega),if_pos (show (0:Int)≤(i:Int) by omega),rdL hlt]
  exact text_l1 hc hlt _ (by rw [List.length_map,List.length_take];omega) hnext (c[i]).length 0 (by omega)
theorem text_ev:Ev (fun k=>rule_Text.f k c) (strOfNums (condT [32] c)):=by
 unfold rule_Text.f
 exact text_l0 hc c.length 0 (by omega)
end
def Byts (l:List Int):Prop:=∀ c ∈ l,0≤c∧c≤255
theorem Byts.app {a b:List Int}(h:Byts a)(k:Byts b):Byts (a ++ b):=fun c hc=>by
  rcases List.mem_append.1 hc with hc|hc
  · exact h c hc
  · exact k c hc
theorem Byts.join {sep:List Int}(hs:Byts sep):∀ {l:List (List Int)},(∀ x ∈ l,Byts x)→Byts (joinT sep l)
  | [],_=>fun c hc=>by simp [joinT] at hc
  | a :: l,h=>by
    unfold joinT
    refine Byts.app (h a (by simp)) (fun c hc=>?_)
    obtain ⟨y,hy,hc⟩:=List.mem_flatMap.1 hc
    exact (Byts.app hs (h y (by simp [hy]))) c hc
theorem rgT_byts (r:Rg):Byts (rgT r):=by
 unfold rgT
 split
 · exact Byts.app (Byts.app pw_bytes (by intro c hc;simp at hc;omega)) pw_bytes
 exact pw_bytes
theorem relT_byts {x:Rl}(h:NumR x):Byts (relT [32] x):=by
 have b1:Byts [32]:=by intro c hc;simp at hc;omega
 have b2:Byts [37]:=by intro c hc;simp at hc;omega
 unfold relT
 refine Byts.app (by intro c hc;simp at hc;have:=h.op;omega) (Byts.app ?_ (Byts.app b1 (Byts.app ?_ (Byts.app b1 (Byts.join (by intro c hc;simp at hc;omega) (fun y hy=>by obtain ⟨r,_,rfl⟩:=List.mem_map.1 hy;exact rgT_byts r))))))
 ·split
  · exact Byts.app (Byts.app (Byts.app b1 b2) b1) pw_bytes
  intro c hc;simp at hc
 split <;> (intro c hc;simp at hc;omega)
theorem condT_byts {c:List (List Rl)}(h:∀ row ∈ c,∀ x ∈ row,NumR x):Byts (condT [32] c):=by
 unfold condT
 refine Byts.join (by intro c hc;simp [wordOr] at hc;omega) (fun y hy=>?_)
 obtain ⟨r,hr,rfl⟩:=List.mem_map.1 hy
 unfold rowT
 refine Byts.join (by intro c hc;simp [wordAnd] at hc;omega) (fun z hz=>?_)
 obtain ⟨x,hx,rfl⟩:=List.mem_map.1 hz
 exact relT_byts (h r hr x hx)
theorem condB_bytes {c:List (List Rl)}(h:∀ row ∈ c,∀ x ∈ row,NumR x):bytesOf (strOfNums (condT [32] c))=condT [32] c:=bytesOf_nums (condT_byts h)
end
section
def combR (pre:List (Rl×Bool))(d:Nat):Option (List (Rl×Bool))×Nat→Option (List (Rl×Bool))×Nat
  | (none,j)=>(none,d+j)
  | (some r,j)=>(some (pre ++ r),d+j)
theorem combR_combR (l m:List (Rl×Bool))(d e:Nat)(p:Option (List (Rl×Bool))×Nat):combR l d (combR m e p)=combR (l ++ m) (d+e) p:=by
 rcases p with ⟨_|r,j⟩
 · simp only [combR,Nat.add_assoc]
 simp only [combR,Nat.add_assoc,List.append_assoc]
theorem combR_nil (p:Option (List (Rl×Bool))×Nat):combR [] 0 p=p:=by rcases p with ⟨_|r,j⟩ <;> simp [combR]
theorem rels_none {t:List Int}{n:Nat}(h:relP t=(none,n)):relsP t=(none,n):=by rw [relsP_eq,h]
section
variable {t:List Int}{n:Nat}{x:Rl}(h:relP t=(some x,n))
include h
theorem rels_end (hu:t.drop (n+bl (t.drop n))=[]):relsP t=(some [(x,false)],n+bl (t.drop n)):=by
 rw [relsP_eq,h]
 simp only [hu,if_true]
theorem rels_or (hu:t.drop (n+bl (t.drop n))≠[])(hw:wordP (t.drop (n+bl (t.drop n)))=wordOr):relsP t=combR [(x,true)] (n+bl (t.drop n)+2) (relsP (t.drop (n+bl (t.drop n)+2))):=by
 rw [relsP_eq,h]
 simp only [if_neg hu,if_pos hw]
 rcases relsP (t.drop (n+bl (t.drop n)+2)) with ⟨_|r,j⟩ <;> rfl
theorem rels_and (hu:t.drop (n+bl (t.drop n))≠[])(hw:wordP (t.drop (n+bl (t.drop n)))=wordAnd):relsP t=combR [(x,false)] (n+bl (t.drop n)+3) (relsP (t.drop (n+bl (t.drop n)+3))):=by
 have hne:¬ wordP (t.drop (n+bl (t.drop n)))=wordOr:=by rw [hw];decide
 rw [relsP_eq,h]
 simp only [if_neg hu,if_neg hne,if_pos hw]
 rcases relsP (t.drop (n+bl (t.drop n)+3)) with ⟨_|r,j⟩ <;> rfl
theorem rels_bad (hu:t.drop (n+bl (t.drop n))≠[])(h1:wordP (t.drop (n+bl (t.drop n)))≠wordOr)(h2:wordP (t.drop (n+bl (t.drop n)))≠wordAnd):relsP t=(none,n+bl (t.drop n)):=by
 rw [relsP_eq,h]
 simp only [if_neg hu,if_neg h1,if_neg h2]
end
theorem rowsOf_pos (l:List Rl)(r:List (Rl×Bool)):0<(rowsOf l r).length:=by
 induction r generalizing l with
 | nil=>simp [rowsOf]
 | cons x r ih=>obtain ⟨x,_|_⟩:=x <;> simp [rowsOf,ih]
theorem rowsOf_len (l:List Rl)(r:List (Rl×Bool)):(rowsOf l r).length≤r.length+1:=by
 induction r generalizing l with
 | nil=>simp [rowsOf]
 | cons x r ih=>
  obtain ⟨x,_|_⟩:=x
  · have:=ih (l ++ [x]);simp [rowsOf];omega
  have:=ih [];simp [rowsOf];omega
theorem rowsOf_row (r:List (Rl×Bool)):∀ (l:List Rl) (i:Nat),((rowsOf l r).getD i []).length≤l.length+r.length:=by
 induction r with
 | nil=>
  intro l i
  cases i <;> simp [rowsOf]
 | cons x r ih=>
  intro l i
  obtain ⟨x,_|_⟩:=x
  ·have:=ih (l ++ [x]) i
   simp only [rowsOf]
   simp only [List.length_append,List.length_cons,List.length_nil] at this ⊢
   omega
  simp only [rowsOf]
  cases i with
  | zero=>simp
  | succ i=>
   rw [List.getD_cons_succ]
   have:=ih [] i
   simp only [List.length_cons,List.length_nil] at this ⊢
   omega
theorem rowsOf_and (x:Rl):∀ (pre:List (Rl×Bool)) (l:List Rl),rowsOf l (pre ++ [(x,false)])=(rowsOf l pre).set ((rowsOf l pre).length - 1) ((rowsOf l pre).getD ((rowsOf l pre).length - 1) [] ++ [x])
  | [],l=>by simp [rowsOf]
  | (y,false) :: pre,l=>by
    rw [List.cons_append]
    simp only [rowsOf]
    exact rowsOf_and x pre (l ++ [y])
  | (y,true) :: pre,l=>by
    have hp:=rowsOf_pos [] pre
    have hl:(rowsOf [] pre).length=((rowsOf [] pre).length - 1)+1:=by omega
    rw [List.cons_append]
    simp only [rowsOf]
    rw [rowsOf_and x pre [],List.length_cons,Nat.add_sub_cancel]
    conv=>rhs;rw [hl,List.set_cons_succ,List.getD_cons_succ]
theorem rowsOf_orr (x:Rl):∀ (pre:List (Rl×Bool)) (l:List Rl),rowsOf l (pre ++ [(x,true)])=rowsOf l (pre ++ [(x,false)]) ++ [[]]
  | [],l=>by simp [rowsOf]
  | (y,false) :: pre,l=>by
    rw [List.cons_append,List.cons_append]
    simp only [rowsOf]
    exact rowsOf_orr x pre (l ++ [y])
  | (y,true) :: pre,l=>by
    rw [List.cons_append,List.cons_append]
    simp only [rowsOf]
    rw [rowsOf_orr x pre []]
    rfl
theorem fullP_snoc (pre:List (Rl×Bool))(x:Rl)(o:Bool):fullP (pre ++ [(x,o)])=((fullP pre || decide (20<x.f3.length)) || decide (20<pre.length+1)):=by
 unfold fullP
 rw [List.any_append,List.length_append]
 simp only [List.any_cons,List.any_nil,Bool.or_false,List.length_cons,List.length_nil,Nat.zero_add]
 by_cases h:20<pre.length+1
 · simp [h]
 have:¬ 20<pre.length:=by omega
 simp [h,this]
theorem prefix_len':∀ {x t:List Int},x.isPrefixOf t=true→x.length≤t.length
  | [],_,_=>by simp
  | _ :: _,[],h=>by simp [List.isPrefixOf] at h
  | a :: x,b :: t,h=>by
    simp only [List.isPrefixOf,Bool.and_eq_true] at h
    have:=prefix_len' h.2
    simp;omega
theorem sign_len {x t:List Int}(h:signP x t=true):bl t+x.length≤t.length:=by
 have h2:bl t≤t.length:=runL_le isBl t
 unfold signP at h
 have:=prefix_len' h
 rw [List.length_drop] at this
 omega
theorem one_le {t:List Int}{r:Rg}{n:Nat}(h:oneP t=(some r,n)):n≤t.length:=by
 unfold oneP at h
 rcases h1:numP 0 t with ⟨_|a,m⟩
 · rw [h1] at h;cases h
 rw [h1] at h
 have ha:=num_pos' h1
 simp only at h
 split at h
 ·rename_i hs
  have hl:=sign_len hs
  rcases h2:numP (a+1) (t.drop (m+(bl (t.drop m)+2))) with ⟨_|b,j⟩
  · rw [h2] at h;cases h
  rw [h2] at h
  have hb:=num_pos' h2
  simp only [Prod.mk.injEq] at h
  simp only [List.length_drop,List.length_cons,List.length_nil] at hb hl
  omega
 simp only [Prod.mk.injEq] at h
 omega
theorem rng_le:∀ (f:Nat) (t:List Int) (l:List Rg) (n:Nat),rngF f t=(some l,n)→n≤t.length
  | 0,_,_,_,h=>by cases h
  | f+1,t,l,n,h=>by
    rw [rngF] at h
    rcases h1:oneP t with ⟨_|a,m⟩
    · rw [h1] at h;cases h
    rw [h1] at h
    have ha:=one_le h1
    simp only at h
    split at h
    · rename_i hs
      have hl:=sign_len hs
      rcases h2:rngF f (t.drop (m+(bl (t.drop m)+1))) with ⟨_|b,j⟩
      · rw [h2] at h;cases h
      rw [h2] at h
      have hb:=rng_le f _ _ _ h2
      simp only [Prod.mk.injEq] at h
      simp only [List.length_drop,List.length_cons,List.length_nil] at hb hl
      omega
    · simp only [Prod.mk.injEq] at h
      omega
theorem rel_le' {t:List Int}{x:Rl}{n:Nat}(h:relP t=(some x,n)):n≤t.length:=by
 unfold relP at h
 rcases h1:opP t with ⟨_|c,m⟩
 · rw [h1] at h;cases h
 rw [h1] at h
 have b1:m≤t.length:=by
  unfold opP at h1
  have hbl:bl t≤t.length:=runL_le isBl t
  have h3:=runL_le isLo (t.drop (bl t))
  rw [List.length_drop] at h3
  split at h1
  ·rename_i hc
   have:=congrArg Prod.snd h1
   simp only at this
   omega
  cases h1
 simp only at h
 rcases h2:modP (t.drop m) with ⟨_|v,j⟩
 · rw [h2] at h;cases h
 rw [h2] at h
 have b2:m+j≤t.length:=by
  unfold modP at h2
  split at h2
  ·rename_i hs
   have hl:=sign_len hs
   rcases h3:numP 1 ((t.drop m).drop (bl (t.drop m)+1)) with ⟨_|b,q⟩
   · rw [h3] at h2;cases h2
   rw [h3] at h2
   have hb:=num_pos' h3
   simp only [Prod.mk.injEq] at h2
   simp only [List.length_drop,List.length_cons,List.length_nil] at hb hl
   omega
  simp only [Prod.mk.injEq] at h2
  omega
 simp only at h
 rcases h3:notP (t.drop (m+j)) with ⟨_|b,i⟩
 · rw [h3] at h;cases h
 rw [h3] at h
 have b3:m+j+i≤t.length:=by
  unfold notP at h3
  split at h3
  ·rename_i hs
   have hl:=sign_len hs
   simp only [Prod.mk.injEq] at h3
   simp only [List.length_drop,List.length_cons,List.length_nil] at hl
   omega
  split at h3
  ·rename_i hs
   have hl:=sign_len hs
   simp only [Prod.mk.injEq] at h3
   simp only [List.length_drop,List.length_cons,List.length_nil] at hl
   omega
  cases h3
 simp only at h
 rcases h4:rngP (t.drop (m+j+i)) with ⟨_|l,q⟩
 · rw [h4] at h;cases h
 rw [h4] at h
 have b4:=rng_le _ _ _ _ h4
 simp only [Prod.mk.injEq] at h
 rw [List.length_drop] at b4
 omega
end
set_option maxHeartbeats 2000000 in
set_option maxRecDepth 100000 in
theorem in_1 (x:Rg)(gn:Nat)(n:Int)(W:World)(hn:W.cell? ⟨gn,0,none⟩=some (.int .i64 n)) :
    Calls Tryz.prog 82 #[.agg #[.int .i64 x.f0,.int .i64 x.f1],.pointer (some ⟨gn,0,none⟩)] W fun e w'=>e = .returned (.bool (decide (n≥x.f0) && decide (n≤x.f1)))∧Below W.heap.size W w':=by
 obtain ⟨a,b⟩:=x
 have z0:=fun o=>((below_alloc (Below.refl W.heap.size W) o).cell (World.block_lt_of_cell? W _ hn)).trans hn
 simp only
 cases h1:decide (n≥a) with
 | false=>
  go_enter Tryz.func82,Tryz.ntmps82
  go_wp2
  go_ret
  exact ⟨rfl,below_alloc (Below.refl _ _) _⟩
 | true=>
  go_enter Tryz.func82,Tryz.ntmps82
  go_wp2
  go_ret
  exact ⟨rfl,below_alloc (Below.refl _ _) _⟩
set_option maxHeartbeats 2000000 in
set_option maxRecDepth 100000 in
theorem in_2 (x:Rg)(gw gl:Nat)(wh:Bool)(A:Option Addr)(n c:Nat)(r:Bool)(W:World)(hw:W.cell? ⟨gw,0,none⟩=some (.bool wh))(hl:W.cell? ⟨gl,0,none⟩=some (.slice A n c))
    (hI:wh=true→∀ w',Below W.heap.size W w'→Calls Tryz.prog 84 #[.slice A n c,.int .i64 x.f0,.int .i64 x.f1] w' fun e w2=>e = .returned (.bool r)∧Below w'.heap.size w' w2) :
    Calls Tryz.prog 83 #[.agg #[.int .i64 x.f0,.int .i64 x.f1],.pointer (some ⟨gw,0,none⟩),.pointer (some ⟨gl,0,none⟩)] W fun e w'=>e = .returned (.bool (wh && r))∧Below W.heap.size W w':=by
 obtain ⟨a,b⟩:=x
 have z0:=fun o=>((below_alloc (Below.refl W.heap.size W) o).cell (World.block_lt_of_cell? W _ hw)).trans hw
 have z1:=fun o=>((below_alloc (Below.refl W.heap.size W) o).cell (World.block_lt_of_cell? W _ hl)).trans hl
 simp only at hI ⊢
 cases wh with
 | false=>
  clear hI
  go_enter Tryz.func83,Tryz.ntmps83
  go_wp2
  go_ret
  exact ⟨rfl,below_alloc (Below.refl _ _) _⟩
 | true=>
  have HI:=zA (hI rfl)
  clear hI
  go_enter Tryz.func83,Tryz.ntmps83
  go_wp2_with (go_at_call 84;(refine (HI.out _ (below_alloc (Below.refl _ _) _)).mono ?_);rintro e w5 ⟨rfl,hb5⟩;have hB:=below_step (below_alloc (Below.refl _ _) _) hb5;clear hb5)
  go_ret
  exact ⟨rfl,hB⟩
end Go.Proofs.YtgfajgkjbckkgaaGreatDoor.PZ
end
section
noncomputable section
namespace Go.Proofs.YtgfajgkjbckkgaaGreatDoor.PZ
open Go.RowKit Go.Proofs.YtgfajgkjbckkgaaGreatDoorW.PrintWords Go.Proofs.YtgfajgkjbckkgaaGreatDoorW.PrintLast Go.Proofs.YtgfajgkjbckkgaaGreatDoorW.PrintMore
attribute [local go_sem] max2_int min2_int max_two min_two max_three min_three max_four min_four   -- for this text's walks alone
end Go.Proofs.YtgfajgkjbckkgaaGreatDoor.PZ
end
end
section
noncomputable section
namespace Go.Proofs.YtgfajgkjbckkgaaGreatDoor.PZ
open Go.RowKit Go.Proofs.YtgfajgkjbckkgaaGreatDoorW.PrintWords Go.Proofs.YtgfajgkjbckkgaaGreatDoorW.PrintLast Go.Proofs.YtgfajgkjbckkgaaGreatDoorW.PrintMore
attribute [local go_sem] max2_int min2_int max_two min_two max_three min_three max_four min_four   -- for this text's walks alone
end Go.Proofs.YtgfajgkjbckkgaaGreatDoor.PZ
end
end
