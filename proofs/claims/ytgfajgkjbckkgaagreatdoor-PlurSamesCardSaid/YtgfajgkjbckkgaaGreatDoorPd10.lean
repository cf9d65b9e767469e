/- Texts of this seat, joined. Conditions: none beyond each statement's own. -/
import Derived.Test.YtgfajgkjbckkgaaGreatDoorPd07
import Derived.Test.YtgfajgkjbckkgaaGreatDoorPd08
set_option linter.all false
section
set_option maxRecDepth 100000
namespace Go.Proofs.YtgfajgkjbckkgaaGreatDoor.PZ
open Go.RowKit Go.Proofs.YtgfajgkjbckkgaaGreatDoorW.PrintWords Go.Proofs.YtgfajgkjbckkgaaGreatDoorW.PrintLast
theorem quiet_addS {P:Program}{f:FuncId}{args:Array Value}{w:World}{a n:Nat}{v:Value}
    (h:Calls P f args (w.drewN (a+n)) fun e w'=>e = .returned v∧w'=w.drewN (a+n)) :
    Calls P f args (w.drewN (a+n)) fun e w''=>e = .returned v∧∃ m,w''=w.drewN (a+m):=
  h.mono fun _ _ ⟨he,hm⟩=>⟨he,n,hm⟩
theorem bytes_cut (s:ByteArray)(a b:Nat):bytesOf (s.extract a b)=((bytesOf s).drop a).take (b - a):=by
 unfold bytesOf
 rw [ByteArray.data_extract,Array.toList_extract,List.extract_eq_take_drop,List.map_take,List.map_drop]
theorem bytes_end (s:ByteArray)(a:Nat):bytesOf (s.extract a s.size)=(bytesOf s).drop a:=by
 rw [bytes_cut,List.take_of_length_le (by rw [List.length_drop,bytesOf_length];exact Nat.le_refl _)]
theorem prefix_map:∀ (x t:List UInt8),(x.map fun b=>(b.toNat:Int)).isPrefixOf (t.map fun b=>(b.toNat:Int))=x.isPrefixOf t
  | [],_=>by simp
  | _ :: _,[]=>by simp [List.isPrefixOf]
  | a :: x,b :: t=>by
    simp only [List.map_cons,List.isPrefixOf]
    rw [prefix_map x t]
    congr 1
    rw [Bool.eq_iff_iff]
    simp [← UInt8.toNat_inj]
    omega
theorem has_sign (s x:ByteArray)(A:Nat):Lib.hasPrefix (s.extract A s.size).data.toList x.data.toList=(bytesOf x).isPrefixOf ((bytesOf s).drop A):=by
 rw [← bytes_end]
 unfold Lib.hasPrefix bytesOf
 rw [prefix_map]
theorem prefix_len:∀ {x t:List Int},x.isPrefixOf t=true→x.length≤t.length
  | [],_,_=>by simp
  | _ :: _,[],h=>by simp [List.isPrefixOf] at h
  | a :: x,b :: t,h=>by
    simp only [List.isPrefixOf,Bool.and_eq_true] at h
    have:=prefix_len h.2
    simp;omega
theorem bl_drop (s:ByteArray)(a:Nat):((bytesOf s).drop a).drop (bl ((bytesOf s).drop a))=(bytesOf s).drop (a+bl ((bytesOf s).drop a)):=List.drop_drop ..
def hasTo (x s:ByteArray)(a:Nat):Nat:=if signP (bytesOf x) ((bytesOf s).drop a) then a+bl ((bytesOf s).drop a)+x.size else a+bl ((bytesOf s).drop a)
theorem hasTo_le (x s:ByteArray)(a:Nat)(ha:a≤s.size):hasTo x s a≤s.size:=by
 have hA:=run_size isBl s a ha
 change a+bl ((bytesOf s).drop a)≤s.size at hA
 unfold hasTo
 split
 ·rename_i h
  unfold signP at h
  rw [bl_drop] at h
  have:=prefix_len h
  rw [List.length_drop,bytesOf_length,bytesOf_length] at this
  omega
 exact hA
set_option maxHeartbeats 2000000 in
set_option maxRecDepth 100000 in
theorem rd_has (x:ByteArray)(g:Nat)(s:ByteArray)(a:Nat)(b:Bool)(W:World)(h:Rdr W g s a b)(ha:a≤s.size)(hs:s.size≤140737488351232) :
    Calls Tryz.prog 90 #[.pointer (some ⟨g,0,none⟩),.string x] W fun e W'=>
      e = .returned (.bool (signP (bytesOf x) ((bytesOf s).drop a)))∧RdTo W g s (hasTo x s a) b W':=by
 have hS:=rd_skip g s a b W h ha hs
 have hH:=hasTo_le x s a ha
 have hA:=run_size isBl s a ha
 change a+bl ((bytesOf s).drop a)≤s.size at hA
 have hP:=fun w=>Tryz.strings_HasPrefix (s.extract (a+bl ((bytesOf s).drop a)) s.size) x w
 rw [has_sign,← bl_drop] at hP
 change ∀ w,Calls _ _ _ w fun e w'=>e = .returned (.bool (signP (bytesOf x) ((bytesOf s).drop a)))∧w'=w at hP
 unfold hasTo at hH ⊢
 obtain ⟨A,hA2⟩:∃ A,a+bl ((bytesOf s).drop a)=A:=⟨_,rfl⟩
 rw [hA2] at hS hA hP hH ⊢
 obtain ⟨r,hr⟩:∃ r,signP (bytesOf x) ((bytesOf s).drop a)=r:=⟨_,rfl⟩
 rw [hr] at hP hH ⊢
 have HP:=zA hP
 have e6:(0≤(A:Int))=True:=eq_true (by omega)
 have e7:(A:Int).toNat=A:=by omega
 have e8:(A≤s.size)=True:=eq_true hA
 have e9:((A:Int)≤(s.size:Int))=True:=eq_true (by omega)
 clear h hA2 hr hP
 cases r with
 | true=>
  simp only [if_true] at hH ⊢
  go_enter Tryz.func90,Tryz.ntmps90
  go_wp2_with (go_at_call 111;refine hS.mono ?_;rintro e W1 ⟨rfl,hr1⟩;have HR:=zA hr1;obtain ⟨c0,c1,c2,f1,f2⟩:=hr1.1.c;clear hr1)
  clear hS
  repeat (go_quiet ((go_at_call 112;first|exact quiet_addS (HP.out _)|exact Calls.quiet_of_same (HP.out _)));try go_wp2)
  go_ret
  exact ⟨rfl,(HR.out.drew _).put (by omega)⟩
 | false=>
  simp only [Bool.false_eq_true,if_false]
  go_enter Tryz.func90,Tryz.ntmps90
  go_wp2_with (go_at_call 111;refine hS.mono ?_;rintro e W1 ⟨rfl,hr1⟩;have HR:=zA hr1;obtain ⟨c0,c1,c2,f1,f2⟩:=hr1.1.c;clear hr1)
  clear hS
  repeat (go_quiet ((go_at_call 112;first|exact quiet_addS (HP.out _)|exact Calls.quiet_of_same (HP.out _)));try go_wp2)
  go_ret
  exact ⟨rfl,HR.out.drew _⟩
set_option maxHeartbeats 1000000 in
theorem rd_word (g:Nat)(s:ByteArray)(a:Nat)(b:Bool)(W:World)(h:Rdr W g s a b)(ha:a≤s.size)(hs:s.size≤140737488351232) :
    Calls Tryz.prog 67 #[.pointer (some ⟨g,0,none⟩)] W fun e W'=>
      e = .returned (.string (s.extract (a+bl ((bytesOf s).drop a)) (farTo isLo s a)))∧RdTo W g s (a+bl ((bytesOf s).drop a)) b W':=by
 have hF:=rd_far 93 isLo fv_low (enters_of Tryz.func93 (by kernel_rfl) rfl) g s a b W h ha hs
 clear h
 generalize s.extract (a+bl ((bytesOf s).drop a)) (farTo isLo s a)=q at *
 generalize a+bl ((bytesOf s).drop a)=A at *
 go_enter Tryz.func67,Tryz.ntmps67
 go_wp2_with (go_at_call 92;refine hF.mono ?_;rintro e W1 ⟨rfl,hr1⟩)
 go_ret
 exact ⟨rfl,hr1⟩
theorem cut_one (s:ByteArray)(A:Nat)(h:A<s.size):∃ c:UInt8,s.extract A (A+1)=⟨#[c]⟩∧(c.toNat:Int)=bt s (A:Int):=by
 refine ⟨s[A],?_,bt_nat s A h⟩
 have hsz:(s.extract A (A+1)).size=1:=by rw [ByteArray.size_extract];omega
 apply ByteArray.ext
 apply Array.ext
 · exact hsz
 intro i h1 h2
 have:i=0:=by simp at h2;omega
 subst this
 simp [ByteArray.data_extract]
 rfl
theorem names_op (c:UInt8):decide (0≤Lib.indexByte [110,105,118,119,102,116,99,101] c)=isOp (c.toNat:Int):=by
 have hc:c=UInt8.ofNat c.toNat:=by simp
 by_cases h:c.toNat=110∨c.toNat=105∨c.toNat=118∨c.toNat=119∨c.toNat=102∨c.toNat=116∨c.toNat=99∨c.toNat=101
 · rcases h with h|h|h|h|h|h|h|h <;> (rw [hc,h];rfl)
 simp only [not_or] at h
 obtain ⟨h1,h2,h3,h4,h5,h6,h7,h8⟩:=h
 have ne:∀ k:UInt8,c.toNat≠k.toNat→(k == c)=false:=fun k hk=>by
  rw [beq_eq_false_iff_ne]
  intro z;exact hk (by rw [z])
 have e1:=ne 110 h1
 have e2:=ne 105 h2
 have e3:=ne 118 h3
 have e4:=ne 119 h4
 have e5:=ne 102 h5
 have e6:=ne 116 h6
 have e7:=ne 99 h7
 have e8:=ne 101 h8
 have l:Lib.indexByte [110,105,118,119,102,116,99,101] c = -1:=by
  simp [Lib.indexByte,e1,e2,e3,e4,e5,e6,e7,e8]
 rw [l]
 unfold isOp
 simp
 omega
section
attribute [local go_sem high] eqA57
set_option maxHeartbeats 2000000 in
set_option maxRecDepth 100000 in
theorem eq_rgs (A0:Option Addr)(c0:Nat)(l0:List Rg)(A1:Option Addr)(c1:Nat)(l1:List Rg)(w:World)
    (h0:Kd.C k57 w A0 l0.length l0) (hc0:l0.length≤c0) (h1:Kd.C k57 w A1 l1.length l1) (hc1:l1.length≤c1) :
    Calls Tryz.prog 74 #[.slice A0 l0.length c0,.slice A1 l1.length c1] w fun e w'=>e = .returned (.bool (decide (l0=l1)))∧∃ n,w'=w.drewN n:=by
 have hn:=h0.2.1
 have L0:=zA h0
 have L1:=zA h1
 clear h0 h1
 by_cases hl:l0.length=l1.length
 rotate_left
 ·have g2:((l0.length:Int) != (l1.length:Int))=true:=by simp;omega
  have g3:((l0.length:Int) == (l1.length:Int))=false:=by simp;omega
  have HN:=zA (show l0≠l1 from fun e=>hl (by rw [e]))
  clear hl
  go_enter Tryz.func74,Tryz.ntmps74
  go_wp2
  repeat (go_quiet (fail);try go_wp2)
  go_ret
  exact ⟨by rw [zD HN.out];rfl,0,by first|rfl|exact (World.drewN_zero _).symm⟩
 have g1:decide ((l0.length:Int)=(l1.length:Int))=true:=zC (by omega)
 have g2:((l0.length:Int) != (l1.length:Int))=false:=by rw [hl];simp
 have g3:((l0.length:Int) == (l1.length:Int))=true:=by rw [hl];simp
 have HL:=zA hl
 clear hl
 go_enter Tryz.func74,Tryz.ntmps74
 go_wp2
 repeat (go_quiet (fail);try go_wp2)
 go_loopg [5,13] l0.length (fun gg _ s13 wr=>∃ k n:Nat,k≤l0.length∧l0.length - k≤gg∧s13 = .int .i64 k∧wr=w.drewN n∧Aside0 (l0.take k=l1.take k))
 case atStart=>exact ⟨0,0,by omega,by omega,rfl,rfl,⟨rfl⟩⟩
 case round=>
  obtain ⟨k,n,hk,hg,rfl,rfl,HT⟩:=hrel
  by_cases hlt:k<l0.length
  rotate_left
  ·have j1:decide ((k:Int)<(l0.length:Int))=false:=zD (by omega)
   go_wp2
   repeat (go_quiet (fail);try go_wp2)
   go_ret
   refine ⟨?_,n,rfl⟩
   rw [zC (same_end HL.out (by omega) HT.out)]
   rfl
  have j1:decide ((k:Int)<(l0.length:Int))=true:=zC (by omega)
  obtain ⟨ad,rfl,x0,x1⟩:=rg_at L0.out k hlt
  obtain ⟨ae,rfl,y0,y1⟩:=rg_at L1.out k (by rw [← HL.out];exact hlt)
  generalize hX:l0.getD k ⟨0,0⟩=X at *
  generalize hY:l1.getD k ⟨0,0⟩=Y at *
  obtain ⟨X0,X1⟩:=X
  obtain ⟨Y0,Y1⟩:=Y
  go_wp2
  have p0:(0≤(k:Int))=True:=eq_true (by omega)
  have m2:decide (k<l0.length)=true:=zC hlt
  have m3:((k:Int)<(l0.length:Int))=True:=eq_true (by omega)
  have m4:(k<l0.length)=True:=eq_true hlt
  have hlt1:k<l1.length:=by rw [← HL.out];exact hlt
  have n1:decide ((k:Int)<(l1.length:Int))=true:=zC (by omega)
  have n2:decide (k<l1.length)=true:=zC hlt1
  have n3:((k:Int)<(l1.length:Int))=True:=eq_true (by omega)
  have n4:(k<l1.length)=True:=eq_true hlt1
  cases hq:(X0 == Y0 && (X1 == Y1)) with
  | false=>
   repeat (go_quiet (fail);try go_wp2)
   go_ret
   refine ⟨?_,n+nq,World.drewN_drewN _ _ _⟩
   have hne:l0≠l1:=same_not (⟨0,0⟩:Rg) (k:=k) (by
    rw [hX,hY]
    intro e
    rw [S57.mk.injEq] at e
    simp [e.1,e.2] at hq)
   rw [zD hne]
   rfl
  | true=>
   simp only [Bool.and_eq_true,beq_iff_eq] at hq
   obtain ⟨rfl,rfl⟩:=hq
   have hq:(X0 == X0 && (X1 == X1))=true:=by simp
   repeat (go_quiet (fail);try go_wp2)
   go_roundg (l0.length - (k+1))
   case measure=>omega
   case rel=>exact ⟨k+1,n+nq,by omega,by omega,rfl,by first|rfl|exact World.drewN_drewN _ _ _,⟨same_more (⟨0,0⟩:Rg) HL.out hlt HT.out (by rw [hX,hY])⟩⟩
set_option maxHeartbeats 4000000 in
set_option maxRecDepth 100000 in
theorem same_rel (a b:Rl)(A0:Option Addr)(c0:Nat)(A1:Option Addr)(c1:Nat)(w:World)
    (h0:Kd.C k57 w A0 a.f3.length a.f3) (hc0:a.f3.length≤c0) (h1:Kd.C k57 w A1 b.f3.length b.f3) (hc1:b.f3.length≤c1) :
    Calls Tryz.prog 55 #[.agg #[.int .u8 a.f0,.int .i64 a.f1,.bool a.f2,.slice A0 a.f3.length c0],.agg #[.int .u8 b.f0,.int .i64 b.f1,.bool b.f2,.slice A1 b.f3.length c1]] w fun e w'=>e = .returned (.bool (decide (a=b)))∧Below w.heap.size w w':=by
 obtain ⟨a0,a1,a2,a3⟩:=a
 obtain ⟨b0,b1,b2,b3⟩:=b
 simp only at h0 h1 hc0 hc1 ⊢
 have HE:=zA (fun W (hb:Below w.heap.size w W)=>eq_rgs A0 c0 a3 A1 c1 b3 W (Kd.C_below h0 hb) hc0 (Kd.C_below h1 hb) hc1)
 clear h0 h1 hc0 hc1
 cases q0:(a0 == b0) with
 | false=>
  go_enter Tryz.func55,Tryz.ntmps55
  go_wp2
  go_ret
  refine ⟨?_,?_⟩
  ·rw [zD (by intro e;simp only [S60.mk.injEq] at e;simp [e.1,e.2.1,e.2.2.1] at q0)]
   rfl
  repeat (first|exact Below.refl _ _|apply below_alloc)
 | true=>
  cases q1:(a1 == b1) with
  | false=>
   go_enter Tryz.func55,Tryz.ntmps55
   go_wp2
   go_ret
   refine ⟨?_,?_⟩
   ·rw [zD (by intro e;simp only [S60.mk.injEq] at e;simp [e.1,e.2.1,e.2.2.1] at q1)]
    rfl
   repeat (first|exact Below.refl _ _|apply below_alloc)
  | true=>
   cases q2:(a2 == b2) with
   | false=>
    go_enter Tryz.func55,Tryz.ntmps55
    go_wp2
    go_ret
    refine ⟨?_,?_⟩
    ·rw [zD (by intro e;simp only [S60.mk.injEq] at e;simp [e.1,e.2.1,e.2.2.1] at q2)]
     rfl
    repeat (first|exact Below.refl _ _|apply below_alloc)
   | true=>
    go_enter Tryz.func55,Tryz.ntmps55
    go_wp2_with (go_at_call 74;(refine (HE.out _ (below_alloc (below_alloc (Below.refl _ _) _) _)).mono ?_);rintro e w5 ⟨rfl,nq,rfl⟩)
    go_ret
    refine ⟨?_,?_⟩
    ·have e0:=eq_of_beq q0
     have e1:=eq_of_beq q1
     have e2:=eq_of_beq q2
     subst e0 e1 e2
     simp only [S60.mk.injEq,true_and]
     rfl
    exact pw_below_drewN (below_alloc (below_alloc (Below.refl _ _) _) _) _
end
theorem runL_stop (p:Int→Bool):∀ t:List Int,runL p (t.drop (runL p t))=0
  | []=>rfl
  | c :: t=>by
    rw [runL_cons]
    split
    · rw [List.drop_succ_cons];exact runL_stop p t
    · rename_i h
      rw [List.drop_zero,runL_cons,if_neg h]
theorem bl_bl (t:List Int):bl (t.drop (bl t))=0:=runL_stop _ _
theorem sign_skip (x t:List Int):signP x (t.drop (bl t))=signP x t:=by
 unfold signP
 rw [bl_bl,List.drop_zero]
theorem num_pos' {least:Int}{t:List Int}{v:Int}{n:Nat}(h:numP least t=(some v,n)):0<n∧n≤t.length:=by
 unfold numP at h
 simp only at h
 split at h
 · cases h
 rename_i hn
 simp only [not_or] at hn
 have h1:=runL_le isDi (t.drop (bl t))
 have h2:=runL_le isBl t
 change bl t≤_ at h2
 rw [List.length_drop] at h1
 have:=congrArg Prod.snd h
 simp only at this
 omega
theorem one_pos {t:List Int}{r:Rg}{n:Nat}(h:oneP t=(some r,n)):0<n∧0<t.length:=by
 unfold oneP at h
 rcases h1:numP 0 t with ⟨_|a,m⟩
 · rw [h1] at h;cases h
 rw [h1] at h
 have ha:=num_pos' h1
 simp only at h
 split at h
 ·rcases h2:numP (a+1) (t.drop (m+(bl (t.drop m)+2))) with ⟨_|b,j⟩
  · rw [h2] at h;cases h
  rw [h2] at h
  simp only [Prod.mk.injEq] at h
  omega
 simp only [Prod.mk.injEq] at h
 omega
theorem rngF_any:∀ (f f':Nat) (t:List Int),t.length<f→t.length<f'→rngF f t=rngF f' t
  | 0,_,_,h,_=>by omega
  | _+1,0,_,_,h=>by omega
  | f+1,f'+1,t,h,h'=>by
    rw [rngF,rngF]
    rcases h1:oneP t with ⟨_|a,n⟩
    · rfl
    have:=one_pos h1
    simp only
    split
    · rw [rngF_any f f' (t.drop (n+(bl (t.drop n)+1))) (by rw [List.length_drop];omega) (by rw [List.length_drop];omega)]
    · rfl
theorem rngP_eq (t:List Int):rngP t=match oneP t with
    | (none,n)=>(none,n)
    | (some r,n)=>if signP [44] (t.drop n) then
        match rngP (t.drop (n+(bl (t.drop n)+1))) with
        | (none,j)=>(none,n+(bl (t.drop n)+1)+j)
        | (some l,j)=>(some (r :: l),n+(bl (t.drop n)+1)+j)
      else (some [r],n):=by
 conv=>lhs;unfold rngP
 rw [rngF]
 rcases h1:oneP t with ⟨_|a,n⟩
 · rfl
 have:=one_pos h1
 simp only
 split
 ·unfold rngP
  rw [rngF_any t.length _ (t.drop (n+(bl (t.drop n)+1))) (by rw [List.length_drop];omega) (Nat.lt_add_one _)]
  rfl
 rfl
theorem op_pos {t:List Int}{v:Int}{n:Nat}(h:opP t=(some v,n)):0<n∧0<t.length:=by
 unfold opP at h
 split at h
 ·rename_i hc
  have h1:=runL_le isLo (t.drop (bl t))
  rw [List.length_drop] at h1
  simp only [Prod.mk.injEq] at h
  omega
 cases h
theorem rel_pos {t:List Int}{x:Rl}{n:Nat}(h:relP t=(some x,n)):0<n∧0<t.length:=by
 unfold relP at h
 rcases h1:opP t with ⟨_|c,m⟩
 · rw [h1] at h;cases h
 rw [h1] at h
 have:=op_pos h1
 simp only at h
 rcases h2:modP (t.drop m) with ⟨_|v,j⟩
 · rw [h2] at h;cases h
 rw [h2] at h
 simp only at h
 rcases h3:notP (t.drop (m+j)) with ⟨_|b,i⟩
 · rw [h3] at h;cases h
 rw [h3] at h
 simp only at h
 rcases h4:rngP (t.drop (m+j+i)) with ⟨_|l,q⟩
 · rw [h4] at h;cases h
 rw [h4] at h
 simp only [Prod.mk.injEq] at h
 omega
theorem relsF_any:∀ (f f':Nat) (t:List Int),t.length<f→t.length<f'→relsF f t=relsF f' t
  | 0,_,_,h,_=>by omega
  | _+1,0,_,_,h=>by omega
  | f+1,f'+1,t,h,h'=>by
    rw [relsF,relsF]
    rcases h1:relP t with ⟨_|a,n⟩
    · rfl
    have:=rel_pos h1
    simp only
    rw [relsF_any f f' (t.drop (n+bl (t.drop n)+2)) (by rw [List.length_drop];omega) (by rw [List.length_drop];omega)]
    rw [relsF_any f f' (t.drop (n+bl (t.drop n)+3)) (by rw [List.length_drop];omega) (by rw [List.length_drop];omega)]
theorem relsP_eq (t:List Int):relsP t=match relP t with
    | (none,n)=>(none,n)
    | (some x,n)=>
      if t.drop (n+bl (t.drop n))=[] then (some [(x,false)],n+bl (t.drop n))
      else if wordP (t.drop (n+bl (t.drop n)))=wordOr then
        match relsP (t.drop (n+bl (t.drop n)+2)) with
        | (none,j)=>(none,n+bl (t.drop n)+2+j)
        | (some l,j)=>(some ((x,true) :: l),n+bl (t.drop n)+2+j)
      else if wordP (t.drop (n+bl (t.drop n)))=wordAnd then
        match relsP (t.drop (n+bl (t.drop n)+3)) with
        | (none,j)=>(none,n+bl (t.drop n)+3+j)
        | (some l,j)=>(some ((x,false) :: l),n+bl (t.drop n)+3+j)
      else (none,n+bl (t.drop n)):=by
 conv=>lhs;unfold relsP
 rw [relsF]
 rcases h1:relP t with ⟨_|a,n⟩
 · rfl
 have:=rel_pos h1
 simp only
 unfold relsP
 rw [relsF_any t.length _ (t.drop (n+bl (t.drop n)+2)) (by rw [List.length_drop];omega) (Nat.lt_add_one _)]
 rw [relsF_any t.length _ (t.drop (n+bl (t.drop n)+3)) (by rw [List.length_drop];omega) (Nat.lt_add_one _)]
 rfl
section
structure RPSt (W:World)(m:Nat)(vc:Value)(c:List (List Rl))(vr:Value)(row:List Rl)(wr:World):Prop where
  b:Below W.heap.size W wr
  lo:W.heap.size≤m
  hi:m≤wr.heap.size
  hc:Kd.R (Kd.slice 60 k60) 61 wr W.heap.size (fun k=>k<m) vc c
  hr:Kd.R k60 60 wr m (fun k=>m≤k) vr row
section
variable {W wr w2:World}{m:Nat}{vc vr v':Value}{c:List (List Rl)}{row row':List Rl}
theorem RPSt.start (W:World):RPSt W W.heap.size (.slice none 0 0) [] (.slice none 0 0) [] W:=⟨Below.refl _ _,Nat.le_refl _,Nat.le_refl _,Kd.R_nil _ _ _ _ _,Kd.R_nil _ _ _ _ _⟩
theorem RPSt.call (h:RPSt W m vc c vr row wr)(hb:Below wr.heap.size wr w2):RPSt W m vc c vr row w2:=
  ⟨below_step h.b hb,h.lo,Nat.le_trans h.hi hb.size,Kd.R_below h.hc hb,Kd.R_below h.hr hb⟩
theorem RPSt.rel (h:RPSt W m vc c vr row wr)(hr:Kd.R k60 60 w2 m (fun k=>m≤k) v' row')(hb:Below W.heap.size W w2)(hg:wr.grownBy w2 vr.ownBlock):RPSt W m vc c v' row' w2 where
  b:=hb
  lo:=h.lo
  hi:=Nat.le_trans h.hi hg.size
  hc:=Kd.R_grown h.hc hg (fun k hk e=>by
    have:=h.hr.1 k e.symm
    omega)
  hr:=hr
theorem RPSt.elem (h:RPSt W m vc c vr row wr):(Kd.slice 60 k60).M wr W.heap.size (fun k=>m≤k) row [vr]:=⟨vr,rfl,Kd.R_lower h.hr h.lo⟩
theorem RPSt.apart (h:RPSt W m vc c vr row wr):∀ k,m≤k→True∧some k≠vc.ownBlock:=fun k hk=>⟨trivial,fun e=>by have:=h.hc.1 k e.symm;omega⟩
theorem RPSt.rows (h:RPSt W m vc c vr row wr):Kd.R (Kd.slice 60 k60) 61 wr W.heap.size (fun _=>True) vc c:=Kd.R_mono h.hc (fun _ _=>trivial)
end
structure RPX (W:World)(m:Nat)(vc:Value)(c:List (List Rl))(vr:Value)(row:List Rl)(x:Rl)(v3:Value)(N gx:Nat)(wr:World):Prop where
  st:RPSt W m vc c vr row wr
  bx:wr.heap[gx]?=some (.cells #[.int .u8 x.f0,.int .i64 x.f1,.bool x.f2,v3] 60 (0,0))
  rg:Kd.R k57 57 wr N (fun _=>True) v3 x.f3
  n0:∀ k,vr.ownBlock=some k→k<N
  nm:m≤N
theorem RPSt.read {W wr w5:World}{m:Nat}{vc vr v3:Value}{c:List (List Rl)}{row:List Rl}{x:Rl}(h:RPSt W m vc c vr row wr)(hb:Below wr.heap.size wr w5)(hr:Kd.R k57 57 w5 wr.heap.size (fun _=>True) v3 x.f3) :
    RPX W m vc c vr row x v3 wr.heap.size w5.heap.size (w5.alloc (.cells #[.int .u8 x.f0,.int .i64 x.f1,.bool x.f2,v3] 60)) where
  st:=(h.call hb).call (below_alloc (Below.refl _ _) _)
  bx:=heap_alloc_new w5 _
  rg:=Kd.R_alloc hr _
  n0:=fun k hk=>((Kd.R_bound h.hr).1 k hk).2.2.1
  nm:=h.hi
theorem RPX.done_ {W wr w1:World}{m:Nat}{vc vr v3 v1:Value}{c:List (List Rl)}{row:List Rl}{x:Rl}{N gx:Nat}(h:RPX W m vc c vr row x v3 N gx wr)(ho:Kd.R k60 60 w1 m (fun k=>m≤k) v1 (row ++ [x]))(hb:Below m wr w1)(hg:wr.grownBy w1 vr.ownBlock):RPSt W m vc c v1 (row ++ [x]) w1:=
  h.st.rel ho (h.st.b.trans (hb.mono h.st.lo)) hg
end
end Go.Proofs.YtgfajgkjbckkgaaGreatDoor.PZ
end
section
noncomputable section
namespace Go.Proofs.YtgfajgkjbckkgaaGreatDoor.PZ
open Go.RowKit Go.Proofs.YtgfajgkjbckkgaaGreatDoorW.PrintWords Go.Proofs.YtgfajgkjbckkgaaGreatDoorW.PrintLast Go.Proofs.YtgfajgkjbckkgaaGreatDoorW.PrintMore
attribute [local go_sem] max2_int min2_int max_two min_two max_three min_three max_four min_four   -- for this text's walks alone
def oper_told_v.f (ac:List Int)(aa:List Int)(ae:Int)(af:Int):Option (List Int):=(oper_number.f (aa.length:Int)).bind fun ad=>(some ad)
set_option maxHeartbeats 8000000 in
set_option maxRecDepth 100000 in
theorem oper_told_v.calls (ak:Option Addr)(al:Nat)(ac:List Int)(am:Option Addr)(an:Nat)(aa:List Int)(ae:Int)(af:Int)(r:List Int)(w:World)(hG:GL w)(ag:Kd.C (Kd.int .u8) w ak ac.length ac)(ah:ac.length≤al)(ai:Kd.C (Kd.int .u8) w am aa.length aa)(aj:aa.length≤an)(h:oper_told_v.f ac aa ae af=some r) :
  Calls Tryz.prog 102 #[.agg #[.slice ak ac.length al,.slice am aa.length an,.int .i64 ae,.int .i64 af]] w fun e w'=>∃ v0_:Value,e = .returned (v0_)∧Kd.V (Kd.int .u8) 5 w' w.heap.size (fun k_=>(w.heap.size≤k_)) v0_ r∧Below w.heap.size w w':=by
 have hu136:=Tryz.underlying136
 have aq:=zS ag
 have ar:=zS ah
 clear ag ah
 have au:=zS ai
 have av:=zS aj
 clear ai aj
 have HB:=zS (Below.refl w.heap.size w)
 have HG:=zS hG
 clear hG
 have H:((oper_number.f (aa.length:Int)).bind fun ad=>(some ad))=some r:=h
 clear h
 replace H:=Option.bind_eq_some_iff.mp H
 obtain ⟨ad,A20,H⟩:=H
 try dsimp only at H
 have A2:=zS A20
 clear A20
 obtain rfl:=zE H
 go_enter Tryz.func102,Tryz.ntmps102
 go_wp2_with (first|((with_reducible refine gate_dst (N:=1) rfl ?_);refine box_event ?hg (N:=1) ?hd (cs:=#[.slice ak ac.length al,.slice am aa.length an,.int .i64 ae,.int .i64 af]) (t:=136) ?hr ?_;(case hd=>rfl);(case hg=>rfl);(case hr=>first|(go_simp;done)|(go_simp;rfl));intro ao hg w3 hbox hb;have ab:=zS (hbox);have aw:=bg HB hg;replace HB:=bs HB hb;clear hb hbox hg;have ax:=blkc4 ab.out;have ay:=blkf4 ab.out)|((with_reducible refine gate_callee (f:=109) rfl ?_);refine gL (some 6) Tryz.func109 #[.int .i64 (aa.length:Int)] ?_;(with_reducible refine (oper_number.calls (aa.length:Int) ad _ ?side1 A2.out).mono ?_);(case side1=>refine GL.below HG.out ?_;exact bQ HB);rintro e w5 ⟨az,rfl,ho0,hb⟩;refine ⟨_,rfl,?_⟩;have ap:=zS (Kd.V_lower (Kd.V_mono (ok':=fun k_=>(w.heap.size≤k_)∧k_≠ao) ho0 (fun k_ hk_=>⟨(Nat.le_trans (bz HB) hk_),(Kd.freshB (ko ab) k_ hk_)⟩)) (bz HB));replace ab:=kb ab hb;replace HB:=bs HB hb;(try clear hb);(try clear ho0)))
 go_ret
 exact ⟨_,by first|rfl|(simp <;> rfl)|(simp [*] <;> rfl),by (with_reducible repeat (first|apply Kd.V_alloc|apply Kd.V_drewN|apply Kd.V_drew));exact Kd.V_mono ap.out (fun _ hk=>hk.1),bQ HB⟩
end Go.Proofs.YtgfajgkjbckkgaaGreatDoor.PZ
end
end
section
noncomputable section
namespace Go.Proofs.YtgfajgkjbckkgaaGreatDoor.PZ
open Go.RowKit Go.Proofs.YtgfajgkjbckkgaaGreatDoorW.PrintWords Go.Proofs.YtgfajgkjbckkgaaGreatDoorW.PrintLast Go.Proofs.YtgfajgkjbckkgaaGreatDoorW.PrintMore
attribute [local go_sem] max2_int min2_int max_two min_two max_three min_three max_four min_four   -- for this text's walks alone
def oper_told_w.f (ac:List Int)(ad:List Int)(aa:Int)(af:Int):Option (List Int):=(oper_number.f aa).bind fun ae=>(some ae)
set_option maxHeartbeats 8000000 in
set_option maxRecDepth 100000 in
theorem oper_told_w.calls (ak:Option Addr)(al:Nat)(ac:List Int)(am:Option Addr)(an:Nat)(ad:List Int)(aa:Int)(af:Int)(r:List Int)(w:World)(hG:GL w)(ag:Kd.C (Kd.int .u8) w ak ac.length ac)(ah:ac.length≤al)(ai:Kd.C (Kd.int .u8) w am ad.length ad)(aj:ad.length≤an)(h:oper_told_w.f ac ad aa af=some r) :
  Calls Tryz.prog 103 #[.agg #[.slice ak ac.length al,.slice am ad.length an,.int .i64 aa,.int .i64 af]] w fun e w'=>∃ v0_:Value,e = .returned (v0_)∧Kd.V (Kd.int .u8) 5 w' w.heap.size (fun k_=>(w.heap.size≤k_)) v0_ r∧Below w.heap.size w w':=by
 have hu136:=Tryz.underlying136
 have aq:=zS ag
 have ar:=zS ah
 clear ag ah
 have au:=zS ai
 have av:=zS aj
 clear ai aj
 have HB:=zS (Below.refl w.heap.size w)
 have HG:=zS hG
 clear hG
 have H:((oper_number.f aa).bind fun ae=>(some ae))=some r:=h
 clear h
 replace H:=Option.bind_eq_some_iff.mp H
 obtain ⟨ae,A20,H⟩:=H
 try dsimp only at H
 have A2:=zS A20
 clear A20
 obtain rfl:=zE H
 go_enter Tryz.func103,Tryz.ntmps103
 go_wp2_with (first|((with_reducible refine gate_dst (N:=1) rfl ?_);refine box_event ?hg (N:=1) ?hd (cs:=#[.slice ak ac.length al,.slice am ad.length an,.int .i64 aa,.int .i64 af]) (t:=136) ?hr ?_;(case hd=>rfl);(case hg=>rfl);(case hr=>first|(go_simp;done)|(go_simp;rfl));intro ao hg w3 hbox hb;have ab:=zS (hbox);have aw:=bg HB hg;replace HB:=bs HB hb;clear hb hbox hg;have ax:=blkc4 ab.out;have ay:=blkf4 ab.out)|((with_reducible refine gate_callee (f:=109) rfl ?_);refine gL (some 5) Tryz.func109 #[.int .i64 aa] ?_;(with_reducible refine (oper_number.calls aa ae _ ?side1 A2.out).mono ?_);(case side1=>refine GL.below HG.out ?_;exact bQ HB);rintro e w5 ⟨az,rfl,ho0,hb⟩;refine ⟨_,rfl,?_⟩;have ap:=zS (Kd.V_lower (Kd.V_mono (ok':=fun k_=>(w.heap.size≤k_)∧k_≠ao) ho0 (fun k_ hk_=>⟨(Nat.le_trans (bz HB) hk_),(Kd.freshB (ko ab) k_ hk_)⟩)) (bz HB));replace ab:=kb ab hb;replace HB:=bs HB hb;(try clear hb);(try clear ho0)))
 go_ret
 exact ⟨_,by first|rfl|(simp <;> rfl)|(simp [*] <;> rfl),by (with_reducible repeat (first|apply Kd.V_alloc|apply Kd.V_drewN|apply Kd.V_drew));exact Kd.V_mono ap.out (fun _ hk=>hk.1),bQ HB⟩
end Go.Proofs.YtgfajgkjbckkgaaGreatDoor.PZ
end
end
section
noncomputable section
namespace Go.Proofs.YtgfajgkjbckkgaaGreatDoor.PZ
open Go.RowKit Go.Proofs.YtgfajgkjbckkgaaGreatDoorW.PrintWords Go.Proofs.YtgfajgkjbckkgaaGreatDoorW.PrintLast Go.Proofs.YtgfajgkjbckkgaaGreatDoorW.PrintMore
attribute [local go_sem] max2_int min2_int max_two min_two max_three min_three max_four min_four   -- for this text's walks alone
def oper_told_c.f (ac:List Int)(ad:List Int)(af:Int)(aa:Int):Option (List Int):=(oper_number.f aa).bind fun ae=>(some ae)
set_option maxHeartbeats 8000000 in
set_option maxRecDepth 100000 in
theorem oper_told_c.calls (ak:Option Addr)(al:Nat)(ac:List Int)(am:Option Addr)(an:Nat)(ad:List Int)(af:Int)(aa:Int)(r:List Int)(w:World)(hG:GL w)(ag:Kd.C (Kd.int .u8) w ak ac.length ac)(ah:ac.length≤al)(ai:Kd.C (Kd.int .u8) w am ad.length ad)(aj:ad.length≤an)(h:oper_told_c.f ac ad af aa=some r) :
  Calls Tryz.prog 106 #[.agg #[.slice ak ac.length al,.slice am ad.length an,.int .i64 af,.int .i64 aa]] w fun e w'=>∃ v0_:Value,e = .returned (v0_)∧Kd.V (Kd.int .u8) 5 w' w.heap.size (fun k_=>(w.heap.size≤k_)) v0_ r∧Below w.heap.size w w':=by
 have hu136:=Tryz.underlying136
 have aq:=zS ag
 have ar:=zS ah
 clear ag ah
 have au:=zS ai
 have av:=zS aj
 clear ai aj
 have HB:=zS (Below.refl w.heap.size w)
 have HG:=zS hG
 clear hG
 have H:((oper_number.f aa).bind fun ae=>(some ae))=some r:=h
 clear h
 replace H:=Option.bind_eq_some_iff.mp H
 obtain ⟨ae,A20,H⟩:=H
 try dsimp only at H
 have A2:=zS A20
 clear A20
 obtain rfl:=zE H
 go_enter Tryz.func106,Tryz.ntmps106
 go_wp2_with (first|((with_reducible refine gate_dst (N:=1) rfl ?_);refine box_event ?hg (N:=1) ?hd (cs:=#[.slice ak ac.length al,.slice am ad.length an,.int .i64 af,.int .i64 aa]) (t:=136) ?hr ?_;(case hd=>rfl);(case hg=>rfl);(case hr=>first|(go_simp;done)|(go_simp;rfl));intro ao hg w3 hbox hb;have ab:=zS (hbox);have aw:=bg HB hg;replace HB:=bs HB hb;clear hb hbox hg;have ax:=blkc4 ab.out;have ay:=blkf4 ab.out)|((with_reducible refine gate_callee (f:=109) rfl ?_);refine gL (some 5) Tryz.func109 #[.int .i64 aa] ?_;(with_reducible refine (oper_number.calls aa ae _ ?side1 A2.out).mono ?_);(case side1=>refine GL.below HG.out ?_;exact bQ HB);rintro e w5 ⟨az,rfl,ho0,hb⟩;refine ⟨_,rfl,?_⟩;have ap:=zS (Kd.V_lower (Kd.V_mono (ok':=fun k_=>(w.heap.size≤k_)∧k_≠ao) ho0 (fun k_ hk_=>⟨(Nat.le_trans (bz HB) hk_),(Kd.freshB (ko ab) k_ hk_)⟩)) (bz HB));replace ab:=kb ab hb;replace HB:=bs HB hb;(try clear hb);(try clear ho0)))
 go_ret
 exact ⟨_,by first|rfl|(simp <;> rfl)|(simp [*] <;> rfl),by (with_reducible repeat (first|apply Kd.V_alloc|apply Kd.V_drewN|apply Kd.V_drew));exact Kd.V_mono ap.out (fun _ hk=>hk.1),bQ HB⟩
end Go.Proofs.YtgfajgkjbckkgaaGreatDoor.PZ
end
end
