/- Texts of this seat, joined. Conditions: none beyond each statement's own. -/
import Derived.Test.YtgfajgkjbckkgaaGreatDoorPc07
set_option linter.all false
section
set_option maxRecDepth 100000
namespace Go.Proofs.YtgfajgkjbckkgaaGreatDoor.PZ
open Go.RowKit Go.Proofs.YtgfajgkjbckkgaaGreatDoorW.PrintWords Go.Proofs.YtgfajgkjbckkgaaGreatDoorW.PrintLast
def Bls (b:List Int):Prop:=∀ c ∈ b,c=32
theorem runL_nil (p:Int→Bool):runL p []=0:=rfl
theorem runL_cons (p:Int→Bool)(c:Int)(t:List Int):runL p (c :: t)=if p c then runL p t+1 else 0:=by
 unfold runL
 rw [List.takeWhile_cons]
 split <;> simp
theorem runL_append {p:Int→Bool}{b:List Int}(h:∀ c ∈ b,p c=true)(t:List Int):runL p (b ++ t)=b.length+runL p t:=by
 induction b with
 | nil=>simp
 | cons c b ih=>
  rw [List.cons_append,runL_cons,if_pos (h c (by simp)),ih (fun x hx=>h x (by simp [hx]))]
  simp;omega
theorem runL_le (p:Int→Bool)(t:List Int):runL p t≤t.length:=(List.takeWhile_sublist _).length_le
theorem bl_append {b:List Int}(h:Bls b)(t:List Int):bl (b ++ t)=b.length+bl t:=runL_append (fun c hc=>by rw [h c hc];rfl) t
theorem drop_shift (b t:List Int)(n:Nat):(b ++ t).drop (b.length+n)=t.drop n:=by rw [← List.drop_drop,List.drop_left]
theorem num_shift {b:List Int}(h:Bls b)(least:Int)(t:List Int):numP least (b ++ t)=((numP least t).1,b.length+(numP least t).2):=by
 unfold numP
 simp only [bl_append h,drop_shift]
 split
 · rfl
 simp only [Nat.add_assoc]
theorem op_shift {b:List Int}(h:Bls b)(t:List Int):opP (b ++ t)=((opP t).1,b.length+(opP t).2):=by
 unfold opP
 simp only [bl_append h,drop_shift]
 split
 · simp only [Nat.add_assoc]
 rfl
theorem rel_shift {b:List Int}(h:Bls b)(t:List Int):relP (b ++ t)=((relP t).1,b.length+(relP t).2):=by
 unfold relP
 rw [op_shift h]
 rcases opP t with ⟨_|c,n⟩
 · rfl
 simp only [Nat.add_assoc,drop_shift]
 rcases modP (t.drop n) with ⟨_|v,m⟩
 · rfl
 simp only [Nat.add_assoc,drop_shift]
 rcases notP (t.drop (n+m)) with ⟨_|v,j⟩
 · rfl
 simp only [Nat.add_assoc,drop_shift]
 rcases rngP (t.drop (n+(m+j))) with ⟨_|v,i⟩ <;> rfl
theorem bl_zero {c:Int}(h:c≠32)(t:List Int):bl (c :: t)=0:=by
 unfold bl
 rw [runL_cons,if_neg (by unfold isBl;simpa using h)]
theorem pw_nat {n:Int}(h:0≤n):pw n=(digsN n.toNat).map chr:=by unfold pw;rw [if_neg (by omega)]
theorem decv_chr (l:List Int):decv (l.map chr)=num l:=by
 unfold decv num
 rw [List.foldl_map]
 congr 1
 funext n c
 unfold chr
 omega
theorem pw_di {n:Int}(h:0≤n):∀ c ∈ pw n,isDi c=true:=by
 intro c hc
 rw [pw_nat h] at hc
 obtain ⟨d,hd,rfl⟩:=List.mem_map.1 hc
 have:=digsN_figs n.toNat d hd
 unfold isDi chr
 simp;omega
theorem pw_cons {n:Int}(h:0≤n):∃ c l,pw n=c :: l∧48≤c∧c≤57:=by
 have hp:0<(pw n).length:=by rw [pw_nat h,List.length_map];exact digsN_pos _
 match e:pw n,hp with
 | c :: l,_=>
  have:=pw_di h c (by rw [e];simp)
  unfold isDi at this
  simp at this
  exact ⟨c,l,rfl,this.1,this.2⟩
def NoD (t:List Int):Prop:=runL isDi t=0
theorem num_read {n least:Int}(h0:0≤n)(h1:n≤999999999)(hl:least≤n){t:List Int}(ht:NoD t):numP least (pw n ++ t)=(some n,(pw n).length):=by
 obtain ⟨c,l,hc,c0,c1⟩:=pw_cons h0
 have hb:bl (pw n ++ t)=0:=by rw [hc,List.cons_append,bl_zero (by omega)]
 have hr:runL isDi (pw n ++ t)=(pw n).length:=by rw [runL_append (pw_di h0),ht,Nat.add_zero]
 have hp:0<(pw n).length:=by rw [hc];simp
 have h9:(pw n).length≤9:=by
  rw [pw_nat h0,List.length_map]
  exact digsN_length 8 n.toNat (by omega)
 have hv:decv (pw n)=n:=by rw [pw_nat h0,decv_chr,digsN_num];omega
 have hz:¬ (rd (pw n ++ t) 0=48∧1<(pw n).length):=by
  rintro ⟨z1,z2⟩
  by_cases hn:n=0
  ·subst hn
   rw [pw_nat h0,digsN_small (by decide)] at z2
   simp at z2
  have hf:=digsN_first n.toNat (by omega)
  have hl:=digsN_pos n.toNat
  rw [pw_nat h0] at z1
  match e:digsN n.toNat,hl with
  | d :: q,_=>
   rw [e] at z1 hf
   simp [rd,chr] at z1 hf
   omega
 unfold numP
 simp only [hb,List.drop_zero,hr,List.take_left,hv,Nat.zero_add]
 rw [if_neg]
 intro z
 rcases z with z|z|z|z
 · omega
 · omega
 · exact hz z
 omega
def GoodG (r:Rg):Prop:=0≤r.f0∧r.f0≤r.f1∧r.f1≤999999999
theorem one_shift {b:List Int}(h:Bls b)(t:List Int):oneP (b ++ t)=((oneP t).1,b.length+(oneP t).2):=by
 unfold oneP
 rw [num_shift h]
 rcases numP 0 t with ⟨_|a,n⟩
 · rfl
 simp only [Nat.add_assoc,drop_shift]
 split
 · rcases numP (a+1) (t.drop (n+(bl (t.drop n)+2))) with ⟨_|c,m⟩ <;> rfl
 rfl
theorem rng_shift {b:List Int}(h:Bls b)(t:List Int)(k:Nat):rngF (k+1) (b ++ t)=((rngF (k+1) t).1,b.length+(rngF (k+1) t).2):=by
 rw [rngF,rngF,one_shift h]
 rcases oneP t with ⟨_|a,n⟩
 · rfl
 simp only [Nat.add_assoc,drop_shift]
 split
 · rcases rngF k (t.drop (n+(bl (t.drop n)+1))) with ⟨_|c,m⟩ <;> rfl
 rfl
def After (t:List Int):Prop:=NoD t∧signP [46,46] t=false∧signP [44] t=false
theorem one_read {r:Rg}(hr:GoodG r){t:List Int}(h1:NoD t)(h2:signP [46,46] t=false):oneP (rgT r ++ t)=(some r,(rgT r).length):=by
 obtain ⟨x,y⟩:=r
 obtain ⟨g0,g1,g2⟩:=hr
 simp only at g0 g1 g2
 unfold rgT oneP
 by_cases e:y=x
 ·subst e
  simp only [ne_eq,not_true_eq_false,if_false]
  rw [num_read g0 g2 g0 h1]
  simp only [List.drop_left,h2,Bool.false_eq_true,if_false]
 simp only [ne_eq,e,not_false_eq_true,if_true,List.append_assoc]
 rw [num_read g0 (by omega) g0 (by unfold NoD;rw [List.cons_append,runL_cons];rfl)]
 obtain ⟨c,l,hc,c0,c1⟩:=pw_cons (show 0≤y by omega)
 have hs:signP [46,46] ([46,46] ++ (pw y ++ t))=true:=by
  unfold signP
  rw [show bl ([46,46] ++ (pw y ++ t))=0 from bl_zero (by decide) _]
  rfl
 have hb:bl ([46,46] ++ (pw y ++ t))=0:=bl_zero (by decide) _
 simp only [List.drop_left,hs,if_true,hb,Nat.zero_add]
 rw [drop_shift]
 have e2:([46,46] ++ (pw y ++ t)).drop 2=pw y ++ t:=rfl
 rw [e2,num_read (by omega) g2 (by omega) h1]
 simp only [List.length_append,List.length_cons,List.length_nil]
 rw [Nat.add_assoc]
theorem rgT_cons {r:Rg}(hr:GoodG r):∃ c l,rgT r=c :: l∧48≤c∧c≤57:=by
 obtain ⟨c,l,hc,h⟩:=pw_cons hr.1
 unfold rgT
 split
 · exact ⟨c,_,by rw [hc];rfl,h⟩
 exact ⟨c,l,hc,h⟩
theorem rngs_read:∀ (l:List Rg) (k:Nat) (t:List Int),(∀ r ∈ l,GoodG r)→l≠[]→l.length≤k→After t→rngF k (joinT [44] (l.map rgT) ++ t)=(some l,(joinT [44] (l.map rgT)).length)
  | [],_,_,_,h,_,_=>absurd rfl h
  | [r],k,t,hg,_,hk,ht=>by
    obtain ⟨m,rfl⟩:∃ m,k=m+1:=⟨k - 1,by simp at hk;omega⟩
    have h1:joinT [44] ([r].map rgT)=rgT r:=by simp [joinT]
    rw [h1,rngF,one_read (hg r (by simp)) ht.1 ht.2.1]
    simp only [List.drop_left,ht.2.2,Bool.false_eq_true,if_false]
  | r :: s :: l,k,t,hg,_,hk,ht=>by
    obtain ⟨m,rfl⟩:∃ m,k=m+1:=⟨k - 1,by simp at hk;omega⟩
    have h1:joinT [44] ((r :: s :: l).map rgT)=rgT r ++ ([44] ++ joinT [44] ((s :: l).map rgT)):=by simp [joinT]
    have ih:=rngs_read (s :: l) m t (fun x hx=>hg x (by simp at hx ⊢;right;exact hx)) (by simp) (by simp at hk ⊢;omega) ht
    have hs:signP [44] ([44] ++ (joinT [44] ((s :: l).map rgT) ++ t))=true:=by
     unfold signP
     rw [show bl ([44] ++ (joinT [44] ((s :: l).map rgT) ++ t))=0 from bl_zero (by decide) _]
     rfl
    have hb:bl ([44] ++ (joinT [44] ((s :: l).map rgT) ++ t))=0:=bl_zero (by decide) _
    have hd:signP [46,46] ([44] ++ (joinT [44] ((s :: l).map rgT) ++ t))=false:=by
     unfold signP
     rw [hb]
     rfl
    rw [h1,List.append_assoc,List.append_assoc,rngF,one_read (hg r (by simp)) (by unfold NoD;rw [List.cons_append,runL_cons];rfl) hd]
    simp only [List.drop_left,hs,if_true,hb,Nat.zero_add]
    rw [drop_shift]
    have e2:([44] ++ (joinT [44] ((s :: l).map rgT) ++ t)).drop 1=joinT [44] ((s :: l).map rgT) ++ t:=rfl
    rw [e2,ih]
    simp only [List.length_append,List.length_cons,List.length_nil]
    rw [Nat.add_assoc]
def GoodX (x:Rl):Prop:=isOp x.f0=true∧0≤x.f1∧x.f1≤999999999∧x.f3≠[]∧∀ r ∈ x.f3,GoodG r
theorem op_low {c:Int}(h:isOp c=true):isLo c=true∧c≠32:=by
 unfold isOp at h
 unfold isLo
 simp at h
 simp
 omega
structure Sp (sp:List Int):Prop where
  bls:Bls sp
  ne:sp≠[]
theorem Sp.cons {sp:List Int}(h:Sp sp):∃ q,sp=32 :: q∧Bls q:=by
 match sp,h with
 | [],h=>exact absurd rfl h.ne
 | c :: q,h=>exact ⟨q,by rw [h.bls c (by simp)],fun x hx=>h.bls x (by simp [hx])⟩
theorem Sp.stop {sp:List Int}(h:Sp sp){p:Int→Bool}(hp:p 32=false)(t:List Int):runL p (sp ++ t)=0:=by
 obtain ⟨q,rfl,_⟩:=h.cons
 rw [List.cons_append,runL_cons,hp]
 rfl
theorem bl_sp {sp:List Int}(h:Sp sp){c:Int}(hc:c≠32)(t:List Int):bl (sp ++ c :: t)=sp.length:=by rw [bl_append h.bls,bl_zero hc];rfl
theorem sign_one {sp:List Int}(h:Sp sp){c:Int}(hc:c≠32)(x:List Int)(t:List Int):signP x (sp ++ c :: t)=x.isPrefixOf (c :: t):=by
 unfold signP
 rw [bl_sp h hc]
 rw [List.drop_left]
theorem op_read {sp:List Int}(h:Sp sp){c:Int}(hc:isOp c=true)(t:List Int):opP (c :: (sp ++ t))=(some c,1):=by
 have ⟨h1,h2⟩:=op_low hc
 unfold opP
 rw [bl_zero h2]
 have e:runL isLo (c :: (sp ++ t))=1:=by rw [runL_cons,if_pos h1,h.stop (by rfl)]
 have e2:rd (c :: (sp ++ t)) 0=c:=by simp [rd]
 rw [List.drop_zero,e,e2,if_pos ⟨rfl,hc⟩]
def eqT (b:Bool):List Int:=if b then [33,61] else [61]
theorem eqT_cons (b:Bool)(t:List Int):∃ c q,eqT b ++ t=c :: q∧c≠32∧c≠37:=by
 cases b
 · exact ⟨61,t,rfl,by decide,by decide⟩
 exact ⟨33,61 :: t,rfl,by decide,by decide⟩
def modT (sp:List Int)(n:Int):List Int:=if n≠0 then sp ++ [37] ++ sp ++ pw n else []
theorem mod_read {sp:List Int}(h:Sp sp){n:Int}(h0:0≤n)(h1:n≤999999999)(b:Bool)(t:List Int):modP (modT sp n ++ (sp ++ (eqT b ++ t)))=(some n,(modT sp n).length):=by
 unfold modP modT
 by_cases e:n=0
 ·subst e
  obtain ⟨c,q,hc,c1,c2⟩:=eqT_cons b t
  simp only [ne_eq,not_true_eq_false,if_false,List.nil_append]
  rw [hc,sign_one h c1]
  have:([37]:List Int).isPrefixOf (c :: q)=false:=by
   simp [List.isPrefixOf]
   intro z
   exact absurd z.symm c2
  rw [this]
  rfl
 simp only [ne_eq,e,not_false_eq_true,if_true,List.append_assoc]
 have hb:bl (sp ++ ([37] ++ (sp ++ (pw n ++ (sp ++ (eqT b ++ t))))))=sp.length:=bl_sp h (by decide) _
 have hs:signP [37] (sp ++ ([37] ++ (sp ++ (pw n ++ (sp ++ (eqT b ++ t))))))=true:=by
  rw [show ([37] ++ (sp ++ (pw n ++ (sp ++ (eqT b ++ t)))):List Int)=37 :: (sp ++ (pw n ++ (sp ++ (eqT b ++ t)))) from rfl,sign_one h (by decide)]
  rfl
 rw [hs,hb,if_pos rfl]
 rw [drop_shift,show ([37] ++ (sp ++ (pw n ++ (sp ++ (eqT b ++ t)))):List Int).drop 1=sp ++ (pw n ++ (sp ++ (eqT b ++ t))) from rfl,num_shift h.bls,num_read h0 h1 (by omega) (h.stop (by rfl) _)]
 simp only [List.length_append,List.length_cons,List.length_nil,Nat.zero_add,Nat.add_assoc]
theorem not_read {sp:List Int}(h:Sp sp)(b:Bool)(t:List Int):notP (sp ++ (eqT b ++ t))=(some b,sp.length+(eqT b).length):=by
 unfold notP
 cases b
 ·have e:eqT false ++ t=61 :: t:=rfl
  rw [e,sign_one h (by decide),sign_one h (by decide),bl_sp h (by decide)]
  rfl
 have e:eqT true ++ t=33 :: 61 :: t:=rfl
 rw [e,sign_one h (by decide),bl_sp h (by decide)]
 rfl
theorem relT_eq (sp:List Int)(x:Rl):relT sp x=[x.f0] ++ (modT sp x.f1 ++ (sp ++ (eqT x.f2 ++ (sp ++ joinT [44] (x.f3.map rgT))))):=rfl
theorem join_len:∀ (l:List Rg),(∀ r ∈ l,GoodG r)→l.length≤(joinT [44] (l.map rgT)).length
  | [],_=>by simp
  | r :: l,h=>by
    obtain ⟨c,q,hc,_⟩:=rgT_cons (h r (by simp))
    have:∀ l:List Rg,l.length≤((l.map rgT).flatMap fun y=>[44] ++ y).length:=by
     intro l
     induction l with
     | nil=>simp
     | cons s l ih=>simp at ih ⊢;omega
    have:=this l
    simp [joinT,hc] at this ⊢
    omega
theorem rel_read {sp:List Int}(h:Sp sp){x:Rl}(hx:GoodX x){t:List Int}(ht:After t):relP (relT sp x ++ t)=(some x,(relT sp x).length):=by
 obtain ⟨c,n,b,l⟩:=x
 obtain ⟨g0,g1,g2,g3,g4⟩:=hx
 simp only at g0 g1 g2 g3 g4
 rw [relT_eq]
 simp only [List.append_assoc]
 have o1:opP ([c] ++ (modT sp n ++ (sp ++ (eqT b ++ (sp ++ (joinT [44] (l.map rgT) ++ t))))))=(some c,1):=by
  unfold modT
  by_cases e:n=0
  ·simp only [ne_eq,e,not_true_eq_false,if_false,List.nil_append]
   exact op_read h g0 _
  simp only [ne_eq,e,not_false_eq_true,if_true,List.append_assoc]
  exact op_read h g0 _
 unfold relP
 rw [o1]
 simp only []
 rw [show ([c] ++ (modT sp n ++ (sp ++ (eqT b ++ (sp ++ (joinT [44] (l.map rgT) ++ t)))))).drop 1=modT sp n ++ (sp ++ (eqT b ++ (sp ++ (joinT [44] (l.map rgT) ++ t)))) from rfl,mod_read h g1 g2]
 simp only []
 have d1:([c] ++ (modT sp n ++ (sp ++ (eqT b ++ (sp ++ (joinT [44] (l.map rgT) ++ t)))))).drop (1+(modT sp n).length)=sp ++ (eqT b ++ (sp ++ (joinT [44] (l.map rgT) ++ t))):=by
  rw [← List.drop_drop]
  exact List.drop_left
 have d2:([c] ++ (modT sp n ++ (sp ++ (eqT b ++ (sp ++ (joinT [44] (l.map rgT) ++ t)))))).drop (1+(modT sp n).length+(sp.length+(eqT b).length))=sp ++ (joinT [44] (l.map rgT) ++ t):=by
  rw [← List.drop_drop,d1,drop_shift,List.drop_left]
 rw [d1,not_read h]
 simp only []
 rw [d2]
 unfold rngP
 have hj:=join_len l g4
 rw [rng_shift h.bls,rngs_read l _ t g4 g3 (by simp;omega) ht]
 simp only [List.length_append,List.length_cons,List.length_nil,Nat.zero_add,Nat.add_assoc]
def Ends (r:List (Rl×Bool)):Prop:=∃ a x,r=a ++ [(x,false)]
theorem after_bls {b:List Int}(h:Bls b):After b:=by
 have hb:bl b=b.length:=by have:=bl_append h [];simpa [bl,runL_nil] using this
 refine ⟨?_,?_,?_⟩
 ·unfold NoD
  cases b with
  | nil=>rfl
  | cons c q=>rw [runL_cons,h c (by simp)];rfl
 · unfold signP;rw [hb,List.drop_length];rfl
 unfold signP;rw [hb,List.drop_length];rfl
theorem after_word {sp:List Int}(h:Sp sp){c:Int}(hc:97≤c)(t:List Int):After (sp ++ c :: t):=by
 refine ⟨h.stop (by rfl) _,?_,?_⟩
 ·rw [sign_one h (by omega)]
  simp [List.isPrefixOf]
  intro z;omega
 rw [sign_one h (by omega)]
 simp [List.isPrefixOf]
 intro z;omega
def wrd (o:Bool):List Int:=if o then wordOr else wordAnd
theorem runT_cons (sp:List Int)(x:Rl)(o:Bool){r:List (Rl×Bool)}(h:r≠[]):runT sp ((x,o) :: r)=relT sp x ++ (sp ++ (wrd o ++ (sp ++ runT sp r))):=by
 cases r with
 | nil=>exact absurd rfl h
 | cons y r=>rfl
theorem rels_read {sp:List Int}(h:Sp sp){e:List Int}(he:Bls e):∀ (r:List (Rl×Bool)) (k:Nat) (b:List Int),Bls b→(∀ x ∈ r,GoodX x.1)→Ends r→r.length≤k→(relsF k (b ++ (runT sp r ++ e))).1=some r
  | [],_,_,_,_,⟨a,x,h⟩,_=>by simp at h
  | [(x,o)],k,b,hb,hg,hE,hk=>by
    obtain ⟨m,rfl⟩:∃ m,k=m+1:=⟨k - 1,by simp at hk;omega⟩
    obtain ⟨a,y,hy⟩:=hE
    have ho:o=false:=by
     have:=congrArg List.getLast? hy
     simp at this
     exact this.2
    subst ho
    have hbe:bl e=e.length:=by have:=bl_append he [];simpa [bl,runL_nil] using this
    rw [relsF,rel_shift hb,show runT sp [(x,false)]=relT sp x from rfl,rel_read h (hg (x,false) (by simp)) (after_bls he)]
    simp only [drop_shift,List.drop_left,hbe]
    rw [Nat.add_assoc,drop_shift,drop_shift,List.drop_length]
    rfl
  | (x,o) :: y :: r,k,b,hb,hg,hE,hk=>by
    obtain ⟨m,rfl⟩:∃ m,k=m+1:=⟨k - 1,by simp at hk;omega⟩
    have hE':Ends (y :: r):=by
     obtain ⟨a,z,hz⟩:=hE
     cases a with
     | nil=>simp at hz
     | cons w a=>exact ⟨a,z,by simp at hz;exact hz.2⟩
    have ih:=rels_read h he (y :: r) m sp h.bls (fun z hz=>hg z (by simp at hz ⊢;right;exact hz)) hE' (by simp at hk ⊢;omega)
    have hw:∃ c q,wrd o=c :: q∧97≤c∧(∀ t,wordP (wrd o ++ (sp ++ t))=wrd o):=by
     have:∀ u:List Int,(∀ c ∈ u,isLo c=true)→∀ t,wordP (u ++ (sp ++ t))=u:=fun u hu t=>by
      unfold wordP
      rw [runL_append hu,h.stop (by rfl),Nat.add_zero,List.take_left]
     cases o
     · exact ⟨97,[110,100],rfl,by decide,this _ (by decide)⟩
     exact ⟨111,[114],rfl,by decide,this _ (by decide)⟩
    obtain ⟨c,q,hcq,hc,hwp⟩:=hw
    rw [relsF,rel_shift hb,runT_cons sp x o (by simp)]
    simp only [List.append_assoc]
    have hA:After (sp ++ (wrd o ++ (sp ++ (runT sp (y :: r) ++ e)))):=by
     rw [hcq,List.cons_append]
     exact after_word h hc _
    rw [rel_read h (hg (x,o) (by simp)) hA]
    have hbl:bl (sp ++ (wrd o ++ (sp ++ (runT sp (y :: r) ++ e))))=sp.length:=by
     rw [hcq,List.cons_append,bl_sp h (by omega)]
    simp only [drop_shift,List.drop_left,hbl]
    rw [Nat.add_assoc b.length]
    simp only [drop_shift,List.drop_left,hwp]
    rw [if_neg (by rw [hcq];simp)]
    cases o
    · have e2:(b ++ (relT sp x ++ (sp ++ (wrd false ++ (sp ++ (runT sp (y :: r) ++ e)))))).drop (b.length+((relT sp x).length+sp.length)+3)=sp ++ (runT sp (y :: r) ++ e):=by
       rw [Nat.add_assoc,Nat.add_assoc,drop_shift,drop_shift,drop_shift]
       rfl
      rw [e2,if_neg (by decide),if_pos (by rfl)]
      rcases hh:relsF m (sp ++ (runT sp (y :: r) ++ e)) with ⟨_|l,j⟩
      · rw [hh] at ih;simp at ih
      · rw [hh] at ih;simp at ih;simp [ih]
    · have e2:(b ++ (relT sp x ++ (sp ++ (wrd true ++ (sp ++ (runT sp (y :: r) ++ e)))))).drop (b.length+((relT sp x).length+sp.length)+2)=sp ++ (runT sp (y :: r) ++ e):=by
       rw [Nat.add_assoc,Nat.add_assoc,drop_shift,drop_shift,drop_shift]
       rfl
      rw [e2,if_pos (by rfl)]
      rcases hh:relsF m (sp ++ (runT sp (y :: r) ++ e)) with ⟨_|l,j⟩
      · rw [hh] at ih;simp at ih
      · rw [hh] at ih;simp at ih;simp [ih]
theorem relT_pos (sp:List Int)(x:Rl):0<(relT sp x).length:=by rw [relT_eq];simp
theorem runT_len (sp:List Int):∀ r:List (Rl×Bool),r.length≤(runT sp r).length
  | []=>by simp
  | [(x,o)]=>by have:=relT_pos sp x;simp [runT];omega
  | (x,o) :: y :: r=>by
    have:=runT_len sp (y :: r)
    have:=relT_pos sp x
    rw [runT_cons sp x o (by simp)]
    simp at *
    omega
theorem relsP_read {sp b e:List Int}(h:Sp sp)(hb:Bls b)(he:Bls e){r:List (Rl×Bool)}(hg:∀ x ∈ r,GoodX x.1)(hE:Ends r):(relsP (b ++ (runT sp r ++ e))).1=some r:=by
 have:=runT_len sp r
 exact rels_read h he r _ b hb hg hE (by simp;omega)
theorem parse_read {sp b e:List Int}(h:Sp sp)(hb:Bls b)(he:Bls e){r:List (Rl×Bool)}(hg:∀ x ∈ r,GoodX x.1)(hE:Ends r) :
    parseP (b ++ (runT sp r ++ e))=if 400<(b ++ (runT sp r ++ e)).length then ([],0,11) else if fullP r then ([],0,11) else (rowsOf [] r,0,0):=by
 unfold parseP
 have:=relsP_read h hb he hg hE
 rcases hh:relsP (b ++ (runT sp r ++ e)) with ⟨_|l,j⟩
 · rw [hh] at this;simp at this
 rw [hh] at this
 simp only [Option.some.injEq] at this
 subst this
 rfl
section
def exergueref07_Right.f (k:Nat)(l0_0:List Int)(l0_1:List Int)(a0_2:Int)(a0_3:Int):Option (Bool):=(exergueref07_Figures.f k l0_0).bind fun t354=>((exergueref07_Figures.f k l0_1).bind fun t355=>(if t354=true then (if t355=true then (if (l0_0.length:Int)>0 then (if (rd l0_0 0)=0 then (some false) else ((exergueref07_Full.f k l0_1).bind fun t357=>(some (decide (a0_2=t357) && (decide (0≤a0_3) && decide (a0_3≤1000)))))) else ((exergueref07_Full.f k l0_1).bind fun t358=>(some (decide (a0_2=t358) && (decide (0≤a0_3) && decide (a0_3≤1000)))))) else (some false)) else (some false)))
theorem exergueref07_Right.mono:∀ a0 a1 a2 a3 k,LeO (exergueref07_Right.f k a0 a1 a2 a3) (exergueref07_Right.f (k+1) a0 a1 a2 a3):=by
 intro a0 a1 a2 a3 k
 unfold exergueref07_Right.f
 refine LeO.bind (exergueref07_Figures.mono _ k) fun _=>LeO.bind (exergueref07_Figures.mono _ k) fun _=>LeO.ite (LeO.ite (LeO.ite (LeO.ite (LeO.refl _) (LeO.bind (exergueref07_Full.mono _ k) fun _=>LeO.refl _)) (LeO.bind (exergueref07_Full.mono _ k) fun _=>LeO.refl _)) (LeO.refl _)) (LeO.refl _)
section
variable (k:Nat)(A0:Option Addr)(c0:Nat)(l0:List Int)(A1:Option Addr)(c1:Nat)(l1:List Int)(a2 a3:Int)(w:World)
  (hr0:Kd.C (Kd.int .u8) w A0 l0.length l0) (hc0:l0.length≤c0) (hr1:Kd.C (Kd.int .u8) w A1 l1.length l1) (hc1:l1.length≤c1)
include hr0 hc0 hr1 hc1
set_option maxHeartbeats 4000000 in
set_option maxRecDepth 100000 in
theorem refRight_f_t (ht:exergueref07_Figures.f k l0=some false)(hu:exergueref07_Figures.f k l1=some true):Calls Tryz.prog 26 #[.agg #[.slice A0 l0.length c0,.slice A1 l1.length c1,.int .i64 a2,.int .i64 a3]] w (RPost w (false)):=by
 have k0:=fun W (hb:Below w.heap.size w W)=>exergueref07_Figures.calls k A0 c0 l0 _ W (Kd.C_below hr0 hb) hc0 ht
 have hb:=zA (fun (o:Obj) (n:Nat)=>pw_below_drewN ((Below.refl _ w).alloc (Nat.le_refl _) o) n)
 have hb0:=zA (fun (o:Obj)=>(Below.refl _ w).alloc (Nat.le_refl _) o)
 have K0:=zA k0
 have k1:=fun W (hb:Below w.heap.size w W)=>exergueref07_Figures.calls k A1 c1 l1 _ W (Kd.C_below hr1 hb) hc1 hu
 have K1:=zA k1
 clear hr0 hc0 hr1 hc1 k0 k1 ht hu
 generalize l0.length=n0 at K0 ⊢
 generalize l1.length=n1 at K1 ⊢
 go_enter Tryz.func26,Tryz.ntmps26
 go_wp2_with (first|(go_at_call 48;(with_reducible refine (K0.out _ (hb0.out _)).mono ?_);rintro e w1 ⟨rfl,⟨q,rfl⟩⟩)|(go_at_call 48;(with_reducible refine (K1.out _ (hb.out _ q)).mono ?_);rintro e w1 ⟨rfl,⟨q2,rfl⟩⟩))
 repeat (go_quiet (fail);try go_wp2)
 go_ret
 exact ⟨rfl,by repeat (first|exact hb.out _ _|apply pw_below_drewN)⟩
set_option maxHeartbeats 4000000 in
set_option maxRecDepth 100000 in
theorem refRight_f_f (ht:exergueref07_Figures.f k l0=some false)(hu:exergueref07_Figures.f k l1=some false):Calls Tryz.prog 26 #[.agg #[.slice A0 l0.length c0,.slice A1 l1.length c1,.int .i64 a2,.int .i64 a3]] w (RPost w (false)):=by
 have k0:=fun W (hb:Below w.heap.size w W)=>exergueref07_Figures.calls k A0 c0 l0 _ W (Kd.C_below hr0 hb) hc0 ht
 have hb:=zA (fun (o:Obj) (n:Nat)=>pw_below_drewN ((Below.refl _ w).alloc (Nat.le_refl _) o) n)
 have hb0:=zA (fun (o:Obj)=>(Below.refl _ w).alloc (Nat.le_refl _) o)
 have K0:=zA k0
 have k1:=fun W (hb:Below w.heap.size w W)=>exergueref07_Figures.calls k A1 c1 l1 _ W (Kd.C_below hr1 hb) hc1 hu
 have K1:=zA k1
 clear hr0 hc0 hr1 hc1 k0 k1 ht hu
 generalize l0.length=n0 at K0 ⊢
 generalize l1.length=n1 at K1 ⊢
 go_enter Tryz.func26,Tryz.ntmps26
 go_wp2_with (first|(go_at_call 48;(with_reducible refine (K0.out _ (hb0.out _)).mono ?_);rintro e w1 ⟨rfl,⟨q,rfl⟩⟩)|(go_at_call 48;(with_reducible refine (K1.out _ (hb.out _ q)).mono ?_);rintro e w1 ⟨rfl,⟨q2,rfl⟩⟩))
 repeat (go_quiet (fail);try go_wp2)
 go_ret
 exact ⟨rfl,by repeat (first|exact hb.out _ _|apply pw_below_drewN)⟩
set_option maxHeartbeats 4000000 in
set_option maxRecDepth 100000 in
theorem refRight_t_f (ht:exergueref07_Figures.f k l0=some true)(hu:exergueref07_Figures.f k l1=some false):Calls Tryz.prog 26 #[.agg #[.slice A0 l0.length c0,.slice A1 l1.length c1,.int .i64 a2,.int .i64 a3]] w (RPost w (false)):=by
 have k0:=fun W (hb:Below w.heap.size w W)=>exergueref07_Figures.calls k A0 c0 l0 _ W (Kd.C_below hr0 hb) hc0 ht
 have hb:=zA (fun (o:Obj) (n:Nat)=>pw_below_drewN ((Below.refl _ w).alloc (Nat.le_refl _) o) n)
 have hb0:=zA (fun (o:Obj)=>(Below.refl _ w).alloc (Nat.le_refl _) o)
 have K0:=zA k0
 have k1:=fun W (hb:Below w.heap.size w W)=>exergueref07_Figures.calls k A1 c1 l1 _ W (Kd.C_below hr1 hb) hc1 hu
 have K1:=zA k1
 clear hr0 hc0 hr1 hc1 k0 k1 ht hu
 generalize l0.length=n0 at K0 ⊢
 generalize l1.length=n1 at K1 ⊢
 go_enter Tryz.func26,Tryz.ntmps26
 go_wp2_with (first|(go_at_call 48;(with_reducible refine (K0.out _ (hb0.out _)).mono ?_);rintro e w1 ⟨rfl,⟨q,rfl⟩⟩)|(go_at_call 48;(with_reducible refine (K1.out _ (hb.out _ q)).mono ?_);rintro e w1 ⟨rfl,⟨q2,rfl⟩⟩))
 repeat (go_quiet (fail);try go_wp2)
 go_ret
 exact ⟨rfl,by repeat (first|exact hb.out _ _|apply pw_below_drewN)⟩
set_option maxHeartbeats 4000000 in
set_option maxRecDepth 100000 in
theorem refRight_nought (ht:exergueref07_Figures.f k l0=some true)(hu:exergueref07_Figures.f k l1=some true)(h0:0<l0.length)(h1:rd l0 0=0):Calls Tryz.prog 26 #[.agg #[.slice A0 l0.length c0,.slice A1 l1.length c1,.int .i64 a2,.int .i64 a3]] w (RPost w (false)):=by
 have k0:=fun W (hb:Below w.heap.size w W)=>exergueref07_Figures.calls k A0 c0 l0 _ W (Kd.C_below hr0 hb) hc0 ht
 have hb:=zA (fun (o:Obj) (n:Nat)=>pw_below_drewN ((Below.refl _ w).alloc (Nat.le_refl _) o) n)
 have hb0:=zA (fun (o:Obj)=>(Below.refl _ w).alloc (Nat.le_refl _) o)
 have K0:=zA k0
 have k1:=fun W (hb:Below w.heap.size w W)=>exergueref07_Figures.calls k A1 c1 l1 _ W (Kd.C_below hr1 hb) hc1 hu
 have K1:=zA k1
 clear k0 k1 ht hu
 obtain ⟨ad,e1,hcell⟩:=Kd.at_int hr0 0 (by omega) (by omega)
 cases e1
 rw [show ((0:Int)).toNat=0 from rfl,Addr.add_zero',h1] at hcell
 have hlt:ad.block<w.heap.size:=World.block_lt_of_cell? w _ hcell
 clear hr0 hc0 hr1 hc1 h1
 have d1:decide (0<l0.length)=true:=zC h0
 have d2:decide (0<(l0.length:Int))=true:=zC (by omega)
 have d3:(0<l0.length)=True:=eq_true h0
 generalize l0.length=n0 at K0 d1 d2 d3 ⊢
 generalize l1.length=n1 at K1 ⊢
 clear h0
 go_enter Tryz.func26,Tryz.ntmps26
 go_wp2_with (first|(go_at_call 48;(with_reducible refine (K0.out _ (hb0.out _)).mono ?_);rintro e w1 ⟨rfl,⟨q,rfl⟩⟩)|(go_at_call 48;(with_reducible refine (K1.out _ (hb.out _ q)).mono ?_);rintro e w1 ⟨rfl,⟨q2,rfl⟩⟩))
 repeat (go_quiet (fail);try go_wp2)
 go_ret
 exact ⟨rfl,by repeat (first|exact hb.out _ _|apply pw_below_drewN)⟩
set_option maxHeartbeats 4000000 in
set_option maxRecDepth 100000 in
theorem refRight_none (nf:Int)(ht:exergueref07_Figures.f k l0=some true)(hu:exergueref07_Figures.f k l1=some true)(hn:exergueref07_Full.f k l1=some nf)(h0:l0.length=0):Calls Tryz.prog 26 #[.agg #[.slice A0 l0.length c0,.slice A1 l1.length c1,.int .i64 a2,.int .i64 a3]] w (RPost w (decide (a2=nf) && (decide (0≤a3) && decide (a3≤1000)))):=by
 have k0:=fun W (hb:Below w.heap.size w W)=>exergueref07_Figures.calls k A0 c0 l0 _ W (Kd.C_below hr0 hb) hc0 ht
 have hb:=zA (fun (o:Obj) (n:Nat)=>pw_below_drewN ((Below.refl _ w).alloc (Nat.le_refl _) o) n)
 have hb0:=zA (fun (o:Obj)=>(Below.refl _ w).alloc (Nat.le_refl _) o)
 have K0:=zA k0
 have k1:=fun W (hb:Below w.heap.size w W)=>exergueref07_Figures.calls k A1 c1 l1 _ W (Kd.C_below hr1 hb) hc1 hu
 have K1:=zA k1
 clear k0 k1 ht hu
 have k2:=fun W (hb:Below w.heap.size w W)=>(exergueref07_Full.calls k A1 c1 l1 nf W (Kd.C_below hr1 hb) hc1 hn).mono (fun e w' (h:e = .returned (.int .i64 nf)∧Drawn0 W w')=>(⟨h.1,h.2.out⟩:e = .returned (.int .i64 nf)∧∃ m,w'=W.drewN m))
 have K2:=zA k2
 clear hr0 hc0 hr1 hc1 k2 hn
 have d1:decide (0<l0.length)=false:=zD (by omega)
 have d2:decide (0<(l0.length:Int))=false:=zD (by omega)
 generalize l0.length=n0 at K0 d1 d2 h0 ⊢
 clear h0
 generalize l1.length=n1 at K1 K2 ⊢
 by_cases e2:a2=nf
 ·have f2:(a2 == nf)=true:=by simpa using e2
  rw [zC e2]
  clear e2
  by_cases e3:0≤a3
  ·have f3:decide (0≤a3)=true:=zC e3
   rw [f3]
   clear e3
   go_enter Tryz.func26,Tryz.ntmps26
   go_wp2_with (first|(go_at_call 48;(with_reducible refine (K0.out _ (hb0.out _)).mono ?_);rintro e w1 ⟨rfl,⟨q,rfl⟩⟩)|(go_at_call 48;(with_reducible refine (K1.out _ (hb.out _ q)).mono ?_);rintro e w1 ⟨rfl,⟨q2,rfl⟩⟩))
   repeat (go_quiet ((go_at_call 49;exact quiet_addO (K2.out _ (hb.out _ _))));try go_wp2)
   go_ret
   exact ⟨rfl,by repeat (first|exact hb.out _ _|apply pw_below_drewN)⟩
  have f3:decide (0≤a3)=false:=zD e3
  rw [f3]
  clear e3
  go_enter Tryz.func26,Tryz.ntmps26
  go_wp2_with (first|(go_at_call 48;(with_reducible refine (K0.out _ (hb0.out _)).mono ?_);rintro e w1 ⟨rfl,⟨q,rfl⟩⟩)|(go_at_call 48;(with_reducible refine (K1.out _ (hb.out _ q)).mono ?_);rintro e w1 ⟨rfl,⟨q2,rfl⟩⟩))
  repeat (go_quiet ((go_at_call 49;exact quiet_addO (K2.out _ (hb.out _ _))));try go_wp2)
  go_ret
  exact ⟨rfl,by repeat (first|exact hb.out _ _|apply pw_below_drewN)⟩
 have f2:(a2 == nf)=false:=by simpa using e2
 rw [zD e2]
 clear e2
 go_enter Tryz.func26,Tryz.ntmps26
 go_wp2_with (first|(go_at_call 48;(with_reducible refine (K0.out _ (hb0.out _)).mono ?_);rintro e w1 ⟨rfl,⟨q,rfl⟩⟩)|(go_at_call 48;(with_reducible refine (K1.out _ (hb.out _ q)).mono ?_);rintro e w1 ⟨rfl,⟨q2,rfl⟩⟩))
 repeat (go_quiet ((go_at_call 49;exact quiet_addO (K2.out _ (hb.out _ _))));try go_wp2)
 go_ret
 exact ⟨rfl,by repeat (first|exact hb.out _ _|apply pw_below_drewN)⟩
set_option maxHeartbeats 4000000 in
set_option maxRecDepth 100000 in
theorem refRight_some (nf:Int)(ht:exergueref07_Figures.f k l0=some true)(hu:exergueref07_Figures.f k l1=some true)(hn:exergueref07_Full.f k l1=some nf)(h0:0<l0.length)(h1:¬ rd l0 0=0):Calls Tryz.prog 26 #[.agg #[.slice A0 l0.length c0,.slice A1 l1.length c1,.int .i64 a2,.int .i64 a3]] w (RPost w (decide (a2=nf) && (decide (0≤a3) && decide (a3≤1000)))):=by
 have k0:=fun W (hb:Below w.heap.size w W)=>exergueref07_Figures.calls k A0 c0 l0 _ W (Kd.C_below hr0 hb) hc0 ht
 have hb:=zA (fun (o:Obj) (n:Nat)=>pw_below_drewN ((Below.refl _ w).alloc (Nat.le_refl _) o) n)
 have hb0:=zA (fun (o:Obj)=>(Below.refl _ w).alloc (Nat.le_refl _) o)
 have K0:=zA k0
 have k1:=fun W (hb:Below w.heap.size w W)=>exergueref07_Figures.calls k A1 c1 l1 _ W (Kd.C_below hr1 hb) hc1 hu
 have K1:=zA k1
 clear k0 k1 ht hu
 have k2:=fun W (hb:Below w.heap.size w W)=>(exergueref07_Full.calls k A1 c1 l1 nf W (Kd.C_below hr1 hb) hc1 hn).mono (fun e w' (h:e = .returned (.int .i64 nf)∧Drawn0 W w')=>(⟨h.1,h.2.out⟩:e = .returned (.int .i64 nf)∧∃ m,w'=W.drewN m))
 have K2:=zA k2
 obtain ⟨ad,e1,hcell⟩:=Kd.at_int hr0 0 (by omega) (by omega)
 cases e1
 rw [show ((0:Int)).toNat=0 from rfl,Addr.add_zero'] at hcell
 have hlt:ad.block<w.heap.size:=World.block_lt_of_cell? w _ hcell
 clear hr0 hc0 hr1 hc1 k2 hn
 have d0:(rd l0 0 == 0)=false:=by simpa using h1
 generalize rd l0 0=v0 at hcell d0 h1
 have d1:decide (0<l0.length)=true:=zC h0
 have d2:decide (0<(l0.length:Int))=true:=zC (by omega)
 have d3:(0<l0.length)=True:=eq_true h0
 generalize l0.length=n0 at K0 d1 d2 d3 ⊢
 clear h0 h1
 generalize l1.length=n1 at K1 K2 ⊢
 by_cases e2:a2=nf
 ·have f2:(a2 == nf)=true:=by simpa using e2
  rw [zC e2]
  clear e2
  by_cases e3:0≤a3
  ·have f3:decide (0≤a3)=true:=zC e3
   rw [f3]
   clear e3
   go_enter Tryz.func26,Tryz.ntmps26
   go_wp2_with (first|(go_at_call 48;(with_reducible refine (K0.out _ (hb0.out _)).mono ?_);rintro e w1 ⟨rfl,⟨q,rfl⟩⟩)|(go_at_call 48;(with_reducible refine (K1.out _ (hb.out _ q)).mono ?_);rintro e w1 ⟨rfl,⟨q2,rfl⟩⟩))
   repeat (go_quiet ((go_at_call 49;exact quiet_addO (K2.out _ (hb.out _ _))));try go_wp2)
   go_ret
   exact ⟨rfl,by repeat (first|exact hb.out _ _|apply pw_below_drewN)⟩
  have f3:decide (0≤a3)=false:=zD e3
  rw [f3]
  clear e3
  go_enter Tryz.func26,Tryz.ntmps26
  go_wp2_with (first|(go_at_call 48;(with_reducible refine (K0.out _ (hb0.out _)).mono ?_);rintro e w1 ⟨rfl,⟨q,rfl⟩⟩)|(go_at_call 48;(with_reducible refine (K1.out _ (hb.out _ q)).mono ?_);rintro e w1 ⟨rfl,⟨q2,rfl⟩⟩))
  repeat (go_quiet ((go_at_call 49;exact quiet_addO (K2.out _ (hb.out _ _))));try go_wp2)
  go_ret
  exact ⟨rfl,by repeat (first|exact hb.out _ _|apply pw_below_drewN)⟩
 have f2:(a2 == nf)=false:=by simpa using e2
 rw [zD e2]
 clear e2
 go_enter Tryz.func26,Tryz.ntmps26
 go_wp2_with (first|(go_at_call 48;(with_reducible refine (K0.out _ (hb0.out _)).mono ?_);rintro e w1 ⟨rfl,⟨q,rfl⟩⟩)|(go_at_call 48;(with_reducible refine (K1.out _ (hb.out _ q)).mono ?_);rintro e w1 ⟨rfl,⟨q2,rfl⟩⟩))
 repeat (go_quiet ((go_at_call 49;exact quiet_addO (K2.out _ (hb.out _ _))));try go_wp2)
 go_ret
 exact ⟨rfl,by repeat (first|exact hb.out _ _|apply pw_below_drewN)⟩
end
theorem exergueref07_Right.calls (k:Nat)(A0_0:Option Addr)(c0_0:Nat)(l0_0:List Int)(A0_1:Option Addr)(c0_1:Nat)(l0_1:List Int)(a0_2:Int)(a0_3:Int)(r:Bool)(w:World)(hr0_0:Kd.C (Kd.int .u8) w A0_0 l0_0.length l0_0)(hc0_0:l0_0.length≤c0_0)(hr0_1:Kd.C (Kd.int .u8) w A0_1 l0_1.length l0_1)(hc0_1:l0_1.length≤c0_1)(h:exergueref07_Right.f k l0_0 l0_1 a0_2 a0_3=some r) :
    Calls Tryz.prog 26 #[.agg #[.slice A0_0 l0_0.length c0_0,.slice A0_1 l0_1.length c0_1,.int .i64 a0_2,.int .i64 a0_3]] w fun e w'=>e = .returned (.bool r)∧Below w.heap.size w w':=by
 unfold exergueref07_Right.f at h
 obtain ⟨t,ht,h⟩:=Option.bind_eq_some_iff.1 h
 obtain ⟨u,hu,h⟩:=Option.bind_eq_some_iff.1 h
 cases t with
 | false=>
  obtain rfl:false=r:=by simpa using h
  cases u with
  | false=>exact refRight_f_f k A0_0 c0_0 l0_0 A0_1 c0_1 l0_1 a0_2 a0_3 w hr0_0 hc0_0 hr0_1 hc0_1 ht hu
  | true=>exact refRight_f_t k A0_0 c0_0 l0_0 A0_1 c0_1 l0_1 a0_2 a0_3 w hr0_0 hc0_0 hr0_1 hc0_1 ht hu
 | true=>
  cases u with
  | false=>
   obtain rfl:false=r:=by simpa using h
   exact refRight_t_f k A0_0 c0_0 l0_0 A0_1 c0_1 l0_1 a0_2 a0_3 w hr0_0 hc0_0 hr0_1 hc0_1 ht hu
  | true=>
   simp only [if_true] at h
   by_cases h0:(l0_0.length:Int)>0
   ·rw [if_pos h0] at h
    by_cases h1:rd l0_0 0=0
    ·rw [if_pos h1] at h
     obtain rfl:=zE h
     exact refRight_nought k A0_0 c0_0 l0_0 A0_1 c0_1 l0_1 a0_2 a0_3 w hr0_0 hc0_0 hr0_1 hc0_1 ht hu (by omega) h1
    rw [if_neg h1] at h
    obtain ⟨nf,hn,h⟩:=Option.bind_eq_some_iff.1 h
    obtain rfl:=zE h
    exact refRight_some k A0_0 c0_0 l0_0 A0_1 c0_1 l0_1 a0_2 a0_3 w hr0_0 hc0_0 hr0_1 hc0_1 nf ht hu hn (by omega) h1
   rw [if_neg h0] at h
   obtain ⟨nf,hn,h⟩:=Option.bind_eq_some_iff.1 h
   obtain rfl:=zE h
   exact refRight_none k A0_0 c0_0 l0_0 A0_1 c0_1 l0_1 a0_2 a0_3 w hr0_0 hc0_0 hr0_1 hc0_1 nf ht hu hn (by omega)
end
end Go.Proofs.YtgfajgkjbckkgaaGreatDoor.PZ
end
section
noncomputable section
namespace Go.Proofs.YtgfajgkjbckkgaaGreatDoor.PZ
open Go.RowKit Go.Proofs.YtgfajgkjbckkgaaGreatDoorW.PrintWords Go.Proofs.YtgfajgkjbckkgaaGreatDoorW.PrintLast Go.Proofs.YtgfajgkjbckkgaaGreatDoorW.PrintMore
attribute [local go_sem] max2_int min2_int max_two min_two max_three min_three max_four min_four   -- for this text's walks alone
mutual
def exergueref11_number.l0:Nat→ByteArray→Int→Int→Int→Int→Option (Int×Int)
 | 0,_,_,_,_,_=>none
 | k+1,x0,x2,x8,x9,x10=>if x9<(x0.size:Int) then (if 0≤x9 then (if (bt x0 x9)≥48 then (exergueref11_number.j1 k x0 x2 x8 x9 x10 (decide ((bt x0 x9)≤57))) else (exergueref11_number.j1 k x0 x2 x8 x9 x10 false)) else (none)) else (exergueref11_number.j1 k x0 x2 x8 x9 x10 false)
def exergueref11_number.j1:Nat→ByteArray→Int→Int→Int→Int→Bool→Option (Int×Int)
 | 0,_,_,_,_,_,_=>none
 | k+1,x0,x2,x8,x9,x10,x30=>if x30=true then (if (wrap64 (x9 - x8))<9 then (if 0≤x9 then (if x9<(x0.size:Int) then (exergueref11_number.l0 k x0 x2 x8 (wrap64 (x9+1)) (wrap64 ((wrap64 (x10 * 10))+(((bt x0 x9) - 48) % 256)))) else (none)) else (none)) else (exergueref11_number.l0 k x0 x2 x8 (wrap64 (x9+1)) x10)) else (if x9=x8 then (some ((-1),x8)) else (if (wrap64 (x9 - x8))>9 then (some ((-1),x8)) else (if 0≤x8 then (if x8<(x0.size:Int) then (if (bt x0 x8)=48 then (if (wrap64 (x9 - x8))>1 then (some ((-1),x8)) else (if x10<x2 then (some ((-1),x8)) else (some (x10,x9)))) else (if x10<x2 then (some ((-1),x8)) else (some (x10,x9)))) else (none)) else (none))))
end
def exergueref11_number.f (k:Nat)(a0:ByteArray)(a1:Int)(a2:Int):Option (Int×Int):=(exergueref11_over.f k a0 a1).bind fun aa=>(exergueref11_number.l0 k a0 a2 aa aa 0)
theorem exergueref11_number.mono_l:∀ k,(∀ y0 y1 y2 y3 y4,LeO (exergueref11_number.l0 k y0 y1 y2 y3 y4) (exergueref11_number.l0 (k+1) y0 y1 y2 y3 y4))∧(∀ y0 y1 y2 y3 y4 y5,LeO (exergueref11_number.j1 k y0 y1 y2 y3 y4 y5) (exergueref11_number.j1 (k+1) y0 y1 y2 y3 y4 y5))
 | 0=>⟨fun _ _ _ _ _ r h=>by simp [exergueref11_number.l0] at h,fun _ _ _ _ _ _ r h=>by simp [exergueref11_number.j1] at h⟩
 | k+1=>by
  obtain ⟨ih0,ih1⟩:=exergueref11_number.mono_l k
  refine ⟨?_,?_⟩
  ·intro y0 y1 y2 y3 y4
   unfold exergueref11_number.l0
   repeat' first|(with_reducible first|apply ih0|apply ih1|apply exergueref11_over.mono|apply LeO.refl|apply LeO.none|refine LeO.ite ?_ ?_|refine LeO.bind ?_ (fun _=>?_))|apply ih0|apply ih1|apply exergueref11_over.mono|apply LeO.none
  ·intro y0 y1 y2 y3 y4 y5
   unfold exergueref11_number.j1
   repeat' first|(with_reducible first|apply ih0|apply ih1|apply exergueref11_over.mono|apply LeO.refl|apply LeO.none|refine LeO.ite ?_ ?_|refine LeO.bind ?_ (fun _=>?_))|apply ih0|apply ih1|apply exergueref11_over.mono|apply LeO.none
theorem exergueref11_number.mono:∀ a0 a1 a2 k,LeO (exergueref11_number.f k a0 a1 a2) (exergueref11_number.f (k+1) a0 a1 a2):=by
 intro a0 a1 a2 k
 obtain ⟨ih0,ih1⟩:=exergueref11_number.mono_l k
 unfold exergueref11_number.f
 repeat' first|(with_reducible first|apply ih0|apply ih1|apply exergueref11_over.mono|apply LeO.refl|apply LeO.none|refine LeO.ite ?_ ?_|refine LeO.bind ?_ (fun _=>?_))|apply ih0|apply ih1|apply exergueref11_over.mono|apply LeO.none
set_option maxHeartbeats 8000000 in
set_option maxRecDepth 100000 in
theorem exergueref11_number.calls (k:Nat)(a0:ByteArray)(a1:Int)(a2:Int)(r1:Int)(r2:Int)(w:World)(h:exergueref11_number.f k a0 a1 a2=some (r1,r2)) :
  Calls Tryz.prog 96 #[.string a0,.int .i64 a1,.int .i64 a2] w fun e w'=>e = .returned (.tuple #[.int .i64 r1,.int .i64 r2])∧Drawn0 w w':=by
 have H:((exergueref11_over.f k a0 a1).bind fun aa=>(exergueref11_number.l0 k a0 a2 aa aa 0))=some (r1,r2):=h
 clear h
 replace H:=Option.bind_eq_some_iff.mp H
 obtain ⟨aa,A40,H⟩:=H
 try dsimp only at H
 have A4:=zS A40
 clear A40
 have H':=zS H
 clear H
 go_enter Tryz.func96,Tryz.ntmps96
 go_wp2_with (first|((with_reducible refine gate_callee (f:=72) rfl ?_);refine gL (some 13) Tryz.func72 #[.string a0,.int .i64 a1] ?_;(with_reducible refine (exergueref11_over.calls k a0 a1 aa _ A4.out).mono ?_);rintro e w' ⟨rfl,⟨nd,rfl⟩⟩;refine ⟨_,rfl,?_⟩))
 go_loopg [9,10] k (fun kq v9 v10 w'=>∃ (ab:Int) (ac:Int),v9 = .int .i64 ab∧v10 = .int .i64 ac∧Sd (exergueref11_number.l0 kq a0 a2 aa ab ac=some (r1,r2))∧Sd (kq≤k)∧Drawn0 w w')
 case atStart=>exact ⟨(aa),(0),(by first|rfl|(simp;done)|(simp [*];done)),(by first|rfl|(simp;done)|(simp [*];done)),H',⟨Nat.le_refl _⟩,by repeat (first|exact Drawn0.refl _|apply Drawn0.step)⟩
 case round=>
  clear H'
  try clear p2
  obtain ⟨ab,ac,rfl,rfl,HA,HK1,⟨m1,rfl⟩⟩:=hrel
  cases gk with
  | zero=>exact absurd HA.out (by simp [exergueref11_number.l0])
  | succ k1=>
   have H:=HA.out
   clear HA
   simp only [exergueref11_number.l0] at H
   have HC5:=zS H
   clear H
   go_upto_region 4 with (fail)
   go_cut [30] (fun v30 wc=>∃ (kq:Nat) (ad:Bool),v30 = .bool ad∧Sd (exergueref11_number.j1 kq a0 a2 aa ab ac ad=some (r1,r2))∧Sd (kq≤k1)∧Drawn0 w wc)
   case first=>
    have H:=HC5.out
    clear HC5
    by_cases c6:ab<(a0.size:Int)
    rotate_left
    ·rw [if_neg c6] at H
     have ae:=zD c6
     clear c6
     (first|rw [ae]|(simp only [i64_w,i32_w];rw [ae])|rw [aq]|skip)
     have H':=zS H
     clear H
     go_wp2
     go_meet
     case rel=>exact ⟨_,(false),(by first|rfl|(simp;done)|(simp [*];done)),H',⟨by have:=HK1.out;first|omega|exact Nat.le_refl _⟩,by repeat (first|exact Drawn0.refl _|apply Drawn0.step)⟩
    rw [if_pos c6] at H
    have ae:=zC c6
    clear c6
    (first|rw [ae]|(simp only [i64_w,i32_w];rw [ae])|rw [aq]|skip)
    by_cases c7:0≤ab
    rotate_left
    ·rw [if_neg c7] at H
     exact absurd H (by simp)
    rw [if_pos c7] at H
    have ar:=zC c7
    clear c7
    by_cases c9:(bt a0 ab)≥48
    ·rw [if_pos c9] at H
     have ag:decide (48≤(bt a0 ab))=true:=zC c9
     clear c9
     have H':=zS H
     clear H
     have p8:0≤(ab:Int):=zB (by first|(with_reducible assumption)|assumption)
     have q8:ab<(a0.size:Int):=zB (by first|(with_reducible assumption)|assumption)
     have hx8:=bt_at a0 ab
     replace p8:=eq_true p8
     replace q8:=eq_true q8
     have p10:0≤(ab:Int):=zB (by first|(with_reducible assumption)|assumption)
     have q10:ab<(a0.size:Int):=zB (by first|(with_reducible assumption)|assumption)
     have au:=bt_at a0 ab
     replace p10:=eq_true p10
     replace q10:=eq_true q10
     go_wp2
     go_meet
     case rel=>exact ⟨_,(decide ((bt a0 ab)≤57)),(by first|rfl|(simp;done)|(simp [*];done)),H',⟨by have:=HK1.out;first|omega|exact Nat.le_refl _⟩,by repeat (first|exact Drawn0.refl _|apply Drawn0.step)⟩
    rw [if_neg c9] at H
    have ag:decide (48≤(bt a0 ab))=false:=zD c9
    clear c9
    have H':=zS H
    clear H
    have p8:0≤(ab:Int):=zB (by first|(with_reducible assumption)|assumption)
    have q8:ab<(a0.size:Int):=zB (by first|(with_reducible assumption)|assumption)
    have hx8:=bt_at a0 ab
    replace p8:=eq_true p8
    replace q8:=eq_true q8
    go_wp2
    go_meet
    case rel=>exact ⟨_,(false),(by first|rfl|(simp;done)|(simp [*];done)),H',⟨by have:=HK1.out;first|omega|exact Nat.le_refl _⟩,by repeat (first|exact Drawn0.refl _|apply Drawn0.step)⟩
   case rest=>
    clear HC5
    try clear p1
    try clear q1
    try clear hx1
    try clear p2
    try clear c6
    try clear ae
    try clear c7
    try clear ar
    try clear p8
    try clear q8
    try clear hx8
    try clear c9
    try clear ag
    try clear p10
    try clear q10
    try clear au
    try clear p10
    try clear p2
    try clear p8
    try clear q10
    try clear q8
    obtain ⟨kq,ad,rfl,HA,HJ4,⟨mc4,rfl⟩⟩:=hcut
    cases kq with
    | zero=>exact absurd HA.out (by simp [exergueref11_number.j1])
    | succ kj4=>
     have H:=HA.out
     clear HA
     simp only [exergueref11_number.j1] at H
     by_cases c11:ad=true
     ·subst c11
      rw [if_pos rfl] at H
      by_cases c12:(wrap64 (ab - aa))<9
      rotate_left
      ·rw [if_neg c12] at H
       have ah:=zD c12
       clear c12
       have H':=zS H
       clear H
       go_wp2
       go_roundg kj4
       case measure=>have:=HK1.out;have:=HJ4.out;omega
       case rel=>exact ⟨(wrap64 (ab+1)),(ac),(by first|rfl|(simp;done)|(simp [*];done)),(by first|rfl|(simp;done)|(simp [*];done)),H',⟨by have:=HK1.out;have:=HJ4.out;omega⟩,by repeat (first|exact Drawn0.refl _|apply Drawn0.step)⟩
      rw [if_pos c12] at H
      have ah:=zC c12
      clear c12
      by_cases c13:0≤ab
      rotate_left
      ·rw [if_neg c13] at H
       exact absurd H (by simp)
      rw [if_pos c13] at H
      have av:=zC c13
      clear c13
      by_cases c14:ab<(a0.size:Int)
      ·rw [if_pos c14] at H
       have aw:=zC c14
       clear c14
       have H':=zS H
       clear H
       have p15:0≤(ab:Int):=zB (by first|(with_reducible assumption)|assumption)
       have q15:ab<(a0.size:Int):=zB (by first|(with_reducible assumption)|assumption)
       have az:=bt_at a0 ab
       replace p15:=eq_true p15
       replace q15:=eq_true q15
       go_wp2
       go_roundg kj4
       case measure=>have:=HK1.out;have:=HJ4.out;omega
       case rel=>(try simp only [show wrap64 ((bt a0 ab - 48) % 256)=(bt a0 ab - 48) % 256 from by (unfold wrap64;omega)]);exact ⟨(wrap64 (ab+1)),(wrap64 ((wrap64 (ac * 10))+(((bt a0 ab) - 48) % 256))),(by first|rfl|(simp;done)|(simp [*];done)),(by first|rfl|(simp;done)|(simp [*];done)),H',⟨by have:=HK1.out;have:=HJ4.out;omega⟩,by repeat (first|exact Drawn0.refl _|apply Drawn0.step)⟩
      rw [if_neg c14] at H
      exact absurd H (by simp)
     replace c11:=Bool.eq_false_iff.mpr c11
     subst c11
     rw [if_neg (show ¬ (false=true) by decide)] at H
     by_cases c16:ab=aa
     ·rw [if_pos c16] at H
      have ai:(ab == aa)=true:=zH c16
      have aj:(ab != aa)=false:=zG c16
      clear c16
      simp only [Option.some.injEq,Prod.mk.injEq] at H
      obtain ⟨rfl,rfl⟩:=H
      go_wp2
      go_ret2
      exact ⟨by first|rfl|(simp;done)|(simp [*];done),by repeat (first|exact Drawn0.refl _|apply Drawn0.step)⟩
     rw [if_neg c16] at H
     have ai:(ab == aa)=false:=zF c16
     have aj:(ab != aa)=true:=zI c16
     by_cases c17:(wrap64 (ab - aa))>9
     ·rw [if_pos c17] at H
      have ak:decide (9<(wrap64 (ab - aa)))=true:=zC c17
      clear c17
      simp only [Option.some.injEq,Prod.mk.injEq] at H
      obtain ⟨rfl,rfl⟩:=H
      go_wp2
      go_ret2
      exact ⟨by first|rfl|(simp;done)|(simp [*];done),by repeat (first|exact Drawn0.refl _|apply Drawn0.step)⟩
     rw [if_neg c17] at H
     have ak:decide (9<(wrap64 (ab - aa)))=false:=zD c17
     clear c17
     by_cases c18:0≤aa
     rotate_left
     ·rw [if_neg c18] at H
      exact absurd H (by simp)
     rw [if_pos c18] at H
     have ax:=zC c18
     clear c18
     by_cases c19:aa<(a0.size:Int)
     rotate_left
     ·rw [if_neg c19] at H
      exact absurd H (by simp)
     rw [if_pos c19] at H
     have ay:=zC c19
     clear c19
     by_cases c21:(bt a0 aa)=48
     rotate_left
     ·rw [if_neg c21] at H
      have al:((bt a0 aa) == 48)=false:=zF c21
      have am:((bt a0 aa) != 48)=true:=zI c21
      by_cases c24:ac<a2
      ·rw [if_pos c24] at H
       have an:=zC c24
       clear c24
       simp only [Option.some.injEq,Prod.mk.injEq] at H
       obtain ⟨rfl,rfl⟩:=H
       have p20:0≤(aa:Int):=zB (by first|(with_reducible assumption)|assumption)
       have q20:aa<(a0.size:Int):=zB (by first|(with_reducible assumption)|assumption)
       have af:=bt_at a0 aa
       replace p20:=eq_true p20
       replace q20:=eq_true q20
       go_wp2
       go_ret2
       exact ⟨by first|rfl|(simp;done)|(simp [*];done),by repeat (first|exact Drawn0.refl _|apply Drawn0.step)⟩
      rw [if_neg c24] at H
      have an:=zD c24
      clear c24
      simp only [Option.some.injEq,Prod.mk.injEq] at H
      obtain ⟨rfl,rfl⟩:=H
      have p20:0≤(aa:Int):=zB (by first|(with_reducible assumption)|assumption)
      have q20:aa<(a0.size:Int):=zB (by first|(with_reducible assumption)|assumption)
      have af:=bt_at a0 aa
      replace p20:=eq_true p20
      replace q20:=eq_true q20
      go_wp2
      go_ret2
      exact ⟨by first|rfl|(simp;done)|(simp [*];done),by repeat (first|exact Drawn0.refl _|apply Drawn0.step)⟩
     rw [if_pos c21] at H
     have al:((bt a0 aa) == 48)=true:=zH c21
     have am:((bt a0 aa) != 48)=false:=zG c21
     clear c21
     by_cases c22:(wrap64 (ab - aa))>1
     ·rw [if_pos c22] at H
      have ao:decide (1<(wrap64 (ab - aa)))=true:=zC c22
      clear c22
      simp only [Option.some.injEq,Prod.mk.injEq] at H
      obtain ⟨rfl,rfl⟩:=H
      have p20:0≤(aa:Int):=zB (by first|(with_reducible assumption)|assumption)
      have q20:aa<(a0.size:Int):=zB (by first|(with_reducible assumption)|assumption)
      have af:=bt_at a0 aa
      replace p20:=eq_true p20
      replace q20:=eq_true q20
      go_wp2
      go_ret2
      exact ⟨by first|rfl|(simp;done)|(simp [*];done),by repeat (first|exact Drawn0.refl _|apply Drawn0.step)⟩
     rw [if_neg c22] at H
     have ao:decide (1<(wrap64 (ab - aa)))=false:=zD c22
     clear c22
     by_cases c23:ac<a2
     ·rw [if_pos c23] at H
      have ap:=zC c23
      clear c23
      simp only [Option.some.injEq,Prod.mk.injEq] at H
      obtain ⟨rfl,rfl⟩:=H
      have p20:0≤(aa:Int):=zB (by first|(with_reducible assumption)|assumption)
      have q20:aa<(a0.size:Int):=zB (by first|(with_reducible assumption)|assumption)
      have af:=bt_at a0 aa
      replace p20:=eq_true p20
      replace q20:=eq_true q20
      go_wp2
      go_ret2
      exact ⟨by first|rfl|(simp;done)|(simp [*];done),by repeat (first|exact Drawn0.refl _|apply Drawn0.step)⟩
     rw [if_neg c23] at H
     have ap:=zD c23
     clear c23
     simp only [Option.some.injEq,Prod.mk.injEq] at H
     obtain ⟨rfl,rfl⟩:=H
     have p20:0≤(aa:Int):=zB (by first|(with_reducible assumption)|assumption)
     have q20:aa<(a0.size:Int):=zB (by first|(with_reducible assumption)|assumption)
     have af:=bt_at a0 aa
     replace p20:=eq_true p20
     replace q20:=eq_true q20
     go_wp2
     go_ret2
     exact ⟨by first|rfl|(simp;done)|(simp [*];done),by repeat (first|exact Drawn0.refl _|apply Drawn0.step)⟩
end Go.Proofs.YtgfajgkjbckkgaaGreatDoor.PZ
end
end
section
noncomputable section
namespace Go.Proofs.YtgfajgkjbckkgaaGreatDoor.PZ
open Go.RowKit Go.Proofs.YtgfajgkjbckkgaaGreatDoorW.PrintWords Go.Proofs.YtgfajgkjbckkgaaGreatDoorW.PrintLast Go.Proofs.YtgfajgkjbckkgaaGreatDoorW.PrintMore
attribute [local go_sem] max2_int min2_int max_two min_two max_three min_three max_four min_four   -- for this text's walks alone
mutual
def exergueref05_Number.l0:Nat→Int→ByteArray→Option (ByteArray)
 | 0,_,_=>none
 | k+1,x0,x3=>if x0≥10 then ((some (([(wrap64 (48+(Int.tmod (wrap64 (Int.tdiv x0 10)) 10))) % 256]:List Int):List Int)).bind fun ac=>(if (strOfNums ac).size+x3.size≤9223372036854775807 then (exergueref05_Number.l0 k (wrap64 (Int.tdiv x0 10)) ((strOfNums ac) ++ x3)) else (none))) else (some x3)
def exergueref05_Number.f:Nat→Int→Option (ByteArray)
 | 0,_=>none
 | k+1,a0=>if a0<0 then ((exergueref05_Number.f k (wrap64 (-a0))).bind fun ab=>(if 1+ab.size≤9223372036854775807 then (some ((⟨#[45]⟩:ByteArray) ++ ab)) else (none))) else (exergueref05_Number.l0 k a0 (strOfNums (([(wrap64 (48+(Int.tmod a0 10))) % 256]:List Int))))
end
theorem exergueref05_Number.mono_l:∀ k,(∀ y0,LeO (exergueref05_Number.f k y0) (exergueref05_Number.f (k+1) y0))∧(∀ y0 y1,LeO (exergueref05_Number.l0 k y0 y1) (exergueref05_Number.l0 (k+1) y0 y1))
 | 0=>⟨fun _ r h=>by simp [exergueref05_Number.f] at h,fun _ _ r h=>by simp [exergueref05_Number.l0] at h⟩
 | k+1=>by
  obtain ⟨ih0,ih1⟩:=exergueref05_Number.mono_l k
  refine ⟨?_,?_⟩
  ·intro y0
   unfold exergueref05_Number.f
   repeat' first|(with_reducible first|apply ih0|apply ih1|apply LeO.refl|apply LeO.none|refine LeO.ite ?_ ?_|refine LeO.bind ?_ (fun _=>?_))|apply ih0|apply ih1|apply LeO.none
  ·intro y0 y1
   unfold exergueref05_Number.l0
   repeat' first|(with_reducible first|apply ih0|apply ih1|apply LeO.refl|apply LeO.none|refine LeO.ite ?_ ?_|refine LeO.bind ?_ (fun _=>?_))|apply ih0|apply ih1|apply LeO.none
theorem exergueref05_Number.mono:∀ a0 k,LeO (exergueref05_Number.f k a0) (exergueref05_Number.f (k+1) a0):=by
 intro a0 k
 obtain ⟨ih0,ih1⟩:=exergueref05_Number.mono_l k
 exact ih0 a0
set_option maxHeartbeats 8000000 in
set_option maxRecDepth 100000 in
theorem exergueref05_Number.calls (k:Nat):∀ (a0:Int) (r:ByteArray) (w:World) (h:exergueref05_Number.f k a0=some r),
  Calls Tryz.prog 58 #[.int .i64 a0] w fun e w'=>e = .returned (.string r)∧Below w.heap.size w w':=by
 induction k using Nat.strongRecOn with
 | _ k ih=>
 intro a0 r w h
 cases k with
 | zero=>exact absurd h (by simp [exergueref05_Number.f])
 | succ k=>
 simp only [exergueref05_Number.f] at h
 have HB:=zS (Below.refl w.heap.size w)
 have H:(if a0<0 then ((exergueref05_Number.f k (wrap64 (-a0))).bind fun ab=>(if 1+ab.size≤9223372036854775807 then (some ((⟨#[45]⟩:ByteArray) ++ ab)) else (none))) else (exergueref05_Number.l0 k a0 (strOfNums (([(wrap64 (48+(Int.tmod a0 10))) % 256]:List Int)))))=some r:=h
 clear h
 by_cases c2:a0<0
 ·rw [if_pos c2] at H
  have aj:=zC c2
  clear c2
  replace H:=Option.bind_eq_some_iff.mp H
  obtain ⟨ab,A30,H⟩:=H
  try dsimp only at H
  have A3:=zS A30
  clear A30
  by_cases c4:1+ab.size≤9223372036854775807
  ·rw [if_pos c4] at H
   have an:=eq_true c4
   have ao:=zC c4
   try have ap:(9223372036854775807<1+ab.size)=False:=eq_false (Nat.not_lt.2 c4)
   obtain rfl:=zE H
   go_enter Tryz.func58,Tryz.ntmps58
   go_wp2_with (first|((with_reducible refine gate_callee (f:=58) rfl ?_);refine gL (some 8) Tryz.func58 #[.int .i64 (wrap64 (-a0))] ?_;(with_reducible refine (ih k (by omega) (wrap64 (-a0)) ab _ A3.out).mono ?_);rintro e w5 ⟨rfl,hb⟩;refine ⟨_,rfl,?_⟩;replace HB:=bs HB hb;(try clear hb)))
   go_ret
   exact ⟨by first|rfl|(simp <;> rfl)|(simp [*] <;> rfl),bQ HB⟩
  rw [if_neg c4] at H
  exact absurd H (by simp)
 rw [if_neg c2] at H
 have aj:=zD c2
 clear c2
 obtain ⟨ak,ad⟩:∃ y_:List Int,y_=(([(wrap64 (48+(Int.tmod a0 10))) % 256]:List Int)):=⟨_,rfl⟩
 replace H:(exergueref05_Number.l0 k a0 (strOfNums ak))=some r:=by first|(rw [ad];with_reducible exact H)|(have H2_:=(Option.bind_some _ _).symm.trans H;rw [ad];with_reducible exact H2_)|(have H2_:=(Option.bind_some _ _).symm.trans H;with_reducible exact H2_)|with_reducible exact H|(rw [ad];exact H)|exact H
 have ah:=zS ad
 clear ad
 have H':=zS H
 clear H
 go_enter Tryz.func58,Tryz.ntmps58
 go_wp2_with (first|((with_reducible refine gate_dst (N:=14) rfl ?_);refine Kd.R_lit (Kd.int .u8) _ 5 ?hg (N:=14) ?hd (xs:=([(wrap64 (48+(Int.tmod a0 10))) % 256]:List Int)) (inner:=[.int .u8 ((wrap64 (48+(Int.tmod a0 10))) % 256)]) (ok:=fun _=>True) (okp:=fun _=>True) ?hr ?hp (fun _ hk=>hk) trivial (Below.refl _ _) (Nat.le_refl _) (by simp) ?_;(case hd=>rfl);(case hg=>rfl);(case hr=>first|(go_simp;done)|(go_simp;rfl));(case hp=>exact (Reps.one (show Kd.M (Kd.int .u8) _ _ _ ((wrap64 (48+(Int.tmod a0 10))) % 256) [.int .u8 ((wrap64 (48+(Int.tmod a0 10))) % 256)] from rfl) (Reps.none _ _)));intro aw w6 ho7 hb hg_ hnew_;clear hg_ hnew_;(first|rw [← ah.out] at ho7|(simp only [Int.reduceToNat] at ho7;rw [← ah.out] at ho7));have al:=zS (Kd.R_lower ho7 (bz HB));replace HB:=bs HB hb;clear hb ho7;have hcv8:=own_string (P:=Tryz.prog) Tryz.underlying34 Tryz.underlying5 Tryz.underlying9 (Kd.own_of_R al.out)))
 go_loopg [0,3] k (fun kq v0 v3 w'=>∃ (aa:Int) (ae:ByteArray),v0 = .int .i64 aa∧v3 = .string ae∧Sd (exergueref05_Number.l0 kq aa ae=some r)∧Sd (kq≤k)∧Sd (Below w.heap.size w w'))
 case atStart=>exact ⟨(a0),(strOfNums ak),(by first|rfl|(simp;done)|(simp [*];done)),(by first|rfl|(simp;done)|(simp [*];done)),H',⟨Nat.le_refl _⟩,⟨bQ HB⟩⟩
 case round=>
  clear H'
  try clear c2
  try clear aj
  try clear p2
  try clear c4
  try clear an
  try clear ao
  try clear ap
  try clear c5
  try clear p6
  try clear hcv8
  obtain ⟨aa,ae,rfl,rfl,HA,HK1,HB⟩:=hrel
  cases gk with
  | zero=>exact absurd HA.out (by simp [exergueref05_Number.l0])
  | succ k1=>
   have H:=HA.out
   clear HA
   simp only [exergueref05_Number.l0] at H
   by_cases c9:aa≥10
   rotate_left
   ·rw [if_neg c9] at H
    have aq:decide (10≤aa)=false:=zD c9
    clear c9
    obtain rfl:=zE H
    go_wp2
    go_ret
    exact ⟨by first|rfl|(simp <;> rfl)|(simp [*] <;> rfl),bQ HB⟩
   rw [if_pos c9] at H
   have aq:decide (10≤aa)=true:=zC c9
   clear c9
   obtain ⟨ac,af⟩:∃ y_:List Int,y_=(([(wrap64 (48+(Int.tmod (wrap64 (Int.tdiv aa 10)) 10))) % 256]:List Int)):=⟨_,rfl⟩
   replace H:(if (strOfNums ac).size+ae.size≤9223372036854775807 then (exergueref05_Number.l0 k1 (wrap64 (Int.tdiv aa 10)) ((strOfNums ac) ++ ae)) else (none))=some r:=by first|(rw [af];with_reducible exact H)|(have H2_:=(Option.bind_some _ _).symm.trans H;rw [af];with_reducible exact H2_)|(have H2_:=(Option.bind_some _ _).symm.trans H;with_reducible exact H2_)|with_reducible exact H|(rw [af];exact H)|exact H
   have ai:=zS af
   clear af
   by_cases c10:(strOfNums ac).size+ae.size≤9223372036854775807
   ·rw [if_pos c10] at H
    have ar:=eq_true c10
    have au:=zC c10
    try have av:(9223372036854775807<(strOfNums ac).size+ae.size)=False:=eq_false (Nat.not_lt.2 c10)
    have H':=zS H
    clear H
    go_wp2_with (first|((with_reducible refine gate_dst (N:=24) rfl ?_);refine Kd.R_lit (Kd.int .u8) _ 5 ?hg (N:=24) ?hd (xs:=([(wrap64 (48+(Int.tmod (wrap64 (Int.tdiv aa 10)) 10))) % 256]:List Int)) (inner:=[.int .u8 ((wrap64 (48+(Int.tmod (wrap64 (Int.tdiv aa 10)) 10))) % 256)]) (ok:=fun _=>True) (okp:=fun _=>True) ?hr ?hp (fun _ hk=>hk) trivial (Below.refl _ _) (Nat.le_refl _) (by simp) ?_;(case hd=>rfl);(case hg=>rfl);(case hr=>first|(go_simp;done)|(go_simp;rfl));(case hp=>exact (Reps.one (show Kd.M (Kd.int .u8) _ _ _ ((wrap64 (48+(Int.tmod (wrap64 (Int.tdiv aa 10)) 10))) % 256) [.int .u8 ((wrap64 (48+(Int.tmod (wrap64 (Int.tdiv aa 10)) 10))) % 256)] from rfl) (Reps.none _ _)));intro ax w11 ag hb hg_ hnew_;clear hg_ hnew_;(first|rw [← ai.out] at ag|(simp only [Int.reduceToNat] at ag;rw [← ai.out] at ag));have am:=zS (Kd.R_lower ag (bz HB));replace HB:=bs HB hb;clear hb ag;have hcv13:=own_string (P:=Tryz.prog) Tryz.underlying34 Tryz.underlying5 Tryz.underlying9 (Kd.own_of_R am.out)))
    go_roundg k1
    case measure=>have:=HK1.out;omega
    case rel=>exact ⟨(wrap64 (Int.tdiv aa 10)),((strOfNums ac) ++ ae),(by first|rfl|(simp;done)|(simp [*];done)),(by first|rfl|(simp;done)|(simp [*];done)),H',⟨by have:=HK1.out;omega⟩,⟨bQ HB⟩⟩
   rw [if_neg c10] at H
   exact absurd H (by simp)
end Go.Proofs.YtgfajgkjbckkgaaGreatDoor.PZ
end
end
section
noncomputable section
namespace Go.Proofs.YtgfajgkjbckkgaaGreatDoor.PZ
open Go.RowKit Go.Proofs.YtgfajgkjbckkgaaGreatDoorW.PrintWords Go.Proofs.YtgfajgkjbckkgaaGreatDoorW.PrintLast Go.Proofs.YtgfajgkjbckkgaaGreatDoorW.PrintMore
attribute [local go_sem] max2_int min2_int max_two min_two max_three min_three max_four min_four   -- for this text's walks alone
def oper_told_f.f (ae:List Int)(aa:List Int)(aj:Int)(ak:Int):Option (List Int):=(oper_bare.f aa).bind fun af=>(some af)
set_option maxHeartbeats 8000000 in
set_option maxRecDepth 100000 in
theorem oper_told_f.calls (an:Option Addr)(ao:Nat)(ae:List Int)(ab:Nat→Prop)(ag:Option Addr)(ah:Nat)(aa:List Int)(aj:Int)(ak:Int)(r:List Int)(w:World)(al:Kd.C (Kd.int .u8) w an ae.length ae)(am:ae.length≤ao)(ap:Kd.V (Kd.int .u8) 5 w w.heap.size (fun k_=>ab k_) (.slice ag aa.length ah) aa)(h:oper_told_f.f ae aa aj ak=some r) :
  Calls Tryz.prog 104 #[.agg #[.slice an ae.length ao,.slice ag aa.length ah,.int .i64 aj,.int .i64 ak]] w fun e w'=>∃ v0_:Value,e = .returned (v0_)∧Kd.V (Kd.int .u8) 5 w' w.heap.size (fun k_=>(ab k_∨w.heap.size≤k_)) v0_ r∧Below w.heap.size w w':=by
 have hu136:=Tryz.underlying136
 have ar:=zS al
 have au:=zS am
 clear al am
 have ac:=zS (show Kd.V (Kd.int .u8) 5 w w.heap.size (fun k_=>(ab k_∨w.heap.size≤k_)) (.slice ag aa.length ah) aa from Kd.V_mono ap (fun k_ hk=>.inl hk))
 have HB:=zS (Below.refl w.heap.size w)
 have H:((oper_bare.f aa).bind fun af=>(some af))=some r:=h
 clear h
 replace H:=Option.bind_eq_some_iff.mp H
 obtain ⟨af,A20,H⟩:=H
 try dsimp only at H
 have A2:=zS A20
 clear A20
 obtain rfl:=zE H
 go_enter Tryz.func104,Tryz.ntmps104
 go_wp2_with (first|((with_reducible refine gate_dst (N:=1) rfl ?_);refine box_event ?hg (N:=1) ?hd (cs:=#[.slice an ae.length ao,.slice ag aa.length ah,.int .i64 aj,.int .i64 ak]) (t:=136) ?hr ?_;(case hd=>rfl);(case hg=>rfl);(case hr=>first|(go_simp;done)|(go_simp;rfl));intro ai hg w3 hbox hb;replace ac:=zS (Kd.V_below (Kd.V_elderB (vo ac) ai (Nat.le_of_eq hg.symm)) hb);have ad:=zS (hbox);have av:=bg HB hg;replace HB:=bs HB hb;clear hb hbox hg;have aw:=blkc4 ad.out;have ax:=blkf4 ad.out)|((with_reducible refine gate_callee (f:=107) rfl ?_);refine gL (some 5) Tryz.func107 #[.slice ag aa.length ah] ?_;(with_reducible refine (oper_bare.calls (fun k_=>((ab k_∨w.heap.size≤k_)∧k_≠ai)) _ _ aa af _ ?side1 A2.out).mono ?_);(case side1=>exact ac.out);rintro e w5 ⟨ay,rfl,ho0,hb⟩;refine ⟨_,rfl,?_⟩;replace ac:=vb ac hb;have aq:=zS (Kd.V_lower (Kd.V_mono (ok':=fun k_=>(ab k_∨w.heap.size≤k_)∧k_≠ai) ho0 (fun k_ hk_=>⟨Or.elim hk_ (fun hs_=>hs_.1) (fun hn_=>(.inr (Nat.le_trans (bz HB) hn_))),Or.elim hk_ (fun hs_=>hs_.2) (fun hn_=>(Kd.freshB (ko ad) k_ hn_))⟩)) (bz HB));replace ad:=kb ad hb;replace HB:=bs HB hb;(try clear hb);(try clear ho0)))
 go_ret
 exact ⟨_,by first|rfl|(simp <;> rfl)|(simp [*] <;> rfl),by (with_reducible repeat (first|apply Kd.V_alloc|apply Kd.V_drewN|apply Kd.V_drew));exact Kd.V_mono aq.out (fun _ hk=>hk.1),bQ HB⟩
end Go.Proofs.YtgfajgkjbckkgaaGreatDoor.PZ
end
end
