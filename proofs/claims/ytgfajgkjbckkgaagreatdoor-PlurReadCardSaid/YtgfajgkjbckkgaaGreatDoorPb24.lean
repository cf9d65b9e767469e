/- Texts of this seat, joined. Conditions: none beyond each statement's own. -/
import Derived.Test.YtgfajgkjbckkgaaGreatDoorPb20
set_option linter.all false
section
set_option maxRecDepth 100000
namespace Go.Proofs.YtgfajgkjbckkgaaGreatDoor.PZ
open Go.RowKit Go.Proofs.YtgfajgkjbckkgaaGreatDoorW.PrintWords Go.Proofs.YtgfajgkjbckkgaaGreatDoorW.PrintLast
section
section
variable {s:ByteArray}(hs:s.size≤400)
include hs
theorem over_sign {a:Nat}(ha:a≤s.size)(x:ByteArray)(hx:x.size≤10):a+bl ((bytesOf s).drop a)≤s.size∧exergueref11_sign.f s ((a+bl ((bytesOf s).drop a):Nat):Int) x=some (signP (bytesOf x) ((bytesOf s).drop a)):=by
 have hA:=run_size isBl s a ha
 change a+bl ((bytesOf s).drop a)≤s.size at hA
 refine ⟨hA,?_⟩
 rw [sign_f hs hA hx]
 unfold signP
 rw [bl_drop]
omit hs in
theorem sign_room {a:Nat}(ha:a≤s.size){x:List Int}(h:signP x ((bytesOf s).drop a)=true):a+bl ((bytesOf s).drop a)+x.length≤s.size:=by
 have h1:=sign_len h
 rw [List.length_drop,bytesOf_length] at h1
 omega
omit hs in
theorem num_room {a n:Nat}(ha:a≤s.size){least v:Int}(h:numP least ((bytesOf s).drop a)=(some v,n)):a+n≤s.size∧0<n:=by
 have h1:=num_pos' h
 rw [List.length_drop,bytesOf_length] at h1
 omega
theorem one_none {a n:Nat}(ha:a≤s.size)(acc:List Rg)(h:oneP ((bytesOf s).drop a)=(none,n)):Ev (fun k=>exergueref11_ranges.l0 k s (a:Int) acc) (([]:List Rg),((a+n:Nat):Int),false):=by
 unfold oneP at h
 refine Ev_shift ?_
 simp only [exergueref11_ranges.l0]
 rcases h1:numP 0 ((bytesOf s).drop a) with ⟨_|v,m⟩
 ·rw [h1] at h
  simp only [Prod.mk.injEq,true_and] at h
  subst h
  have q:(-1:Int)<0:=by omega
  refine Ev.bind (number_none hs ha h1) ?_
  simp only [if_pos q]
  exact Ev.now _
 rw [h1] at h
 obtain ⟨v0,_,v1⟩:=num_some h1
 have hr:=(num_room ha h1).1
 have q:¬ v<0:=by omega
 simp only [List.drop_drop] at h
 obtain ⟨hA,hsg⟩:=over_sign hs hr ⟨#[46,46]⟩ (by decide)
 have hsg':signP (bytesOf ⟨#[46,46]⟩) ((bytesOf s).drop (a+m))=signP [46,46] ((bytesOf s).drop (a+m)):=rfl
 rw [hsg'] at hsg
 by_cases hd:signP [46,46] ((bytesOf s).drop (a+m))=true
 rotate_left
 ·simp only [if_neg hd] at h
  cases h
 have hroom:=sign_room hr hd
 simp only [List.length_cons,List.length_nil] at hroom
 simp only [if_pos hd] at h
 have w2:wrap64 (((a+m+bl ((bytesOf s).drop (a+m)):Nat):Int)+2)=((a+m+bl ((bytesOf s).drop (a+m))+2:Nat):Int):=by rw [w64 _ (by omega) (by omega)];omega
 have wv:wrap64 (v+1)=v+1:=w64 _ (by omega) (by omega)
 rw [hd] at hsg
 refine Ev.bind (number_some hs ha h1) ?_
 simp only [if_neg q]
 refine Ev.bind (over_ev hs hr) ?_
 simp only [hsg,Option.bind_some,if_true,w2,wv]
 have ed:a+(m+(bl ((bytesOf s).drop (a+m))+2))=a+m+bl ((bytesOf s).drop (a+m))+2:=by omega
 rw [ed] at h
 rcases h2:numP (v+1) ((bytesOf s).drop (a+m+bl ((bytesOf s).drop (a+m))+2)) with ⟨_|w,j⟩
 ·rw [h2] at h
  simp only [Prod.mk.injEq,true_and] at h
  subst h
  have q:(-1:Int)<0:=by omega
  refine Ev.bind (number_none hs (by omega) h2) ?_
  simp only [if_pos q]
  have e:a+m+bl ((bytesOf s).drop (a+m))+2+j=a+(m+(bl ((bytesOf s).drop (a+m))+2)+j):=by omega
  rw [e]
  exact Ev.now _
 rw [h2] at h;cases h
theorem one_then {a n:Nat}(ha:a≤s.size)(acc:List Rg){r:Rg}(h:oneP ((bytesOf s).drop a)=(some r,n)){T:List Rg×Int×Bool}(hT:Ev (fun k=>exergueref11_ranges.j1 k s acc r.f0 ((a+n:Nat):Int) r.f1) T) :
    Ev (fun k=>exergueref11_ranges.l0 k s (a:Int) acc) T:=by
 unfold oneP at h
 refine Ev_shift ?_
 simp only [exergueref11_ranges.l0]
 rcases h1:numP 0 ((bytesOf s).drop a) with ⟨_|v,m⟩
 · rw [h1] at h;cases h
 rw [h1] at h
 obtain ⟨v0,_,v1⟩:=num_some h1
 have hr:=(num_room ha h1).1
 have q:¬ v<0:=by omega
 simp only [List.drop_drop] at h
 obtain ⟨hA,hsg⟩:=over_sign hs hr ⟨#[46,46]⟩ (by decide)
 have hsg':signP (bytesOf ⟨#[46,46]⟩) ((bytesOf s).drop (a+m))=signP [46,46] ((bytesOf s).drop (a+m)):=rfl
 rw [hsg'] at hsg
 by_cases hd:signP [46,46] ((bytesOf s).drop (a+m))=true
 rotate_left
 ·have hd':signP [46,46] ((bytesOf s).drop (a+m))=false:=by simpa using hd
  simp only [hd',Bool.false_eq_true,if_false,Prod.mk.injEq,Option.some.injEq] at h
  obtain ⟨rfl,rfl⟩:=h
  rw [hd'] at hsg
  refine Ev.bind (number_some hs ha h1) ?_
  simp only [if_neg q]
  refine Ev.bind (over_ev hs hr) ?_
  simp only [hsg,Option.bind_some,Bool.false_eq_true,if_false]
  exact hT
 have hroom:=sign_room hr hd
 simp only [List.length_cons,List.length_nil] at hroom
 simp only [if_pos hd] at h
 have w2:wrap64 (((a+m+bl ((bytesOf s).drop (a+m)):Nat):Int)+2)=((a+m+bl ((bytesOf s).drop (a+m))+2:Nat):Int):=by rw [w64 _ (by omega) (by omega)];omega
 have wv:wrap64 (v+1)=v+1:=w64 _ (by omega) (by omega)
 rw [hd] at hsg
 refine Ev.bind (number_some hs ha h1) ?_
 simp only [if_neg q]
 refine Ev.bind (over_ev hs hr) ?_
 simp only [hsg,Option.bind_some,if_true,w2,wv]
 have ed:a+(m+(bl ((bytesOf s).drop (a+m))+2))=a+m+bl ((bytesOf s).drop (a+m))+2:=by omega
 rw [ed] at h
 rcases h2:numP (v+1) ((bytesOf s).drop (a+m+bl ((bytesOf s).drop (a+m))+2)) with ⟨_|w,j⟩
 · rw [h2] at h;cases h
 rw [h2] at h
 obtain ⟨_,w0,_⟩:=num_some h2
 simp only [Prod.mk.injEq,Option.some.injEq] at h
 obtain ⟨rfl,rfl⟩:=h
 have q:¬ w<0:=by omega
 have e:a+m+bl ((bytesOf s).drop (a+m))+2+j=a+(m+(bl ((bytesOf s).drop (a+m))+2)+j):=by omega
 refine Ev.bind (number_some hs (by omega) h2) ?_
 simp only [if_neg q,e]
 exact hT
def rngRes (acc:List Rg)(a:Nat):Option (List Rg)×Nat→List Rg×Int×Bool
  | (none,n)=>([],((a+n:Nat):Int),false)
  | (some l,n)=>(acc ++ l,((a+n:Nat):Int),true)
omit hs in
theorem one_room {a n:Nat}(ha:a≤s.size){r:Rg}(h:oneP ((bytesOf s).drop a)=(some r,n)):a+n≤s.size∧0<n:=by
 have h1:=one_pos h
 have h2:=one_le h
 rw [List.length_drop,bytesOf_length] at h2
 omega
theorem ranges_l0 (m:Nat):∀ (a:Nat) (acc:List Rg),a≤s.size→s.size - a≤m→acc.length≤a→Ev (fun k=>exergueref11_ranges.l0 k s (a:Int) acc) (rngRes acc a (rngP ((bytesOf s).drop a))):=by
 induction m with
 | zero=>
  intro a acc ha hm hacc
  rw [rngP_eq]
  rcases h1:oneP ((bytesOf s).drop a) with ⟨_|r,n⟩
  · exact one_none hs ha acc h1
  have:=one_room ha h1
  omega
 | succ m ih=>
  intro a acc ha hm hacc
  rw [rngP_eq]
  rcases h1:oneP ((bytesOf s).drop a) with ⟨_|r,n⟩
  · exact one_none hs ha acc h1
  have hr:=one_room ha h1
  refine one_then hs ha acc h1 (Ev_shift ?_)
  have q1:acc.length<8796093022208:=by omega
  simp only [exergueref11_ranges.j1,if_pos q1,Option.bind_some]
  refine Ev.bind (over_ev hs hr.1) ?_
  obtain ⟨hA,hsg⟩:=over_sign hs hr.1 ⟨#[44]⟩ (by decide)
  have hsg':signP (bytesOf ⟨#[44]⟩) ((bytesOf s).drop (a+n))=signP [44] ((bytesOf s).drop (a+n)):=rfl
  rw [hsg'] at hsg
  simp only [List.drop_drop,hsg,Option.bind_some]
  by_cases hd:signP [44] ((bytesOf s).drop (a+n))=true
  rotate_left
  ·simp only [if_neg hd,rngRes]
   exact Ev.now _
  have hroom:=sign_room hr.1 hd
  simp only [List.length_cons,List.length_nil] at hroom
  have w1:wrap64 (((a+n+bl ((bytesOf s).drop (a+n)):Nat):Int)+1)=((a+n+bl ((bytesOf s).drop (a+n))+1:Nat):Int):=by rw [w64 _ (by omega) (by omega)];omega
  have hnext:=ih (a+n+bl ((bytesOf s).drop (a+n))+1) (acc ++ [⟨r.f0,r.f1⟩]) (by omega) (by omega) (by rw [List.length_append];simp;omega)
  simp only [if_pos hd,w1]
  have ed:a+(n+(bl ((bytesOf s).drop (a+n))+1))=a+n+bl ((bytesOf s).drop (a+n))+1:=by omega
  rw [ed]
  rcases h2:rngP ((bytesOf s).drop (a+n+bl ((bytesOf s).drop (a+n))+1)) with ⟨_|l,j⟩
  ·rw [h2] at hnext
   have e:a+n+bl ((bytesOf s).drop (a+n))+1+j=a+(n+(bl ((bytesOf s).drop (a+n))+1)+j):=by omega
   simp only [rngRes] at hnext ⊢
   rw [e] at hnext
   exact hnext
  rw [h2] at hnext
  have e:a+n+bl ((bytesOf s).drop (a+n))+1+j=a+(n+(bl ((bytesOf s).drop (a+n))+1)+j):=by omega
  simp only [rngRes,List.append_assoc,List.cons_append,List.nil_append] at hnext ⊢
  rw [e] at hnext
  exact hnext
theorem ranges_ev {a:Nat}(ha:a≤s.size):Ev (fun k=>exergueref11_ranges.f k s (a:Int)) (rngRes [] a (rngP ((bytesOf s).drop a))):=by
 unfold exergueref11_ranges.f
 exact ranges_l0 hs (s.size - a) a [] ha (Nat.le_refl _) (by simp)
def RelRes (a:Nat)(r:Int×Int×Bool×List Rg×Int×Bool):Option Rl×Nat→Prop
  | (none,n)=>r.2.2.2.2=(((a+n:Nat):Int),false)
  | (some x,n)=>r=(x.f0,x.f1,x.f2,x.f3,((a+n:Nat):Int),true)
def NotRes (g:Nat)(c v:Int)(r:Int×Int×Bool×List Rg×Int×Bool)(t:List Int):Prop:=
  match notP t with
  | (none,j)=>r.2.2.2.2=(((g+j:Nat):Int),false)
  | (some b,j)=>match rngP (t.drop j) with
    | (none,i)=>r.2.2.2.2=(((g+j+i:Nat):Int),false)
    | (some l,i)=>r=(c,v,b,l,((g+j+i:Nat):Int),true)
theorem j2_ev {D:Nat}(hD:D≤s.size)(c v:Int)(b:Bool):([61]:List Int).isPrefixOf ((bytesOf s).drop D)=true →
    Ev (fun k=>exergueref11_rel.j2 k s (D:Int) c v b) (c,v,b,rngRes [] (D+1) (rngP ((bytesOf s).drop (D+1)))):=by
 intro h
 have hl:=prefix_len h
 rw [List.length_drop,bytesOf_length] at hl
 simp only [List.length_cons,List.length_nil] at hl
 have w1:wrap64 ((D:Int)+1)=((D+1:Nat):Int):=by rw [w64 _ (by omega) (by omega)];omega
 have hsg:=sign_f hs hD (x:=⟨#[61]⟩) (by decide)
 have hsg':bytesOf ⟨#[61]⟩=[61]:=rfl
 rw [hsg',h] at hsg
 refine Ev_shift ?_
 simp only [exergueref11_rel.j2,hsg,Option.bind_some,if_true,w1]
 exact Ev.bind (ranges_ev hs (by omega)) (Ev.now _)
theorem j1_ev {G:Nat}(hG:G≤s.size)(c v:Int):∃ r,Ev (fun k=>exergueref11_rel.j1 k s ((G+bl ((bytesOf s).drop G):Nat):Int) c v false) r∧NotRes G c v r ((bytesOf s).drop G):=by
 obtain ⟨hA,hsg⟩:=over_sign hs hG ⟨#[33,61]⟩ (by decide)
 have hsg':signP (bytesOf ⟨#[33,61]⟩) ((bytesOf s).drop G)=signP [33,61] ((bytesOf s).drop G):=rfl
 rw [hsg'] at hsg
 unfold NotRes notP
 by_cases h1:signP [33,61] ((bytesOf s).drop G)=true
 ·have hroom:=sign_room hG h1
  simp only [List.length_cons,List.length_nil] at hroom
  have hp:([61]:List Int).isPrefixOf ((bytesOf s).drop (G+bl ((bytesOf s).drop G)+1))=true:=by
   have h2:=h1
   unfold signP at h2
   rw [bl_drop] at h2
   rw [← List.drop_drop]
   cases hq:(bytesOf s).drop (G+bl ((bytesOf s).drop G)) with
   | nil=>rw [hq] at h2;simp [List.isPrefixOf] at h2
   | cons y q=>
    rw [hq] at h2
    simp only [List.isPrefixOf,Bool.and_eq_true] at h2
    simpa using h2.2
  have w1:wrap64 (((G+bl ((bytesOf s).drop G):Nat):Int)+1)=((G+bl ((bytesOf s).drop G)+1:Nat):Int):=by rw [w64 _ (by omega) (by omega)];omega
  rw [h1] at hsg
  refine ⟨(c,v,true,rngRes [] (G+bl ((bytesOf s).drop G)+1+1) (rngP ((bytesOf s).drop (G+bl ((bytesOf s).drop G)+1+1)))),Ev_shift ?_,?_⟩
  ·simp only [exergueref11_rel.j1,hsg,Option.bind_some,if_true,w1]
   exact j2_ev hs (by omega) c v true hp
  simp only [if_pos h1,List.drop_drop]
  have ed:G+(bl ((bytesOf s).drop G)+2)=G+bl ((bytesOf s).drop G)+1+1:=by omega
  rw [ed]
  rcases rngP ((bytesOf s).drop (G+bl ((bytesOf s).drop G)+1+1)) with ⟨_|l,i⟩
  · simp only [rngRes]
  simp only [rngRes,List.nil_append]
 have h1':signP [33,61] ((bytesOf s).drop G)=false:=by simpa using h1
 rw [h1'] at hsg
 simp only [h1',Bool.false_eq_true,if_false]
 by_cases h2:signP [61] ((bytesOf s).drop G)=true
 ·have hroom:=sign_room hG h2
  simp only [List.length_cons,List.length_nil] at hroom
  have hp:([61]:List Int).isPrefixOf ((bytesOf s).drop (G+bl ((bytesOf s).drop G)))=true:=by
   have h3:=h2
   unfold signP at h3
   rwa [bl_drop] at h3
  refine ⟨(c,v,false,rngRes [] (G+bl ((bytesOf s).drop G)+1) (rngP ((bytesOf s).drop (G+bl ((bytesOf s).drop G)+1)))),Ev_shift ?_,?_⟩
  ·simp only [exergueref11_rel.j1,hsg,Option.bind_some,Bool.false_eq_true,if_false]
   exact j2_ev hs (by omega) c v false hp
  simp only [if_pos h2,List.drop_drop]
  have ed:G+(bl ((bytesOf s).drop G)+1)=G+bl ((bytesOf s).drop G)+1:=by omega
  rw [ed]
  rcases rngP ((bytesOf s).drop (G+bl ((bytesOf s).drop G)+1)) with ⟨_|l,i⟩
  · simp only [rngRes]
  simp only [rngRes,List.nil_append]
 have h2':signP [61] ((bytesOf s).drop G)=false:=by simpa using h2
 obtain ⟨_,hsg2⟩:=over_sign hs hG ⟨#[61]⟩ (by decide)
 have hsg2':signP (bytesOf ⟨#[61]⟩) ((bytesOf s).drop G)=signP [61] ((bytesOf s).drop G):=rfl
 rw [hsg2',h2'] at hsg2
 refine ⟨(c,v,false,[],((G+bl ((bytesOf s).drop G):Nat):Int),false),Ev_shift ?_,?_⟩
 ·simp only [exergueref11_rel.j1,hsg,Option.bind_some,Bool.false_eq_true,if_false]
  refine Ev_shift ?_
  simp only [exergueref11_rel.j2,hsg2,Option.bind_some,Bool.false_eq_true,if_false]
  exact Ev.now _
 simp only [if_neg h2]
omit hs in
theorem rel_bad {A:Nat}(v m:Int):∃ r,Ev (fun k=>exergueref11_rel.j0 k s (A:Int) true v m false) r∧r.2.2.2.2=((A:Int),false):=
  ⟨(v,m,false,[],(A:Int),false),Ev_shift (by simp only [exergueref11_rel.j0,if_true];exact Ev.now _),rfl⟩
theorem rel_op {A:Nat}(hA:A<s.size):∃ r,Ev (fun k=>exergueref11_rel.j0 k s (A:Int) false 0 0 false) r ∧
    match modP ((bytesOf s).drop (A+1)) with
    | (none,m)=>r.2.2.2.2=(((A+1+m:Nat):Int),false)
    | (some v,m)=>NotRes (A+1+m) (bt s (A:Int)) v r ((bytesOf s).drop (A+1+m)):=by
 have q1:(0:Int)≤(A:Int):=by omega
 have q2:(A:Int)<(s.size:Int):=by omega
 have w1:wrap64 ((A:Int)+1)=((A+1:Nat):Int):=by rw [w64 _ (by omega) (by omega)];omega
 have hov:=over_ev hs (a:=A+1) (by omega)
 obtain ⟨hC,hsg⟩:=over_sign hs (a:=A+1) (by omega) ⟨#[37]⟩ (by decide)
 have hsg':signP (bytesOf ⟨#[37]⟩) ((bytesOf s).drop (A+1))=signP [37] ((bytesOf s).drop (A+1)):=rfl
 rw [hsg'] at hsg
 unfold modP
 by_cases hp:signP [37] ((bytesOf s).drop (A+1))=true
 rotate_left
 ·have hp':signP [37] ((bytesOf s).drop (A+1))=false:=by simpa using hp
  rw [hp'] at hsg
  obtain ⟨r,hr1,hr2⟩:=j1_ev hs (G:=A+1) (by omega) (bt s (A:Int)) 0
  refine ⟨r,Ev_shift ?_,?_⟩
  ·simp only [exergueref11_rel.j0,Bool.false_eq_true,if_false,if_pos q1,if_pos q2,w1]
   refine Ev.bind hov ?_
   simp only [hsg,Option.bind_some,Bool.false_eq_true,if_false]
   exact hr1
  simp only [hp',Bool.false_eq_true,if_false,Nat.add_zero]
  exact hr2
 have hroom:=sign_room (a:=A+1) (by omega) hp
 simp only [List.length_cons,List.length_nil] at hroom
 have w2:wrap64 (((A+1+bl ((bytesOf s).drop (A+1)):Nat):Int)+1)=((A+1+bl ((bytesOf s).drop (A+1))+1:Nat):Int):=by rw [w64 _ (by omega) (by omega)];omega
 rw [hp] at hsg
 simp only [if_pos hp,List.drop_drop]
 have ed:A+1+(bl ((bytesOf s).drop (A+1))+1)=A+1+bl ((bytesOf s).drop (A+1))+1:=by omega
 rw [ed]
 have hpos:A+1+bl ((bytesOf s).drop (A+1))+1≤s.size:=by omega
 rcases h1:numP 1 ((bytesOf s).drop (A+1+bl ((bytesOf s).drop (A+1))+1)) with ⟨_|v,m⟩
 ·refine ⟨(bt s (A:Int),0,false,[],((A+1+bl ((bytesOf s).drop (A+1))+1+m:Nat):Int),false),Ev_shift ?_,?_⟩
  ·have q:(-1:Int)<0:=by omega
   simp only [exergueref11_rel.j0,Bool.false_eq_true,if_false,if_pos q1,if_pos q2,w1]
   refine Ev.bind hov ?_
   simp only [hsg,Option.bind_some,if_true,w2]
   refine Ev.bind (number_none hs hpos h1) ?_
   simp only [if_pos q]
   exact Ev.now _
  simp only []
  have e:A+1+bl ((bytesOf s).drop (A+1))+1+m=A+1+(bl ((bytesOf s).drop (A+1))+1+m):=by omega
  rw [e]
 obtain ⟨v0,_,_⟩:=num_some h1
 have hr:=(num_room hpos h1).1
 obtain ⟨r,hr1,hr2⟩:=j1_ev hs hr (bt s (A:Int)) v
 refine ⟨r,Ev_shift ?_,?_⟩
 ·have q:¬ v<0:=by omega
  simp only [exergueref11_rel.j0,Bool.false_eq_true,if_false,if_pos q1,if_pos q2,w1]
  refine Ev.bind hov ?_
  simp only [hsg,Option.bind_some,if_true,w2]
  refine Ev.bind (number_some hs hpos h1) ?_
  simp only [if_neg q]
  exact Ev.bind (over_ev hs hr) hr1
 have e:A+1+(bl ((bytesOf s).drop (A+1))+1+m)=A+1+bl ((bytesOf s).drop (A+1))+1+m:=by omega
 simp only []
 rw [e]
 exact hr2
theorem rel_ev11 {a:Nat}(ha:a≤s.size):∃ r,Ev (fun k=>exergueref11_rel.f k s (a:Int)) r∧RelRes a r (relP ((bytesOf s).drop a)):=by
 have hA:=run_size isBl s a ha
 change a+bl ((bytesOf s).drop a)≤s.size at hA
 obtain ⟨A,hAA⟩:∃ A,a+bl ((bytesOf s).drop a)=A:=⟨_,rfl⟩
 have hov:=over_ev hs ha
 have hdA:((bytesOf s).drop a).drop (bl ((bytesOf s).drop a))=(bytesOf s).drop A:=by rw [bl_drop,hAA]
 rw [hAA] at hov hA
 have hwd:=word_ev hs hA
 have wA:wrap64 ((A:Int)+1)=((A+1:Nat):Int):=by rw [w64 _ (by omega) (by omega)];omega
 have bad:opP ((bytesOf s).drop a)=(none,bl ((bytesOf s).drop a))→∀ v m r,Ev (fun k=>exergueref11_rel.j0 k s (A:Int) true v m false) r→r.2.2.2.2=((A:Int),false)→RelRes a r (relP ((bytesOf s).drop a)):=by
  intro ho v m r _ hr
  unfold relP
  rw [ho]
  simp only [RelRes,hAA]
  exact hr
 unfold exergueref11_rel.f
 by_cases hrun:runL isLo ((bytesOf s).drop A)=1
 rotate_left
 ·obtain ⟨r,hr1,hr2⟩:=rel_bad (s:=s) (A:=A) 0 0
  have q1:¬ ((A+runL isLo ((bytesOf s).drop A):Nat):Int)=((A+1:Nat):Int):=by omega
  refine ⟨r,?_,bad (by unfold opP;rw [hdA,if_neg (by rintro ⟨h,_⟩;exact hrun h)]) _ _ r hr1 hr2⟩
  refine Ev.bind hov ?_
  refine Ev.bind hwd ?_
  simp only [wA,if_neg q1]
  exact hr1
 have hlt:A<s.size:=by
  apply Classical.byContradiction
  intro h
  have:=run_end (p:=isLo) (s:=s) h
  omega
 have q1:((A+runL isLo ((bytesOf s).drop A):Nat):Int)=((A+1:Nat):Int):=by rw [hrun]
 have q2:(0:Int)≤(A:Int):=by omega
 have q3:(A:Int)<(s.size:Int):=by omega
 have hrd:rd ((bytesOf s).drop A) 0=bt s (A:Int):=by rw [drop_bt s A hlt];rfl
 by_cases hop:isOp (bt s (A:Int))=true
 rotate_left
 ·obtain ⟨r,hr1,hr2⟩:=rel_bad (s:=s) (A:=A) 0 0
  have hop':isOp (bt s (A:Int))=false:=by simpa using hop
  refine ⟨r,?_,bad (by unfold opP;rw [hdA,hrd,if_neg (by rintro ⟨_,h⟩;exact hop h)]) _ _ r hr1 hr2⟩
  refine Ev.bind hov ?_
  refine Ev.bind hwd ?_
  simp only [wA,if_pos q1,if_pos q2,if_pos q3,opB,hop',Option.bind_some,Bool.not_false]
  exact hr1
 obtain ⟨r,hr1,hr2⟩:=rel_op hs hlt
 refine ⟨r,?_,?_⟩
 ·refine Ev.bind hov ?_
  refine Ev.bind hwd ?_
  simp only [wA,if_pos q1,if_pos q2,if_pos q3,opB,hop,Option.bind_some,Bool.not_true]
  exact hr1
 have ho:opP ((bytesOf s).drop a)=(some (bt s (A:Int)),bl ((bytesOf s).drop a)+1):=by
  unfold opP
  rw [hdA,hrd,if_pos ⟨hrun,hop⟩]
 unfold relP
 rw [ho]
 have e1:a+(bl ((bytesOf s).drop a)+1)=A+1:=by omega
 simp only [List.drop_drop]
 rw [e1]
 rcases h2:modP ((bytesOf s).drop (A+1)) with ⟨_|v,m⟩
 ·rw [h2] at hr2
  simp only [RelRes] at hr2 ⊢
  rw [show a+(bl ((bytesOf s).drop a)+1+m)=A+1+m by omega]
  exact hr2
 rw [h2] at hr2
 simp only [NotRes] at hr2 ⊢
 have e2:a+(bl ((bytesOf s).drop a)+1+m)=A+1+m:=by omega
 rw [e2]
 rcases h3:notP ((bytesOf s).drop (A+1+m)) with ⟨_|b,j⟩
 ·rw [h3] at hr2
  simp only [RelRes] at hr2 ⊢
  rw [show a+(bl ((bytesOf s).drop a)+1+m+j)=A+1+m+j by omega]
  exact hr2
 rw [h3] at hr2
 simp only [List.drop_drop] at hr2 ⊢
 have e3:a+(bl ((bytesOf s).drop a)+1+m+j)=A+1+m+j:=by omega
 rw [e3]
 rcases h4:rngP ((bytesOf s).drop (A+1+m+j)) with ⟨_|l,i⟩
 ·rw [h4] at hr2
  simp only [RelRes] at hr2 ⊢
  rw [show a+(bl ((bytesOf s).drop a)+1+m+j+i)=A+1+m+j+i by omega]
  exact hr2
 rw [h4] at hr2
 simp only [RelRes] at hr2 ⊢
 rw [show a+(bl ((bytesOf s).drop a)+1+m+j+i)=A+1+m+j+i by omega]
 exact hr2
omit hs in
theorem rowsOf_snoc (x:Rl):∀ (pre:List (Rl×Bool)) (l:List Rl) (c:List (List Rl)) (row:List Rl),rowsOf l pre=c ++ [row]→rowsOf l (pre ++ [(x,false)])=c ++ [row ++ [x]]
  | [],l,c,row,h=>by
    simp only [rowsOf] at h
    have hl:=congrArg List.length h
    simp at hl
    subst hl
    simp only [List.nil_append,List.cons.injEq,and_true] at h
    subst h
    simp [rowsOf]
  | (y,false) :: pre,l,c,row,h=>by
    rw [List.cons_append]
    simp only [rowsOf] at h ⊢
    exact rowsOf_snoc x pre _ _ _ h
  | (y,true) :: pre,l,c,row,h=>by
    rw [List.cons_append]
    simp only [rowsOf] at h ⊢
    cases c with
    | nil=>
      simp only [List.nil_append,List.cons.injEq] at h
      exact absurd h.2 (rowsOf_ne _ _)
    | cons d c=>
      simp only [List.cons_append,List.cons.injEq] at h ⊢
      exact ⟨h.1,rowsOf_snoc x pre _ _ _ h.2⟩
def parseO:Option (List (Rl×Bool))×Nat→List (List Rl)×Int×Int
  | (none,n)=>([],(n:Int),2)
  | (some r,_)=>if fullP r then ([],0,11) else (rowsOf [] r,0,0)
omit hs in
theorem word_bytes {A:Nat}:bytesOf (s.extract ((A:Nat):Int).toNat ((A+runL isLo ((bytesOf s).drop A):Nat):Int).toNat)=wordP ((bytesOf s).drop A):=by
 rw [bytes_cut]
 unfold wordP
 congr 1
 omega
theorem refGo_ev (n:Nat):∀ (a:Nat) (pre:List (Rl×Bool)) (c:List (List Rl)) (row:List Rl),a≤s.size→s.size+1≤a+n→pre.length≤a→relsP (bytesOf s)=combR pre a (relsP ((bytesOf s).drop a))→rowsOf [] pre=c ++ [row] →
    Ev (fun k=>refGo (fun x=>exergueref11_rel.f k s x) (fun x=>exergueref11_over.f k s x) (fun x=>exergueref11_word.f k s x) s n (a:Int) (pre.length:Int) (fullP pre) c row) (parseO (relsP (bytesOf s))):=by
 induction n with
 | zero=>intro a _ _ _ h1 h2;omega
 | succ n ih=>
  intro a pre c row ha hn hpl heq hrow
  obtain ⟨r,hr1,hr2⟩:=rel_ev11 hs ha
  simp only [refGo]
  refine Ev.bind hr1 ?_
  rcases hx:relP ((bytesOf s).drop a) with ⟨_|x,m⟩
  ·rw [hx] at hr2
   simp only [RelRes] at hr2
   rw [heq,rels_none hx]
   have e1:r.2.2.2.2.1=((a+m:Nat):Int):=by rw [hr2]
   have e2:r.2.2.2.2.2=false:=by rw [hr2]
   simp only [e1,e2,Bool.false_eq_true,if_false,combR,parseO]
   exact Ev.now _
  rw [hx] at hr2
  simp only [RelRes] at hr2
  subst hr2
  have hm:=(rel_pos hx).1
  have hml:=rel_le' hx
  rw [List.length_drop,bytesOf_length] at hml
  have ham:a+m≤s.size:=by omega
  have hA2:=run_size isBl s (a+m) ham
  change a+m+bl ((bytesOf s).drop (a+m))≤s.size at hA2
  obtain ⟨A,hAA⟩:∃ A,a+m+bl ((bytesOf s).drop (a+m))=A:=⟨_,rfl⟩
  have hov:=over_ev hs ham
  rw [hAA] at hov hA2
  have hdA:((bytesOf s).drop a).drop (m+bl (((bytesOf s).drop a).drop m))=(bytesOf s).drop A:=by
   rw [List.drop_drop,List.drop_drop,← Nat.add_assoc,hAA]
  have hdd:bl (((bytesOf s).drop a).drop m)=bl ((bytesOf s).drop (a+m)):=by rw [List.drop_drop]
  have hfull:(fullP pre || decide ((x.f3.length:Int)>20) || decide ((pre.length:Int)+1>20))=fullP (pre ++ [(x,false)]):=by
   rw [fullP_snoc]
   congr 1
   ·congr 1
    rw [decide_eq_decide];omega
   rw [decide_eq_decide];omega
  have hfull2:fullP (pre ++ [(x,true)])=fullP (pre ++ [(x,false)]):=by rw [fullP_snoc,fullP_snoc]
  have hrs:=rowsOf_snoc x pre [] c row hrow
  simp only [if_true,hfull]
  refine Ev.bind hov ?_
  by_cases hend:A=s.size
  ·have q1:((A:Nat):Int)=(s.size:Int):=by omega
   have hnil:(bytesOf s).drop A=[]:=List.drop_of_length_le (by rw [bytesOf_length];omega)
   rw [heq,rels_end hx (by rw [hdA];exact hnil)]
   simp only [if_pos q1,combR,parseO]
   by_cases hf:fullP (pre ++ [(x,false)])=true
   ·simp only [if_pos hf]
    exact Ev.now _
   simp only [if_neg hf,hrs]
   exact Ev.now _
  have q1:¬ ((A:Nat):Int)=(s.size:Int):=by omega
  have hne:(bytesOf s).drop A≠[]:=by
   intro h
   have:=congrArg List.length h
   rw [List.length_drop,bytesOf_length] at this
   simp at this
   omega
  have hwl:=run_size isLo s A hA2
  have q2:(0:Int)≤(A:Int)∧(A:Int)≤((A+runL isLo ((bytesOf s).drop A):Nat):Int)∧((A+runL isLo ((bytesOf s).drop A):Nat):Int)≤(s.size:Int):=by omega
  have hwb:=word_bytes (s:=s) (A:=A)
  have hwlen:(wordP ((bytesOf s).drop A)).length=runL isLo ((bytesOf s).drop A):=by
   unfold wordP
   rw [List.length_take]
   have:=runL_le isLo ((bytesOf s).drop A)
   omega
  simp only [if_neg q1]
  refine Ev.bind (word_ev hs hA2) ?_
  simp only [if_pos q2]
  by_cases hand:wordP ((bytesOf s).drop A)=wordAnd
  ·have z:s.extract ((A:Nat):Int).toNat ((A+runL isLo ((bytesOf s).drop A):Nat):Int).toNat=⟨#[97,110,100]⟩:=bytesInj (by rw [hwb,hand];rfl)
   rw [hand] at hwlen
   have hl3:runL isLo ((bytesOf s).drop A)=3:=by rw [← hwlen];rfl
   have h1:=rels_and hx (by rw [hdA];exact hne) (by rw [hdA];exact hand)
   have h2:relsP (bytesOf s)=combR (pre ++ [(x,false)]) (A+3) (relsP ((bytesOf s).drop (A+3))):=by
    rw [heq,h1,combR_combR]
    simp only [List.drop_drop]
    have e:a+(m+bl ((bytesOf s).drop (a+m))+3)=A+3:=by omega
    rw [e]
   have hnext:=ih (A+3) (pre ++ [(x,false)]) c (row ++ [x]) (by omega) (by omega) (by rw [List.length_append];simp;omega) h2 hrs
   rw [List.length_append,show ((pre.length+([(x,false)]:List (Rl×Bool)).length:Nat):Int)=(pre.length:Int)+1 from rfl] at hnext
   simp only [if_pos z]
   simp only [hl3]
   exact hnext
  have z:¬ s.extract ((A:Nat):Int).toNat ((A+runL isLo ((bytesOf s).drop A):Nat):Int).toNat=⟨#[97,110,100]⟩:=by
   intro h
   rw [h] at hwb
   exact hand hwb.symm
  simp only [if_neg z]
  by_cases hor:wordP ((bytesOf s).drop A)=wordOr
  ·have z:s.extract ((A:Nat):Int).toNat ((A+runL isLo ((bytesOf s).drop A):Nat):Int).toNat=⟨#[111,114]⟩:=bytesInj (by rw [hwb,hor];rfl)
   rw [hor] at hwlen
   have hl3:runL isLo ((bytesOf s).drop A)=2:=by rw [← hwlen];rfl
   have h1:=rels_or hx (by rw [hdA];exact hne) (by rw [hdA];exact hor)
   have h2:relsP (bytesOf s)=combR (pre ++ [(x,true)]) (A+2) (relsP ((bytesOf s).drop (A+2))):=by
    rw [heq,h1,combR_combR]
    simp only [List.drop_drop]
    have e:a+(m+bl ((bytesOf s).drop (a+m))+2)=A+2:=by omega
    rw [e]
   have hrs2:rowsOf [] (pre ++ [(x,true)])=(c ++ [row ++ [x]]) ++ [[]]:=by rw [rowsOf_orr,hrs]
   have hnext:=ih (A+2) (pre ++ [(x,true)]) (c ++ [row ++ [x]]) [] (by omega) (by omega) (by rw [List.length_append];simp;omega) h2 hrs2
   rw [List.length_append,hfull2,show ((pre.length+([(x,true)]:List (Rl×Bool)).length:Nat):Int)=(pre.length:Int)+1 from rfl] at hnext
   simp only [if_pos z]
   simp only [hl3]
   exact hnext
  have z:¬ s.extract ((A:Nat):Int).toNat ((A+runL isLo ((bytesOf s).drop A):Nat):Int).toNat=⟨#[111,114]⟩:=by
   intro h
   rw [h] at hwb
   exact hor hwb.symm
  simp only [if_neg z]
  rw [heq,rels_bad hx (by rw [hdA];exact hne) (by rw [hdA];exact hor) (by rw [hdA];exact hand)]
  simp only [combR,parseO,hdd]
  have e:a+(m+bl ((bytesOf s).drop (a+m)))=A:=by omega
  rw [e]
  exact Ev.now _
end
theorem refParse_ev (s:ByteArray):Ev (fun k=>exergueref11_Parse.f k s) (parseP (bytesOf s)):=by
 unfold exergueref11_Parse.f parseP
 rw [bytesOf_length]
 by_cases h:400<s.size
 ·have q:(s.size:Int)>400:=by omega
  simp only [if_pos q,if_pos h]
  exact Ev.now _
 have q:¬ (s.size:Int)>400:=by omega
 simp only [if_neg q,if_neg h]
 have:=refGo_ev (s:=s) (by omega) (s.size+2) 0 [] [] [] (by omega) (by omega) (by simp) (by rw [List.drop_zero,combR_nil]) rfl
 unfold parseO at this
 exact this
end
end Go.Proofs.YtgfajgkjbckkgaaGreatDoor.PZ
end
