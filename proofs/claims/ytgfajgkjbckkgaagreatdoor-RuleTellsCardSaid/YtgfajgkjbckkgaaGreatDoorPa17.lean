/- Texts of this seat, joined. Conditions: none beyond each statement's own. -/
import Derived.Test.YtgfajgkjbckkgaaGreatDoorPa13
section
set_option maxRecDepth 100000
set_option linter.unusedSimpArgs false
set_option linter.unusedVariables false
namespace Go.Proofs.YtgfajgkjbckkgaaGreatDoor.PZ
open Go.RowKit Go.Proofs.YtgfajgkjbckkgaaGreatDoorW.PrintWords Go.Proofs.YtgfajgkjbckkgaaGreatDoorW.PrintLast
def combR (pre:List (Rl×Bool))(d:Nat):Option (List (Rl×Bool))×Nat→Option (List (Rl×Bool))×Nat
  | (none,j)=>(none,d+j)
  | (some r,j)=>(some (pre ++ r),d+j)
theorem combR_combR (l m:List (Rl×Bool))(d e:Nat)(p:Option (List (Rl×Bool))×Nat):combR l d (combR m e p)=combR (l ++ m) (d+e) p:=by
 rcases p with ⟨_|r,j⟩
 · simp only [combR,Nat.add_assoc]
 simp only [combR,Nat.add_assoc,List.append_assoc]
theorem combR_nil (p:Option (List (Rl×Bool))×Nat):combR [] 0 p=p:=by rcases p with ⟨_|r,j⟩ <;> simp [combR]
theorem rels_none {t:List Int}{n:Nat}(h:relP t=(none,n)):relsP t=(none,n):=by rw [relsP_eq,h]
section
variable {t:List Int}{n:Nat}{x:Rl}(h:relP t=(some x,n))
include h
theorem rels_end (hu:t.drop (n+bl (t.drop n))=[]):relsP t=(some [(x,false)],n+bl (t.drop n)):=by
 rw [relsP_eq,h]
 simp only [hu,if_true]
theorem rels_or (hu:t.drop (n+bl (t.drop n))≠[])(hw:wordP (t.drop (n+bl (t.drop n)))=wordOr):relsP t=combR [(x,true)] (n+bl (t.drop n)+2) (relsP (t.drop (n+bl (t.drop n)+2))):=by
 rw [relsP_eq,h]
 simp only [if_neg hu,if_pos hw]
 rcases relsP (t.drop (n+bl (t.drop n)+2)) with ⟨_|r,j⟩ <;> rfl
theorem rels_and (hu:t.drop (n+bl (t.drop n))≠[])(hw:wordP (t.drop (n+bl (t.drop n)))=wordAnd):relsP t=combR [(x,false)] (n+bl (t.drop n)+3) (relsP (t.drop (n+bl (t.drop n)+3))):=by
 have hne:¬ wordP (t.drop (n+bl (t.drop n)))=wordOr:=by rw [hw];decide
 rw [relsP_eq,h]
 simp only [if_neg hu,if_neg hne,if_pos hw]
 rcases relsP (t.drop (n+bl (t.drop n)+3)) with ⟨_|r,j⟩ <;> rfl
theorem rels_bad (hu:t.drop (n+bl (t.drop n))≠[])(h1:wordP (t.drop (n+bl (t.drop n)))≠wordOr)(h2:wordP (t.drop (n+bl (t.drop n)))≠wordAnd):relsP t=(none,n+bl (t.drop n)):=by
 rw [relsP_eq,h]
 simp only [if_neg hu,if_neg h1,if_neg h2]
end
theorem rowsOf_pos (l:List Rl)(r:List (Rl×Bool)):0<(rowsOf l r).length:=by
 induction r generalizing l with
 | nil=>simp [rowsOf]
 | cons x r ih=>obtain ⟨x,_|_⟩:=x <;> simp [rowsOf,ih]
theorem rowsOf_len (l:List Rl)(r:List (Rl×Bool)):(rowsOf l r).length≤r.length+1:=by
 induction r generalizing l with
 | nil=>simp [rowsOf]
 | cons x r ih=>
  obtain ⟨x,_|_⟩:=x
  · have:=ih (l ++ [x]);simp [rowsOf];omega
  have:=ih [];simp [rowsOf];omega
theorem rowsOf_row (r:List (Rl×Bool)):∀ (l:List Rl)(i:Nat),((rowsOf l r).getD i []).length≤l.length+r.length:=by
 induction r with
 | nil=>
  intro l i
  cases i <;> simp [rowsOf]
 | cons x r ih=>
  intro l i
  obtain ⟨x,_|_⟩:=x
  ·have:=ih (l ++ [x]) i
   simp only [rowsOf]
   simp only [List.length_append,List.length_cons,List.length_nil] at this ⊢
   omega
  simp only [rowsOf]
  cases i with
  | zero=>simp
  | succ i=>
   rw [List.getD_cons_succ]
   have:=ih [] i
   simp only [List.length_cons,List.length_nil] at this ⊢
   omega
theorem rowsOf_and (x:Rl):∀ (pre:List (Rl×Bool))(l:List Rl),rowsOf l (pre ++ [(x,false)])=(rowsOf l pre).set ((rowsOf l pre).length - 1) ((rowsOf l pre).getD ((rowsOf l pre).length - 1) [] ++ [x])
  | [],l=>by simp [rowsOf]
  | (y,false) :: pre,l=>by
    rw [List.cons_append]
    simp only [rowsOf]
    exact rowsOf_and x pre (l ++ [y])
  | (y,true) :: pre,l=>by
    have hp:=rowsOf_pos [] pre
    have hl:(rowsOf [] pre).length=((rowsOf [] pre).length - 1)+1:=by omega
    rw [List.cons_append]
    simp only [rowsOf]
    rw [rowsOf_and x pre [],List.length_cons,Nat.add_sub_cancel]
    conv=>rhs;rw [hl,List.set_cons_succ,List.getD_cons_succ]
theorem rowsOf_orr (x:Rl):∀ (pre:List (Rl×Bool))(l:List Rl),rowsOf l (pre ++ [(x,true)])=rowsOf l (pre ++ [(x,false)]) ++ [[]]
  | [],l=>by simp [rowsOf]
  | (y,false) :: pre,l=>by
    rw [List.cons_append,List.cons_append]
    simp only [rowsOf]
    exact rowsOf_orr x pre (l ++ [y])
  | (y,true) :: pre,l=>by
    rw [List.cons_append,List.cons_append]
    simp only [rowsOf]
    rw [rowsOf_orr x pre []]
    rfl
theorem fullP_snoc (pre:List (Rl×Bool))(x:Rl)(o:Bool):fullP (pre ++ [(x,o)])=((fullP pre || decide (20<x.f3.length)) || decide (20<pre.length+1)):=by
 unfold fullP
 rw [List.any_append,List.length_append]
 simp only [List.any_cons,List.any_nil,Bool.or_false,List.length_cons,List.length_nil,Nat.zero_add]
 by_cases h:20<pre.length+1
 · simp [h]
 have:¬ 20<pre.length:=by omega
 simp [h,this]
theorem prefix_len':∀ {x t:List Int},x.isPrefixOf t=true→x.length≤t.length
  | [],_,_=>by simp
  | _ :: _,[],h=>by simp [List.isPrefixOf] at h
  | a :: x,b :: t,h=>by
    simp only [List.isPrefixOf,Bool.and_eq_true] at h
    have:=prefix_len' h.2
    simp;omega
theorem sign_len {x t:List Int}(h:signP x t=true):bl t+x.length≤t.length:=by
 have h2:bl t≤t.length:=runL_le isBl t
 unfold signP at h
 have:=prefix_len' h
 rw [List.length_drop] at this
 omega
theorem one_le {t:List Int}{r:Rg}{n:Nat}(h:oneP t=(some r,n)):n≤t.length:=by
 unfold oneP at h
 rcases h1:numP 0 t with ⟨_|a,m⟩
 · rw [h1] at h;cases h
 rw [h1] at h
 have ha:=num_pos' h1
 simp only at h
 split at h
 ·rename_i hs
  have hl:=sign_len hs
  rcases h2:numP (a+1) (t.drop (m+(bl (t.drop m)+2))) with ⟨_|b,j⟩
  · rw [h2] at h;cases h
  rw [h2] at h
  have hb:=num_pos' h2
  simp only [Prod.mk.injEq] at h
  simp only [List.length_drop,List.length_cons,List.length_nil] at hb hl
  omega
 simp only [Prod.mk.injEq] at h
 omega
theorem rng_le:∀ (f:Nat)(t:List Int)(l:List Rg)(n:Nat),rngF f t=(some l,n)→n≤t.length
  | 0,_,_,_,h=>by cases h
  | f+1,t,l,n,h=>by
    rw [rngF] at h
    rcases h1:oneP t with ⟨_|a,m⟩
    · rw [h1] at h;cases h
    rw [h1] at h
    have ha:=one_le h1
    simp only at h
    split at h
    · rename_i hs
      have hl:=sign_len hs
      rcases h2:rngF f (t.drop (m+(bl (t.drop m)+1))) with ⟨_|b,j⟩
      · rw [h2] at h;cases h
      rw [h2] at h
      have hb:=rng_le f _ _ _ h2
      simp only [Prod.mk.injEq] at h
      simp only [List.length_drop,List.length_cons,List.length_nil] at hb hl
      omega
    · simp only [Prod.mk.injEq] at h
      omega
theorem rel_le' {t:List Int}{x:Rl}{n:Nat}(h:relP t=(some x,n)):n≤t.length:=by
 unfold relP at h
 rcases h1:opP t with ⟨_|c,m⟩
 · rw [h1] at h;cases h
 rw [h1] at h
 have b1:m≤t.length:=by
  unfold opP at h1
  have hbl:bl t≤t.length:=runL_le isBl t
  have h3:=runL_le isLo (t.drop (bl t))
  rw [List.length_drop] at h3
  split at h1
  ·rename_i hc
   have:=congrArg Prod.snd h1
   simp only at this
   omega
  cases h1
 simp only at h
 rcases h2:modP (t.drop m) with ⟨_|v,j⟩
 · rw [h2] at h;cases h
 rw [h2] at h
 have b2:m+j≤t.length:=by
  unfold modP at h2
  split at h2
  ·rename_i hs
   have hl:=sign_len hs
   rcases h3:numP 1 ((t.drop m).drop (bl (t.drop m)+1)) with ⟨_|b,q⟩
   · rw [h3] at h2;cases h2
   rw [h3] at h2
   have hb:=num_pos' h3
   simp only [Prod.mk.injEq] at h2
   simp only [List.length_drop,List.length_cons,List.length_nil] at hb hl
   omega
  simp only [Prod.mk.injEq] at h2
  omega
 simp only at h
 rcases h3:notP (t.drop (m+j)) with ⟨_|b,i⟩
 · rw [h3] at h;cases h
 rw [h3] at h
 have b3:m+j+i≤t.length:=by
  unfold notP at h3
  split at h3
  ·rename_i hs
   have hl:=sign_len hs
   simp only [Prod.mk.injEq] at h3
   simp only [List.length_drop,List.length_cons,List.length_nil] at hl
   omega
  split at h3
  ·rename_i hs
   have hl:=sign_len hs
   simp only [Prod.mk.injEq] at h3
   simp only [List.length_drop,List.length_cons,List.length_nil] at hl
   omega
  cases h3
 simp only at h
 rcases h4:rngP (t.drop (m+j+i)) with ⟨_|l,q⟩
 · rw [h4] at h;cases h
 rw [h4] at h
 have b4:=rng_le _ _ _ _ h4
 simp only [Prod.mk.injEq] at h
 rw [List.length_drop] at b4
 omega
end Go.Proofs.YtgfajgkjbckkgaaGreatDoor.PZ
end
