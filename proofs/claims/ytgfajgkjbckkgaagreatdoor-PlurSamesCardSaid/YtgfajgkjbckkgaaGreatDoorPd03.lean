/- Texts of this seat, joined. Conditions: none beyond each statement's own. -/
import Derived.Test.YtgfajgkjbckkgaaGreatDoorPd02
import Derived.Laws.StructEq
set_option linter.all false
section
namespace Go.Proofs.YtgfajgkjbckkgaaGreatDoorW.PrintWords
open Go.RowKit
section
def Foot (P:World→Prop)(W:World)(ok:Nat→Prop):Prop:=∀ W':World,(∀ k,ok k→k<W.heap.size→W'.heap[k]?=W.heap[k]?)→P W'
theorem heap_lt {W W1:World}{k:Nat}(h:W1.heap[k]?=W.heap[k]?)(hlt:k<W.heap.size):k<W1.heap.size:=by
 rw [Array.getElem?_eq_getElem hlt] at h
 exact (Array.getElem?_eq_some_iff.1 h).1
namespace Foot
variable {P Q:World→Prop}{W W1:World}{ok ok':Nat→Prop}
theorem now (h:Foot P W ok):P W:=h W (fun _ _ _=>rfl)
theorem mono (h:Foot P W ok)(hok:∀ k,ok k→ok' k):Foot P W ok':=fun W' hW=>h W' (fun k hk hlt=>hW k (hok k hk) hlt)
theorem bound (h:Foot P W ok):Foot P W (fun k=>ok k∧k<W.heap.size):=fun W' hW=>h W' (fun k hk hlt=>hW k ⟨hk,hlt⟩ hlt)
theorem step (h:Foot P W ok)(hm:∀ k,ok k→k<W.heap.size→W1.heap[k]?=W.heap[k]?):Foot P W1 ok:=fun W' hW=>h W' (fun k hk hlt=>(hW k hk (heap_lt (hm k hk hlt) hlt)).trans (hm k hk hlt))
theorem imp (h:Foot P W ok)(hi:∀ W',P W'→Q W'):Foot Q W ok:=fun W' hW=>hi W' (h W' hW)
theorem old (h:Foot P W ok)(hb:Below W.heap.size W W1):Foot P W1 (fun k=>ok k∧k<W.heap.size):=(h.bound).step (fun k _ hlt=>hb.block k hlt)
end Foot
namespace Kd
def F {α:Type}(d:Kd α)(W:World)(ok:Nat→Prop)(A:Option Addr)(n:Nat)(xs:List α):Prop:=Foot (fun W=>d.C W A n xs) W ok
def FK {α:Type}(d:Kd α)(W:World)(ok:Nat→Prop)(x:α)(c:List Value):Prop:=Foot (fun W=>d.K W x c) W ok
section
variable {α β:Type}{d:Kd α}{e base n n' cc g N:Nat}{ok ok' okp S:Nat→Prop}{w w0 w1 W W1:World}{A A':Option Addr}{u v v1:Value}{xs:List α}{xs':List β}{d':Kd β}{x:α}{c:List Value}
theorem F_now (h:F d W ok A n xs):d.C W A n xs:=Foot.now h
theorem F_mono (h:F d W ok A n xs)(hok:∀ k,ok k→ok' k):F d W ok' A n xs:=Foot.mono h hok
theorem F_bound (h:F d W ok A n xs):F d W (fun k=>ok k∧k<W.heap.size) A n xs:=Foot.bound h
theorem F_step (h:F d W ok A n xs)(hm:∀ k,ok k→k<W.heap.size→W1.heap[k]?=W.heap[k]?):F d W1 ok A n xs:=Foot.step h hm
theorem F_imp (h:F d W ok A n xs)(hi:∀ W',d.C W' A n xs→d'.C W' A' n' xs'):F d' W ok A' n' xs':=Foot.imp h hi
theorem F_below (h:F d W ok A n xs)(hb:Below W.heap.size W W1):F d W1 ok A n xs:=F_step h (fun k _ hlt=>hb.block k hlt)
theorem F_alloc (h:F d W ok A n xs)(o:Obj):F d (W.alloc o) ok A n xs:=F_below h (below_alloc (Below.refl _ _) o)
theorem F_drew (h:F d W ok A n xs):F d W.drew ok A n xs:=F_below h (below_drew (Below.refl _ _))
theorem F_drewN (h:F d W ok A n xs)(m:Nat):F d (W.drewN m) ok A n xs:=F_below h (pw_below_drewN (Below.refl _ _) m)
theorem F_nil (d:Kd α)(W:World)(ok:Nat→Prop):F d W ok none ([]:List α).length []:=fun W' _=>C_nil d W'
theorem F_elderB (h:F d W ok A n xs)(a:Nat)(ha:W.heap.size≤a):F d W (fun k=>ok k∧k≠a) A n xs:=F_mono (F_bound h) (fun k hk=>⟨hk.1,by have:=hk.2;omega⟩)
theorem C_F (hd:Heap d)(h:d.C w A n xs):F d w (fun k=>k<w.heap.size) A n xs:=fun _ hW=>hd.C (fun k hlt=>hW k hlt hlt) h
theorem FK_of_M (h:d.M W base ok x c):FK d W ok x c:=fun _ hW=>d.K_of_M (M_step h hW)
end
end Kd
end
end Go.Proofs.YtgfajgkjbckkgaaGreatDoorW.PrintWords
end
section
namespace Go.Proofs.YtgfajgkjbckkgaaGreatDoorW.PrintWords
open Go.RowKit
namespace Kd
def chunks (sz:Nat)(n:Nat)(inner:List Value):List (List Value):=(List.range n).map fun j=>(inner.drop (j * sz)).take sz
theorem chunks_length (sz n:Nat)(inner:List Value):(chunks sz n inner).length=n:=by simp [chunks]
theorem chunks_at {sz n:Nat}{inner:List Value}{j:Nat}(hj:j<n):(chunks sz n inner)[j]?=some ((inner.drop (j * sz)).take sz):=by simp [chunks,hj]
theorem chunks_get {sz n:Nat}{inner:List Value}{j:Nat}{c:List Value}(h:(chunks sz n inner)[j]?=some c):c=(inner.drop (j * sz)).take sz:=by
 have hj:j<n:=by have:=(List.getElem?_eq_some_iff.1 h).1;rwa [chunks_length] at this
 rw [chunks_at hj] at h
 injection h with h
 exact h.symm
theorem reps_raw {α:Type}{Rr:α→List Value→Prop}{sz:Nat}{xs:List α}{inner:List Value}(h:Reps Rr sz xs inner)(hR:∀ x c,Rr x c→c.length=sz∧∀ u ∈ c,u.oneCell'=true):Reps (fun x cs=>cs=x∧cs.length=sz∧∀ u ∈ cs,u.oneCell'=true) sz (chunks sz xs.length inner) inner:=by
 refine ⟨by rw [chunks_length];exact h.1,fun j p hj=>?_⟩
 have hjl:j<xs.length:=by have:=(List.getElem?_eq_some_iff.1 hj).1;rwa [chunks_length] at this
 have hp:=chunks_get hj
 exact ⟨hp.symm,hR _ _ (h.2 j _ (List.getElem?_eq_getElem hjl))⟩
section
variable {α:Type}{d:Kd α}{e base n cc g:Nat}{ok ok' okp S:Nat→Prop}{w w1 W W1:World}{A:Option Addr}{u v v1:Value}{xs:List α}{x:α}{c:List Value}
def N {α:Type}(d:Kd α)(e:Nat)(w:World)(base:Nat)(ok:Nat→Prop)(v:Value)(xs:List α):Prop:=
  (∀ k,v.ownBlock=some k→ok k)∧∃ rows:List (List Value),rows.length=xs.length∧(raw d.sz).R e w base (fun k=>some k=v.ownBlock) v rows∧∀ (j:Nat) (x:α) (c:List Value),xs[j]?=some x→rows[j]?=some c→FK d w (fun k=>ok k∧some k≠v.ownBlock) x c
theorem R_N (h:d.R e w base ok v xs):N d e w base ok v xs:=by
 obtain ⟨h0,inner,ho,hr⟩:=h
 refine ⟨h0,chunks d.sz xs.length inner,chunks_length _ _ _,⟨fun k hk=>hk.symm,inner,by rw [chunks_length];exact ho,reps_raw hr (fun x c hp=>⟨d.K_len (d.K_of_M hp),d.K_one (d.K_of_M hp)⟩)⟩,fun j x c hx hc=>?_⟩
 rw [chunks_get hc]
 exact FK_of_M (hr.2 j x hx)
theorem N_nil (d:Kd α)(e:Nat)(w:World)(base:Nat)(ok:Nat→Prop):N d e w base ok (.slice none 0 0) []:=R_N (R_nil _ _ _ _ _)
end
end Kd
end Go.Proofs.YtgfajgkjbckkgaaGreatDoorW.PrintWords
end
section
namespace Go.Proofs.YtgfajgkjbckkgaaGreatDoorW.PrintMore
open Go.RowKit Go.Proofs.YtgfajgkjbckkgaaGreatDoorW.PrintWords
namespace Kd
open Go.Proofs.YtgfajgkjbckkgaaGreatDoorW.PrintWords.Kd
end Kd
namespace Kd
open Go.Proofs.YtgfajgkjbckkgaaGreatDoorW.PrintWords.Kd
section
variable {α:Type}{d:Kd α}{e base g N:Nat}{ok:Nat→Prop}{W w1:World}{u v:Value}{xs:List α}
end
end Kd
theorem max2_int (k k':IntKind)(x y:Int):Builtin.max2 (.int k x) (.int k' y)=pure (.int k (if x<y then y else x)):=by simp only [Builtin.max2,gt_iff_lt]
theorem min2_int (k k':IntKind)(x y:Int):Builtin.min2 (.int k x) (.int k' y)=pure (.int k (if y<x then y else x)):=by simp only [Builtin.min2]
theorem max_two (ats:Array TypeId)(ty:TypeId)(a b:Value):Builtin.max_ ats ty #[a,b]=(Builtin.max2 a b >>= fun s=>pure s):=by simp only [Builtin.max_,List.foldlM_cons,List.foldlM_nil]
theorem min_two (ats:Array TypeId)(ty:TypeId)(a b:Value):Builtin.min_ ats ty #[a,b]=(Builtin.min2 a b >>= fun s=>pure s):=by simp only [Builtin.min_,List.foldlM_cons,List.foldlM_nil]
theorem max_three (ats:Array TypeId)(ty:TypeId)(a b c:Value):Builtin.max_ ats ty #[a,b,c]=(Builtin.max2 a b >>= fun s=>Builtin.max2 s c >>= fun s=>pure s):=by simp only [Builtin.max_,List.foldlM_cons,List.foldlM_nil]
theorem min_three (ats:Array TypeId)(ty:TypeId)(a b c:Value):Builtin.min_ ats ty #[a,b,c]=(Builtin.min2 a b >>= fun s=>Builtin.min2 s c >>= fun s=>pure s):=by simp only [Builtin.min_,List.foldlM_cons,List.foldlM_nil]
theorem max_four (ats:Array TypeId)(ty:TypeId)(a b c d:Value):Builtin.max_ ats ty #[a,b,c,d]=(Builtin.max2 a b >>= fun s=>Builtin.max2 s c >>= fun s=>Builtin.max2 s d >>= fun s=>pure s):=by simp only [Builtin.max_,List.foldlM_cons,List.foldlM_nil]
theorem min_four (ats:Array TypeId)(ty:TypeId)(a b c d:Value):Builtin.min_ ats ty #[a,b,c,d]=(Builtin.min2 a b >>= fun s=>Builtin.min2 s c >>= fun s=>Builtin.min2 s d >>= fun s=>pure s):=by simp only [Builtin.min_,List.foldlM_cons,List.foldlM_nil]
end Go.Proofs.YtgfajgkjbckkgaaGreatDoorW.PrintMore
namespace Go.Proofs.YtgfajgkjbckkgaaGreatDoorW.PrintWords
open Go.RowKit
section
variable {P:Program}{ops:Array Oper}{rest:List Oper}{o:Oper}{a:Act}{Q:Exit→Act→World→Prop}{W:World}
theorem gate_callee {f:FuncId}{az:Array Operand}{ts:Array TypeId}(_ho:o.op = .call { callee:=.value (.func f),args:=az,argTypes:=ts }) (h:wpList P ops Q (o :: rest) a W):wpList P ops Q (o :: rest) a W:=h
theorem gate_builtin {b:Builtin}{xs:Array Operand}{ts:Array TypeId}(_ho:o.op = .call { callee:=.builtin b,args:=xs,argTypes:=ts }) (h:wpList P ops Q (o :: rest) a W):wpList P ops Q (o :: rest) a W:=h
end
def mx (a b:Int):Int:=if a<b then b else a
namespace Kd
section
variable {α:Type}{d:Kd α}{e base:Nat}{ok:Nat→Prop}{W w1:World}{v:Value}{xs:List α}
end
section
variable {α:Type}{d:Kd α}{e base g n cap:Nat}{ok oki okp:Nat→Prop}{W:World}{xs:List α}{i:Int}{c:List Value}
end
section
variable {α:Type}{d:Kd α}{e base b b' g N:Nat}{ok ok1:Nat→Prop}{W W2 w1:World}{u v:Value}{xs ys:List α}{S:Nat→Prop}
end
end Kd
end Go.Proofs.YtgfajgkjbckkgaaGreatDoorW.PrintWords
namespace Go.Proofs.YtgfajgkjbckkgaaGreatDoorW.PrintWords
open Go.RowKit
namespace Kd
def V {α:Type}(d:Kd α)(_e:Nat)(W:World)(_base:Nat)(ok:Nat→Prop)(v:Value)(xs:List α):Prop:=∃ A c,v = .slice A xs.length c∧xs.length≤c∧F d W ok A xs.length xs
section
variable {α β:Type}{d:Kd α}{e base base' n m c g N' lo hi:Nat}{ok ok' S:Nat→Prop}{w W w1:World}{A:Option Addr}{ad:Addr}{u v v1:Value}{xs:List α}
theorem V_map (h:V d e W base ok v xs)(hF:∀ A,F d W ok A xs.length xs→F d w1 ok' A xs.length xs):V d e w1 base' ok' v xs:=by
 obtain ⟨A,c,hv,hl,hf⟩:=h
 exact ⟨A,c,hv,hl,hF A hf⟩
theorem V_mk (hl:xs.length≤c)(hf:F d W ok A xs.length xs):V d e W base ok (.slice A xs.length c) xs:=⟨A,c,rfl,hl,hf⟩
theorem V_slice (h:V d e W base ok v xs):∃ A c,v = .slice A xs.length c:=by
 obtain ⟨A,c,hv,_⟩:=h
 exact ⟨A,c,hv⟩
theorem V_at (h:V d e W base ok (.slice A n c) xs):n=xs.length∧n≤c∧F d W ok A xs.length xs:=by
 obtain ⟨A',c',hv,hl,hf⟩:=h
 injection hv with ha hn hc
 subst ha;subst hc
 exact ⟨hn,by rw [hn];exact hl,hf⟩
theorem V_reads' (h:V d e W base ok (.slice A n c) xs):n=xs.length∧n≤c∧d.C W A xs.length xs:=⟨(V_at h).1,(V_at h).2.1,F_now (V_at h).2.2⟩
theorem V_nil (d:Kd α)(e:Nat)(W:World)(base:Nat)(ok:Nat→Prop):V d e W base ok (.slice none 0 0) []:=⟨none,0,rfl,Nat.le_refl _,F_nil d W ok⟩
theorem V_mono (h:V d e W base ok v xs)(hok:∀ k,ok k→ok' k):V d e W base ok' v xs:=V_map h (fun _ hf=>F_mono hf hok)
theorem V_lower (h:V d e W base ok v xs)(_:base'≤base):V d e W base' ok v xs:=h
theorem V_below (h:V d e W base ok v xs)(hb:Below W.heap.size W w1):V d e w1 base ok v xs:=V_map h (fun _ hf=>F_below hf hb)
theorem V_alloc (h:V d e W base ok v xs)(o:Obj):V d e (W.alloc o) base ok v xs:=V_map h (fun _ hf=>F_alloc hf o)
theorem V_drew (h:V d e W base ok v xs):V d e W.drew base ok v xs:=V_map h (fun _ hf=>F_drew hf)
theorem V_drewN (h:V d e W base ok v xs)(m:Nat):V d e (W.drewN m) base ok v xs:=V_map h (fun _ hf=>F_drewN hf m)
theorem V_elderB (h:V d e W base ok v xs)(a:Nat)(ha:W.heap.size≤a):V d e W base (fun k=>ok k∧k≠a) v xs:=V_map h (fun _ hf=>F_elderB hf a ha)
theorem F_take (h:F d W ok A xs.length xs)(hm:m≤xs.length):F d W ok A (xs.take m).length (xs.take m):=F_imp h (fun _ hC=>C_take hC hm)
theorem F_cut (h:F d W ok A xs.length xs)(hm:m≤xs.length)(hc:xs.length≤c):F d W ok (if c=m then A else A.map (·.add (m * d.sz))) (xs.drop m).length (xs.drop m):=F_imp h (fun _ hC=>C_drop hC hm hc)
end
end Kd
end Go.Proofs.YtgfajgkjbckkgaaGreatDoorW.PrintWords
end
section
set_option maxRecDepth 100000
namespace Go.Proofs.YtgfajgkjbckkgaaGreatDoor.PZ
open Go.RowKit Go.Proofs.YtgfajgkjbckkgaaGreatDoorW.PrintWords Go.Proofs.YtgfajgkjbckkgaaGreatDoorW.PrintLast
def T10 (n:Nat):Int:=10 ^ n
theorem T10_zero:T10 0=1:=rfl
theorem T10_succ (n:Nat):T10 (n+1)=T10 n * 10:=by unfold T10;exact Int.pow_succ 10 n
theorem T10_pos (n:Nat):0<T10 n:=by
 induction n with
 | zero=>decide
 | succ n ih=>rw [T10_succ];omega
theorem T10_le {a b:Nat}(h:a≤b):T10 a≤T10 b:=by
 obtain ⟨c,rfl⟩:∃ c,b=a+c:=⟨b - a,by omega⟩
 induction c with
 | zero=>exact Int.le_refl _
 | succ c ih=>have:=ih (by omega);have:=T10_pos (a+c);rw [← Nat.add_assoc,T10_succ];omega
def num (l:List Int):Int:=l.foldl (fun n d=>n * 10+d) 0
def Figs (l:List Int):Prop:=∀ d ∈ l,0≤d∧d≤9
theorem Figs.nil:Figs []:=fun _ h=>by cases h
theorem Figs.cons {d:Int}{l:List Int}(h0:0≤d)(h1:d≤9)(h:Figs l):Figs (d :: l):=by
 intro x hx
 rcases List.mem_cons.1 hx with rfl|hx
 · exact ⟨h0,h1⟩
 exact h x hx
theorem Figs.head {d:Int}{l:List Int}(h:Figs (d :: l)):0≤d∧d≤9:=h d List.mem_cons_self
theorem Figs.tail {d:Int}{l:List Int}(h:Figs (d :: l)):Figs l:=fun x hx=>h x (List.mem_cons_of_mem _ hx)
theorem Figs.append {a b:List Int}(h:Figs a)(k:Figs b):Figs (a ++ b):=by
 intro x hx
 rcases List.mem_append.1 hx with hx|hx
 · exact h x hx
 exact k x hx
theorem Figs.left {a b:List Int}(h:Figs (a ++ b)):Figs a:=fun x hx=>h x (List.mem_append_left _ hx)
theorem Figs.right {a b:List Int}(h:Figs (a ++ b)):Figs b:=fun x hx=>h x (List.mem_append_right _ hx)
theorem Figs.drop {l:List Int}(h:Figs l)(n:Nat):Figs (l.drop n):=fun x hx=>h x (List.mem_of_mem_drop hx)
theorem Figs.take {l:List Int}(h:Figs l)(n:Nat):Figs (l.take n):=fun x hx=>h x (List.mem_of_mem_take hx)
theorem Figs.zeros (n:Nat):Figs (List.replicate n 0):=fun x hx=>by
  have:=List.eq_of_mem_replicate hx
  subst this
  omega
theorem Figs.reverse {l:List Int}(h:Figs l):Figs l.reverse:=fun x hx=>h x (List.mem_reverse.1 hx)
theorem num_foldl (l:List Int)(n:Int):l.foldl (fun n d=>n * 10+d) n=n * T10 l.length+num l:=by
 induction l generalizing n with
 | nil=>simp [num,T10_zero]
 | cons d l ih=>
  have h1:num (d :: l)=d * T10 l.length+num l:=by
   unfold num
   rw [List.foldl_cons,ih]
   simp [num]
  rw [List.foldl_cons,ih,h1,List.length_cons,T10_succ]
  grind
theorem num_nil:num []=0:=rfl
theorem num_cons (d:Int)(l:List Int):num (d :: l)=d * T10 l.length+num l:=by
 unfold num
 rw [List.foldl_cons,num_foldl]
 simp [num]
theorem num_append (a b:List Int):num (a ++ b)=num a * T10 b.length+num b:=by
 unfold num
 rw [List.foldl_append,num_foldl]
 rfl
theorem num_one (d:Int):num [d]=d:=by simp [num]
theorem num_snoc (a:List Int)(d:Int):num (a ++ [d])=num a * 10+d:=by
 rw [num_append,num_one]
 rfl
theorem num_lt {l:List Int}(h:Figs l):0≤num l∧num l<T10 l.length:=by
 induction l with
 | nil=>exact ⟨by decide,by decide⟩
 | cons d l ih=>
  have h1:=ih h.tail
  have h2:=h.head
  have h3:=T10_pos l.length
  rw [num_cons,List.length_cons,T10_succ]
  have a1:0≤d * T10 l.length:=Int.mul_nonneg h2.1 (by omega)
  have a2:d * T10 l.length≤9 * T10 l.length:=Int.mul_le_mul_of_nonneg_right h2.2 (by omega)
  omega
theorem num_ge {d:Int}{l:List Int}(h:Figs (d :: l))(hd:0<d):T10 l.length≤num (d :: l):=by
 have h1:=num_lt h.tail
 have h3:=T10_pos l.length
 rw [num_cons]
 have a2:1 * T10 l.length≤d * T10 l.length:=Int.mul_le_mul_of_nonneg_right (by omega) (by omega)
 omega
def sg (x:Int):Int:=if x<0 then -1 else if 0<x then 1 else 0
theorem sg_pos {x:Int}:0<sg x ↔ 0<x:=by unfold sg;split <;> (try split) <;> omega
theorem sg_lt {x:Int}:sg x<0 ↔ x<0:=by unfold sg;split <;> (try split) <;> omega
theorem sg_eq {x y:Int}(h1:x<0 ↔ y<0)(h2:0<x ↔ 0<y):sg x=sg y:=by
 unfold sg
 split <;> rename_i a
 · rw [if_pos (h1.1 a)]
 rw [if_neg (fun b=>a (h1.2 b))]
 split <;> rename_i a
 · rw [if_pos (h2.1 a)]
 rw [if_neg (fun b=>a (h2.2 b))]
theorem sg_ahead {x y u v p:Int}(hu:0≤u∧u<p)(hv:0≤v∧v<p)(hne:x≠y):sg ((x * p+u) - (y * p+v))=sg (x - y):=by
 rcases Int.lt_or_gt_of_ne hne with h|h
 ·have:(x+1) * p≤y * p:=Int.mul_le_mul_of_nonneg_right (by omega) (by omega)
  have e:(x+1) * p=x * p+p:=by rw [Int.add_mul,Int.one_mul]
  exact sg_eq (by omega) (by omega)
 have:(y+1) * p≤x * p:=Int.mul_le_mul_of_nonneg_right (by omega) (by omega)
 have e:(y+1) * p=y * p+p:=by rw [Int.add_mul,Int.one_mul]
 exact sg_eq (by omega) (by omega)
theorem drop_cons (l:List Int)(k:Nat)(hk:k<l.length):l.drop k=rd l k :: l.drop (k+1):=by
 rw [List.drop_eq_getElem_cons hk]
 congr 1
 simp [rd,List.getD_eq_getElem?_getD,List.getElem?_eq_getElem hk]
theorem rd_mem (l:List Int)(k:Nat)(hk:k<l.length):rd l k ∈ l:=by
 have:rd l k=l[k]:=by simp [rd,List.getD_eq_getElem?_getD,List.getElem?_eq_getElem hk]
 rw [this]
 exact List.getElem_mem hk
theorem rd_out (l:List Int)(k:Nat)(hk:l.length≤k):rd l k=0:=by
 simp [rd,List.getD_eq_getElem?_getD,List.getElem?_eq_none hk]
theorem rd_figs {l:List Int}(h:Figs l)(k:Nat):0≤rd l k∧rd l k≤9:=by
 by_cases hk:k<l.length
 · exact h _ (rd_mem l k hk)
 rw [rd_out l k (by omega)];omega
theorem rd_append_left (a b:List Int)(k:Nat)(hk:k<a.length):rd (a ++ b) k=rd a k:=by
 simp [rd,List.getD_eq_getElem?_getD,List.getElem?_append_left hk]
def valN (l:List Int)(e:Int):Int:=num l * T10 (e+3000).toNat
def val (g:Bool)(l:List Int)(e:Int):Int:=if g then - valN l e else valN l e
theorem sg_of_pos {x:Int}(h:0<x):sg x=1:=by unfold sg;rw [if_neg (by omega),if_pos h]
theorem sg_of_neg {x:Int}(h:x<0):sg x = -1:=by unfold sg;rw [if_pos h]
theorem num_pos {l:List Int}(h:Figs l)(hl:0<l.length)(h0:0<rd l 0):T10 (l.length - 1)≤num l:=by
 cases l with
 | nil=>simp at hl
 | cons d l=>simpa using num_ge h (by simpa [rd] using h0)
theorem w64 (n:Int)(h1 : -9223372036854775808≤n)(h2:n≤9223372036854775807):wrap64 n=n:=by unfold wrap64;omega
theorem wf_u8 {n:Int}(h:(Lit.int .u8 n).wf=true):0≤n∧n≤255:=by
 have h1:(decide (IntKind.u8.min≤n) && decide (n≤IntKind.u8.max))=true:=h
 have e1:IntKind.u8.min=0:=rfl
 have e2:IntKind.u8.max=255:=rfl
 rw [e1,e2] at h1
 simpa using h1
theorem wf_i64 {n:Int}(h:(Lit.int .i64 n).wf=true) : -9223372036854775808≤n∧n≤9223372036854775807:=by
 have h1:(decide (IntKind.i64.min≤n) && decide (n≤IntKind.i64.max))=true:=h
 have e1:IntKind.i64.min = -9223372036854775808:=rfl
 have e2:IntKind.i64.max=9223372036854775807:=rfl
 rw [e1,e2] at h1
 simpa using h1
theorem Ev_shift {α:Type}{g:Nat→Option α}{r:α}(h:Ev (fun n=>g (n+1)) r):Ev g r:=Ev.step (fun _=>rfl) h
end Go.Proofs.YtgfajgkjbckkgaaGreatDoor.PZ
end
section
namespace Go.Proofs.YtgfajgkjbckkgaaGreatDoor.PZ
open Go.RowKit Go.Proofs.YtgfajgkjbckkgaaGreatDoorW.PrintWords Go.Proofs.YtgfajgkjbckkgaaGreatDoorW.PrintLast Go.Proofs.YtgfajgkjbckkgaaGreatDoorW.PrintMore
section
attribute [local go_sem] max2_int min2_int max_two min_two max_three min_three max_four min_four   -- for this text's walks alone
def errW:Option Int→Value
  | none=>.nilIface
  | some c=>.iface 0 (.int .i64 c)
theorem errW_none:errW none = .nilIface:=rfl
theorem errW_some (c:Int):errW (some c) = .iface 0 (.int .i64 c):=rfl
theorem info5:(Tryz.prog.info? 5).map (fun i=>(i.zero,i.size,i.bytes))=some (some (.int .u8 0),1,1):=by kernel_rfl
theorem info9:(Tryz.prog.info? 9).map (fun i=>(i.zero,i.size,i.bytes))=some (some (.string ⟨#[]⟩),1,16):=by kernel_rfl
theorem info57:(Tryz.prog.info? 57).map (fun i=>(i.zero,i.size,i.bytes))=some (some (.agg #[(.int .i64 0),(.int .i64 0)]),2,16):=by kernel_rfl
theorem info60:(Tryz.prog.info? 60).map (fun i=>(i.zero,i.size,i.bytes))=some (some (.agg #[(.int .u8 0),(.int .i64 0),(.bool false),(.slice none 0 0)]),4,48):=by kernel_rfl
theorem info61:(Tryz.prog.info? 61).map (fun i=>(i.zero,i.size,i.bytes))=some (some (.slice none 0 0),1,24):=by kernel_rfl
theorem info65:(Tryz.prog.info? 65).map (fun i=>(i.zero,i.size,i.bytes))=some (some (.agg #[(.int .i64 0),(.slice none 0 0)]),2,32):=by kernel_rfl
structure S57 where
  f0:Int
  f1:Int
def z57:S57:=⟨(0:Int),(0:Int)⟩
def k57:Kd S57:=Kd.iso (Kd.pair (Kd.int .i64) (Kd.int .i64)) (fun x:S57=>(x.f0,x.f1))
theorem k57_open {w:World}{x:S57}{cs:List Value}(h:k57.K w x cs):cs=[.int .i64 x.f0,.int .i64 x.f1]:=by
 obtain ⟨_,_,rfl,rfl,rfl⟩:=h
 exact rfl
theorem k57_mk (w:World)(x:S57)  : k57.K w x [.int .i64 x.f0,.int .i64 x.f1]:=⟨[.int .i64 x.f0],[.int .i64 x.f1],rfl,rfl,rfl⟩
theorem k57_mkM (w:World)(base:Nat)(ok:Nat→Prop)(x:S57)  : k57.M w base ok x [.int .i64 x.f0,.int .i64 x.f1]:=⟨[.int .i64 x.f0],[.int .i64 x.f1],rfl,rfl,rfl⟩
def rd_T57 (xs:List S57)(i:Int):S57:=xs.getD i.toNat z57
theorem at_T57 {w:World}{A:Option Addr}{n:Nat}{xs:List S57}(h:Kd.C k57 w A n xs)(i:Int)(h0:0≤i)(h1:i<n):∃ ad,A=some ad∧w.cell? (ad.add (i.toNat * 2))=some (.int .i64 (rd_T57 xs i).f0)∧w.cell? ⟨(ad.add (i.toNat * 2)).block,(ad.add (i.toNat * 2)).off+1,none⟩=some (.int .i64 (rd_T57 xs i).f1):=by
 obtain ⟨ad,c,e,_,hK,hc0⟩:=Kd.C_get h z57 i h0 h1
 have hc:∀ j u,c[j]?=some u→w.cell? (ad.add (i.toNat * 2+j))=some u:=hc0
 obtain rfl:=k57_open hK
 exact ⟨ad,e,hc 0 _ rfl,by rw [← add_field _ _ 1 (by omega)];exact hc 1 _ rfl⟩
structure S60 where
  f0:Int
  f1:Int
  f2:Bool
  f3:(List S57)
def z60:S60:=⟨(0:Int),(0:Int),false,([]:List S57)⟩
def k60:Kd S60:=Kd.iso (Kd.pair (Kd.int .u8) (Kd.pair (Kd.int .i64) (Kd.pair Kd.bool (Kd.slice 57 k57)))) (fun x:S60=>(x.f0,x.f1,x.f2,x.f3))
theorem k60_open {w:World}{x:S60}{cs:List Value}(h:k60.K w x cs):∃ A3 c3,cs=[.int .u8 x.f0,.int .i64 x.f1,.bool x.f2,.slice A3 x.f3.length c3]∧x.f3.length≤c3∧k57.C w A3 x.f3.length x.f3:=by
 obtain ⟨_,_,rfl,rfl,⟨_,_,rfl,rfl,⟨_,_,rfl,rfl,⟨A3,c3,rfl,l3,g3⟩⟩⟩⟩:=h
 exact ⟨A3,c3,rfl,l3,g3⟩
theorem k60_mk (w:World)(x:S60){A3:Option Addr}{c3:Nat}(l3:x.f3.length≤c3)(g3:k57.C w A3 x.f3.length x.f3):k60.K w x [.int .u8 x.f0,.int .i64 x.f1,.bool x.f2,.slice A3 x.f3.length c3]:=⟨[.int .u8 x.f0],[.int .i64 x.f1,.bool x.f2,.slice A3 x.f3.length c3],rfl,rfl,⟨[.int .i64 x.f1],[.bool x.f2,.slice A3 x.f3.length c3],rfl,rfl,⟨[.bool x.f2],[.slice A3 x.f3.length c3],rfl,rfl,⟨A3,c3,rfl,l3,g3⟩⟩⟩⟩
theorem k60_mkM (w:World)(base:Nat)(ok:Nat→Prop)(x:S60){v3:Value}(g3:k57.R 57 w base ok v3 x.f3):k60.M w base ok x [.int .u8 x.f0,.int .i64 x.f1,.bool x.f2,v3]:=⟨[.int .u8 x.f0],[.int .i64 x.f1,.bool x.f2,v3],rfl,rfl,⟨[.int .i64 x.f1],[.bool x.f2,v3],rfl,rfl,⟨[.bool x.f2],[v3],rfl,rfl,⟨v3,rfl,g3⟩⟩⟩⟩
def rd_T60 (xs:List S60)(i:Int):S60:=xs.getD i.toNat z60
theorem at_T60 {w:World}{A:Option Addr}{n:Nat}{xs:List S60}(h:Kd.C k60 w A n xs)(i:Int)(h0:0≤i)(h1:i<n):∃ ad A3 c3,A=some ad∧w.cell? (ad.add (i.toNat * 4))=some (.int .u8 (rd_T60 xs i).f0)∧w.cell? ⟨(ad.add (i.toNat * 4)).block,(ad.add (i.toNat * 4)).off+1,none⟩=some (.int .i64 (rd_T60 xs i).f1)∧w.cell? ⟨(ad.add (i.toNat * 4)).block,(ad.add (i.toNat * 4)).off+2,none⟩=some (.bool (rd_T60 xs i).f2)∧w.cell? ⟨(ad.add (i.toNat * 4)).block,(ad.add (i.toNat * 4)).off+3,none⟩=some (.slice A3 (rd_T60 xs i).f3.length c3)∧(rd_T60 xs i).f3.length≤c3∧k57.C w A3 (rd_T60 xs i).f3.length (rd_T60 xs i).f3:=by
 obtain ⟨ad,c,e,_,hK,hc0⟩:=Kd.C_get h z60 i h0 h1
 have hc:∀ j u,c[j]?=some u→w.cell? (ad.add (i.toNat * 4+j))=some u:=hc0
 obtain ⟨A3,c3,rfl,l3,g3⟩:=k60_open hK
 exact ⟨ad,A3,c3,e,hc 0 _ rfl,by rw [← add_field _ _ 1 (by omega)];exact hc 1 _ rfl,by rw [← add_field _ _ 2 (by omega)];exact hc 2 _ rfl,by rw [← add_field _ _ 3 (by omega)];exact hc 3 _ rfl,l3,g3⟩
def rd_L7 (xs:List (List S60))(i:Int):(List S60):=xs.getD i.toNat ([]:List S60)
theorem at_L7 {w:World}{A:Option Addr}{n:Nat}{xs:List (List S60)}(h:Kd.C (Kd.slice 60 k60) w A n xs)(i:Int)(h0:0≤i)(h1:i<n):∃ ad A0 c0,A=some ad∧w.cell? (ad.add i.toNat)=some (.slice A0 (rd_L7 xs i).length c0)∧(rd_L7 xs i).length≤c0∧k60.C w A0 (rd_L7 xs i).length (rd_L7 xs i):=by
 obtain ⟨ad,c,e,_,hK,hc0⟩:=Kd.C_get h ([]:List S60) i h0 h1
 have hc:∀ j u,c[j]?=some u→w.cell? (ad.add (i.toNat * 1+j))=some u:=hc0
 obtain ⟨A0,c0,rfl,l0,g0⟩:=hK
 exact ⟨ad,A0,c0,e,by have hq:=hc 0 _ rfl;rwa [Nat.mul_one,Nat.add_zero] at hq,l0,g0⟩
structure S68 where
  f0:Int
  f1:ByteArray
def z68:S68:=⟨(0:Int),(⟨#[]⟩:ByteArray)⟩
def k68:Kd S68:=Kd.iso (Kd.pair (Kd.int .i64) Kd.string) (fun x:S68=>(x.f0,x.f1))
theorem k68_open {w:World}{x:S68}{cs:List Value}(h:k68.K w x cs):cs=[.int .i64 x.f0,.string x.f1]:=by
 obtain ⟨_,_,rfl,rfl,rfl⟩:=h
 exact rfl
theorem k68_mkM (w:World)(base:Nat)(ok:Nat→Prop)(x:S68)  : k68.M w base ok x [.int .i64 x.f0,.string x.f1]:=⟨[.int .i64 x.f0],[.string x.f1],rfl,rfl,rfl⟩
def rd_T68 (xs:List S68)(i:Int):S68:=xs.getD i.toNat z68
theorem at_T68 {w:World}{A:Option Addr}{n:Nat}{xs:List S68}(h:Kd.C k68 w A n xs)(i:Int)(h0:0≤i)(h1:i<n):∃ ad,A=some ad∧w.cell? (ad.add (i.toNat * 2))=some (.int .i64 (rd_T68 xs i).f0)∧w.cell? ⟨(ad.add (i.toNat * 2)).block,(ad.add (i.toNat * 2)).off+1,none⟩=some (.string (rd_T68 xs i).f1):=by
 obtain ⟨ad,c,e,_,hK,hc0⟩:=Kd.C_get h z68 i h0 h1
 have hc:∀ j u,c[j]?=some u→w.cell? (ad.add (i.toNat * 2+j))=some u:=hc0
 obtain rfl:=k68_open hK
 exact ⟨ad,e,hc 0 _ rfl,by rw [← add_field _ _ 1 (by omega)];exact hc 1 _ rfl⟩
structure S65 where
  f0:Int
  f1:(List (List S60))
def z65:S65:=⟨(0:Int),([]:List (List S60))⟩
def k65:Kd S65:=Kd.iso (Kd.pair (Kd.int .i64) (Kd.slice 61 (Kd.slice 60 k60))) (fun x:S65=>(x.f0,x.f1))
theorem k65_open {w:World}{x:S65}{cs:List Value}(h:k65.K w x cs):∃ A1 c1,cs=[.int .i64 x.f0,.slice A1 x.f1.length c1]∧x.f1.length≤c1∧(Kd.slice 60 k60).C w A1 x.f1.length x.f1:=by
 obtain ⟨_,_,rfl,rfl,⟨A1,c1,rfl,l1,g1⟩⟩:=h
 exact ⟨A1,c1,rfl,l1,g1⟩
theorem k65_mk (w:World)(x:S65){A1:Option Addr}{c1:Nat}(l1:x.f1.length≤c1)(g1:(Kd.slice 60 k60).C w A1 x.f1.length x.f1):k65.K w x [.int .i64 x.f0,.slice A1 x.f1.length c1]:=⟨[.int .i64 x.f0],[.slice A1 x.f1.length c1],rfl,rfl,⟨A1,c1,rfl,l1,g1⟩⟩
theorem k65_mkM (w:World)(base:Nat)(ok:Nat→Prop)(x:S65){v1:Value}(g1:(Kd.slice 60 k60).R 61 w base ok v1 x.f1):k65.M w base ok x [.int .i64 x.f0,v1]:=⟨[.int .i64 x.f0],[v1],rfl,rfl,⟨v1,rfl,g1⟩⟩
def rd_T65 (xs:List S65)(i:Int):S65:=xs.getD i.toNat z65
theorem at_T65 {w:World}{A:Option Addr}{n:Nat}{xs:List S65}(h:Kd.C k65 w A n xs)(i:Int)(h0:0≤i)(h1:i<n):∃ ad A1 c1,A=some ad∧w.cell? (ad.add (i.toNat * 2))=some (.int .i64 (rd_T65 xs i).f0)∧w.cell? ⟨(ad.add (i.toNat * 2)).block,(ad.add (i.toNat * 2)).off+1,none⟩=some (.slice A1 (rd_T65 xs i).f1.length c1)∧(rd_T65 xs i).f1.length≤c1∧(Kd.slice 60 k60).C w A1 (rd_T65 xs i).f1.length (rd_T65 xs i).f1:=by
 obtain ⟨ad,c,e,_,hK,hc0⟩:=Kd.C_get h z65 i h0 h1
 have hc:∀ j u,c[j]?=some u→w.cell? (ad.add (i.toNat * 2+j))=some u:=hc0
 obtain ⟨A1,c1,rfl,l1,g1⟩:=k65_open hK
 exact ⟨ad,A1,c1,e,hc 0 _ rfl,by rw [← add_field _ _ 1 (by omega)];exact hc 1 _ rfl,l1,g1⟩
end
end Go.Proofs.YtgfajgkjbckkgaaGreatDoor.PZ
end
