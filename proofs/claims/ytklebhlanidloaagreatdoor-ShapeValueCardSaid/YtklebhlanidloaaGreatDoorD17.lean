/- Texts of this seat, joined. Conditions: none beyond each statement's own. -/
import Derived.Test.YtklebhlanidloaaGreatDoorD16
set_option linter.all false
section
set_option maxRecDepth 100000
namespace Go.Proofs.YtklebhlanidloaaGreatDoor.PZ
open Go.RowKit Go.Proofs.YtklebhlanidloaaGreatDoorW.PrintWords Go.Proofs.YtklebhlanidloaaGreatDoorW.PrintLast Go.Proofs.YtklebhlanidloaaGreatDoorW.PrintMore
section
attribute [local go_sem] max2_int min2_int max_two min_two max_three min_three max_four min_four
def bareL (l:List Int):List Int:=l.dropWhile (· == 0)
theorem bare_l0 (l:List Int)(hl:l.length≤9223372036854775807):∀ k,l.length<k→round_bare.l0 k l=some (bareL l):=by
 induction l with
 | nil=>intro k hk;obtain ⟨k,rfl⟩:∃ j,k=j+1:=⟨k - 1,by omega⟩;simp [round_bare.l0,bareL]
 | cons x l ih=>
  intro k hk
  obtain ⟨k,rfl⟩:∃ j,k=j+1:=⟨k - 1,by omega⟩
  simp only [List.length_cons] at hl hk
  simp only [round_bare.l0,List.length_cons]
  have hx:rd (x :: l) 0=x:=rfl
  rw [if_pos (by omega),if_pos (by omega),hx]
  by_cases h0:x=0
  ·subst h0
   rw [if_pos rfl,if_pos (by omega),List.drop_succ_cons,List.drop_zero,ih (by omega) k (by omega)]
   simp [bareL]
  rw [if_neg h0]
  simp [bareL,h0]
theorem bare_f (l:List Int)(hl:l.length≤9223372036854775807):round_bare.f (l.length+1) l=some (bareL l):=bare_l0 l hl _ (Nat.lt_succ_self _)
theorem bareL_len (l:List Int):(bareL l).length≤l.length:=by unfold bareL;exact (List.dropWhile_sublist _).length_le
def cmpL (a b:List Int):Int:=if ((bareL a).length:Int)=((bareL b).length:Int) then Lib.compareBytes (Lib.bytesOf (bareL a)) (Lib.bytesOf (bareL b)) else ((bareL a).length:Int) - ((bareL b).length:Int)
theorem compared_f (a b:List Int)(ha:a.length≤4611686018427387904)(hb:b.length≤4611686018427387904):round_compared.f (a.length+b.length+1) a b=some (cmpL a b):=by
 have h1:=bareL_len a
 have h2:=bareL_len b
 unfold round_compared.f round_bare.f
 rw [bare_l0 a (by omega) _ (by omega),bare_l0 b (by omega) _ (by omega)]
 simp only [Option.bind_some]
 unfold cmpL
 split
 · rfl
 rw [w64 _ (by omega) (by omega)]
def divHead (l:List Int)(dr:Int):List Int:=if dr>0 then l.take (l.length - dr.toNat) else l ++ List.replicate (-dr).toNat 0
def divTail (l:List Int)(dr:Int):List Int:=if dr>0 then List.replicate (dr.toNat - l.length) 0 ++ l.drop (l.length - dr.toNat) else []
def divStep (k:Int)(s:Int×List Int)(c:Int):Int×List Int:=((s.1 * 10+c) % k,s.2 ++ [(s.1 * 10+c) / k])
def divLoop (k:Int)(hd:List Int):Int×List Int:=hd.foldl (divStep k) (0,[])
def figL (n:Int):List Int:=(bytesOf (numText n)).map lessB
def divLeft (k:Int)(hd tl:List Int):List Int:=figL (divLoop k hd).1 ++ tl
def divHalf (k:Int)(hd tl:List Int):Int:=cmpL (timesL (divLeft k hd tl) 2) (figL k ++ List.replicate tl.length 0)
def round_divided.f (g:Bool)(l:List Int)(e k place:Int):Option (List Int×Int×Bool):=
  if (1≤k∧k≤1000000000∧l.length≤1000000000 ∧ -1000000000≤e∧e≤1000000000 ∧ -1000000000≤place∧place≤1000000000)∧(∀ c ∈ l,0≤c∧c≤9) then
    some ((divLoop k (divHead l (place - e))).2,divHalf k (divHead l (place - e)) (divTail l (place - e)),decide (0<(bareL (divLeft k (divHead l (place - e)) (divTail l (place - e)))).length)) else none
theorem blk3 {W:World}{b:Nat}{x y z:Value}{t:TypeId}(h:W.heap[b]?=some (.cells #[x,y,z] t (0,0))):(W.cell? ⟨b,0,none⟩=some x∧W.cell? ⟨b,1,none⟩=some y∧W.cell? ⟨b,2,none⟩=some z)∧W.frozen? ⟨b,0,none⟩=false∧W.frozen? ⟨b,1,none⟩=false∧W.frozen? ⟨b,2,none⟩=false:=by
 refine ⟨⟨?_,?_,?_⟩,?_,?_,?_⟩
 · rw [cell_of_row _ _ _ _ _ _ h];rfl
 · rw [cell_of_row _ _ _ _ _ _ h];rfl
 · rw [cell_of_row _ _ _ _ _ _ h];rfl
 all_goals
  unfold World.frozen?
  simp only [h]
  simp
def DivBx (B:Nat)(g:Bool)(A:Option Addr)(n c:Nat)(e:Int)(W:World):Prop:=W.heap[B]?=some (.cells #[.bool g,.slice A n c,.int .i64 e] 29 (0,0))∧W.heap[B+1]?=some (.cells #[.slice none 0 0,.int .i64 0,.bool false] 126 (0,0))
theorem DivBx.start (w:World)(g:Bool)(A:Option Addr)(n c:Nat)(e:Int):DivBx w.heap.size g A n c e ((w.alloc (.cells #[.bool g,.slice A n c,.int .i64 e] 29)).alloc (.cells #[.slice none 0 0,.int .i64 0,.bool false] 126)):=by
 have h1:=heap_alloc_new w (.cells #[.bool g,.slice A n c,.int .i64 e] 29)
 have h2:=heap_alloc_new (w.alloc (.cells #[.bool g,.slice A n c,.int .i64 e] 29)) (.cells #[.slice none 0 0,.int .i64 0,.bool false] 126)
 refine ⟨?_,by simpa using h2⟩
 rw [((Below.refl _ _).alloc (Nat.le_refl _) _).block w.heap.size (by simp)]
 exact h1
theorem DivBx.below {B:Nat}{g:Bool}{A:Option Addr}{n c:Nat}{e:Int}{W W':World}(h:DivBx B g A n c e W)(hb:Below W.heap.size W W'):DivBx B g A n c e W':=
  ⟨(hb.block _ (Array.getElem?_eq_some_iff.1 h.1).1).trans h.1,(hb.block _ (Array.getElem?_eq_some_iff.1 h.2).1).trans h.2⟩
theorem divHead_in (l:List Int)(n dr:Nat)(h:l.length=n+dr)(hd:0<(dr:Int)):divHead l dr=l.take n∧divTail l dr=List.replicate 0 0 ++ l.drop n:=by
 unfold divHead divTail
 rw [if_pos hd,if_pos hd,Int.toNat_natCast,show l.length - dr=n by omega,show dr - l.length=0 by omega]
 exact ⟨rfl,rfl⟩
theorem divHead_far (l:List Int)(z:Nat)(hz:0<(z:Int)):divHead l (l.length+z)=l.take 0∧divTail l (l.length+z)=List.replicate z 0 ++ l.drop 0:=by
 unfold divHead divTail
 have e:((l.length:Int)+(z:Int)).toNat=l.length+z:=by omega
 rw [if_pos (by omega),if_pos (by omega),e,show l.length - (l.length+z)=0 by omega,show l.length+z - l.length=z by omega]
 exact ⟨rfl,rfl⟩
theorem divHead_le (l:List Int)(d:Int)(h:¬ 0<d):divHead l d=l ++ List.replicate (-d).toNat 0∧divTail l d=[]:=by
 unfold divHead divTail
 rw [if_neg h,if_neg h]
 exact ⟨rfl,rfl⟩
theorem step_append_rows {ops:Array Oper}{o:Oper}{a:Act}{W:World}{K:Act→World→Prop}{Q:Exit→Act→World→Prop}{E:Prop}(hg:o.guard=none)(s x:Operand)
    (hop:o.op = .call { callee:=.builtin .append,args:=#[s,x],argTypes:=#[27,27] }) (base:Nat) (v:Value) (l:List Int) (hs:a.eval s=v) (h:RowS W base v l) (A:Option Addr) (zs:List Int) (c n:Nat) (hn:zs.length=n) (hx:a.eval x = .slice A n c)
    (hC:Kd.C (Kd.int .u8) W A zs.length zs) (hlen:l.length+zs.length≤140737488355328) (hbase:base≤W.heap.size) (hK:∀ v' w',RowS w' base v' (l ++ zs)→Below base W w'→K (a.put o.dst v') w') :
    if Region.wanted o (yielded ops a.tmps)=true then Oper.wp Tryz.prog o a W K Q else E:=by
 subst hn
 have hw:Region.wanted o (yielded ops a.tmps)=true:=by simp [Region.wanted,hg]
 rw [if_pos hw]
 obtain ⟨v',w',hr,h1,h2⟩:=append_rows W base v l h A zs c hC hlen hbase o.type
 unfold Oper.wp execOp
 simp only [hop,resolve,invoke,builtin,Sem.run_bind,Sem.run_pure,Result.andThen_ok,List.map_toArray,List.map_cons,List.map_nil,hs,hx,hr]
 exact hK _ _ h1 h2
theorem make_zeros (m:Nat)(hm:m≤1000000000000)(W:World):(Instr.makeSlice 27 (.int .i64 (m:Int)) (.int .i64 (m:Int))).run Tryz.prog W = .ok (.slice (some ⟨W.heap.size,0,none⟩) m m) (W.alloc (.cells (List.replicate m (Value.int .u8 0)).toArray 5)):=by
 obtain ⟨i,hi,hz,hsz,hby⟩:=info_parts zerosByteInfo
 have h:=run_make (P:=Tryz.prog) W 27 5 i _ Tryz.underlying27 hi hz .i64 .i64 (m:Int) (m:Int) (by omega) (Int.le_refl _) (by rw [hby];omega) (by omega)
 rw [h,Int.toNat_natCast,hsz,Nat.mul_one]
 congr 4
 apply Array.ext
 · simp [madeCells]
 intro j h1 h2
 simp [madeCells,Value.cells,Nat.mod_one]
theorem step_max0 {ops:Array Oper}{o:Oper}{a:Act}{W:World}{K:Act→World→Prop}{Q:Exit→Act→World→Prop}{E:Prop}(hg:o.guard=none)(s:Operand)(ats:Array TypeId)
    (hop:o.op = .call { callee:=.builtin .max,args:=#[s,.const (.int .i64 0)],argTypes:=ats }) (x z:Int) (hs:a.eval s = .int .i64 x) (hz:(if x<0 then 0 else x)=z) (hK:K (a.put o.dst (.int .i64 z)) W) :
    if Region.wanted o (yielded ops a.tmps)=true then Oper.wp Tryz.prog o a W K Q else E:=by
 have hw:Region.wanted o (yielded ops a.tmps)=true:=by simp [Region.wanted,hg]
 rw [if_pos hw]
 have h0:a.eval (.const (.int .i64 0)) = .int .i64 0:=rfl
 unfold Oper.wp execOp
 simp only [hop,resolve,invoke,builtin,Sem.run_bind,Sem.run_pure,Result.andThen_ok,List.map_toArray,List.map_cons,List.map_nil,hs,h0,max_two,max2_int,hz]
 exact hK
theorem divLoop_snoc (k:Int)(hd:List Int)(j:Nat)(hj:j<hd.length):divLoop k (hd.take (j+1))=divStep k (divLoop k (hd.take j)) (rd hd j):=by
 unfold divLoop
 have e:hd.take (j+1)=hd.take j ++ [rd hd j]:=by
  rw [List.take_succ_eq_append_getElem hj]
  congr 2
  simp [rd,List.getD_eq_getElem?_getD,List.getElem?_eq_getElem hj]
 rw [e,List.foldl_append]
 rfl
theorem divLoop_bounds {k:Int}(hk:1≤k){hd:List Int}(hf:Figs hd):0≤(divLoop k hd).1∧(divLoop k hd).1<k∧(divLoop k hd).2.length=hd.length:=by
 have:∀ (l:List Int) (s:Int×List Int),0≤s.1∧s.1<k→0≤(l.foldl (divStep k) s).1∧(l.foldl (divStep k) s).1<k∧(l.foldl (divStep k) s).2.length=s.2.length+l.length:=by
  intro l
  induction l with
  | nil=>intro s h;exact ⟨h.1,h.2,by simp⟩
  | cons c l ih=>
   intro s h
   rw [List.foldl_cons]
   obtain ⟨a1,a2,a3⟩:=ih (divStep k s c) ⟨Int.emod_nonneg _ (by omega),Int.emod_lt_of_pos _ (by omega)⟩
   exact ⟨a1,a2,by rw [a3];simp [divStep];omega⟩
 obtain ⟨a1,a2,a3⟩:=this hd (0,[]) ⟨Int.le_refl _,by show (0:Int)<k;omega⟩
 exact ⟨a1,a2,by unfold divLoop;simpa using a3⟩
theorem divHead_figs {l:List Int}(h:Figs l)(D:Int):Figs (divHead l D):=by
 unfold divHead
 split
 · exact h.take _
 exact h.append (Figs.zeros _)
theorem divTail_figs {l:List Int}(h:Figs l)(D:Int):Figs (divTail l D):=by
 unfold divTail
 split
 · exact (Figs.zeros _).append (h.drop _)
 exact Figs.nil
theorem divHead_len (l:List Int)(D:Int)(hD : -2000000000≤D∧D≤2000000000)(hl:l.length≤1000000000):(divHead l D).length≤3000000000∧(divTail l D).length≤3000000000:=by
 unfold divHead divTail
 split
 · simp;omega
 simp;omega
theorem wpList_append_rows {ops:Array Oper}{rest:List Oper}{o:Oper}{a:Act}{Q:Exit→Act→World→Prop}{W:World}(hgd:o.guard=none)(s x:Operand)(hop:o.op = .call { callee:=.builtin .append,args:=#[s,x],argTypes:=#[27,27] })
    (base:Nat) (v:Value) (l:List Int) (hs:a.eval s=v) (h:RowS W base v l) (A:Option Addr) (zs:List Int) (c:Nat) (hx:a.eval x = .slice A zs.length c) (hC:Kd.C (Kd.int .u8) W A zs.length zs) (hlen:l.length+zs.length≤140737488355328) (hbase:base≤W.heap.size)
    (hK:∀ v' w',RowS w' base v' (l ++ zs)→Below base W w'→wpList Tryz.prog ops Q rest (a.put o.dst v') w'):wpList Tryz.prog ops Q (o :: rest) a W:=by
 obtain ⟨v',w',hr,h1,h2⟩:=append_rows W base v l h A zs c hC hlen hbase o.type
 exact wpList_append_runs hgd s x _ _ _ _ _ hop hs hx hr (hK _ _ h1 h2)
def DivE (w:World)(B:Nat)(q:List Int)(v:Value)(h:Int)(b:Bool)(W:World):Prop:=
  W.heap[B]?=some (.cells #[v,.int .i64 h,.bool b] 126 (0,0))∧W.heap[w.heap.size+1]?=some (.cells #[.slice none 0 0,.int .i64 0,.bool false] 126 (0,0))∧W.ownsRow w.heap.size 5 1 v q.length (q.map (Value.int .u8))∧Below w.heap.size w W
theorem own_lt {W:World}{base n:Nat}{e:TypeId}{v:Value}{xs:List Value}(h:W.ownsRow base e 1 v n xs)(k:Nat)(hk:v.ownBlock=some k):k<W.heap.size:=by
 obtain ⟨cs,hcs⟩:=own_typed h k hk
 exact (Array.getElem?_eq_some_iff.1 hcs).1
theorem own_slice {W:World}{base n:Nat}{e:TypeId}{v:Value}{xs:List Value}(h:W.ownsRow base e 1 v n xs):∃ A c,v = .slice A n c:=by
 rcases h.2 with ⟨rfl,rfl⟩|⟨g,cap,cur,rfl,_⟩
 · exact ⟨_,_,rfl⟩
 exact ⟨_,_,rfl⟩
theorem own_below {W:World}{base base' n:Nat}{e:TypeId}{v:Value}{xs:List Value}(h:W.ownsRow base e 1 v n xs)(hb:base'≤base):W.ownsRow base' e 1 v n xs:=by
 obtain ⟨h1,h2⟩:=h
 refine ⟨h1,?_⟩
 rcases h2 with h2|⟨g,cap,cur,rfl,hg,r⟩
 · exact .inl h2
 exact .inr ⟨g,cap,cur,rfl,by omega,r⟩
theorem DivE.below {w:World}{B:Nat}{q:List Int}{v:Value}{h:Int}{b:Bool}{W W':World}(hE:DivE w B q v h b W)(hb:Below W.heap.size W W'):DivE w B q v h b W':=by
 obtain ⟨h1,h2,h3,h4⟩:=hE
 exact ⟨(hb.block _ (Array.getElem?_eq_some_iff.1 h1).1).trans h1,(hb.block _ (Array.getElem?_eq_some_iff.1 h2).1).trans h2,own_move h3 (fun k hk=>hb.block k (own_lt h3 k hk)),h4.trans (hb.mono h4.size)⟩
theorem own_other {W:World}{base n B:Nat}{v:Value}{xs:List Value}{cs:Array Value}{t:TypeId}(h:W.ownsRow base 5 1 v n xs)(hB:W.heap[B]?=some (.cells cs t (0,0)))(ht:5≠t)(i:Nat)(u:Value):(W.setCell ⟨B,i,none⟩ u).ownsRow base 5 1 v n xs:=by
 refine own_move h (fun k hk=>Below.heap_setCell _ _ _ k ?_)
 intro e
 obtain ⟨cs',hcs⟩:=own_typed h k hk
 have e':k=B:=e
 rw [e',hB] at hcs
 injection hcs with h1
 injection h1 with _ h2 _
 exact ht h2.symm
theorem DivE.set1 {w:World}{B:Nat}{q:List Int}{v:Value}{h:Int}{b:Bool}{W:World}(hE:DivE w B q v h b W)(hB:w.heap.size+1<B)(h':Int):DivE w B q v h' b (W.setCell ⟨B,1,none⟩ (.int .i64 h')):=by
 obtain ⟨h1,h2,h3,h4⟩:=hE
 exact ⟨blk_set h1 1 _,blk_far h2 (by show w.heap.size+1≠B;omega) _,own_other h3 h1 (by decide) 1 _,h4.setCell (p:=⟨B,1,none⟩) (by show w.heap.size≤B;omega) _⟩
theorem DivE.set2 {w:World}{B:Nat}{q:List Int}{v:Value}{h:Int}{b:Bool}{W:World}(hE:DivE w B q v h b W)(hB:w.heap.size+1<B)(b':Bool):DivE w B q v h b' (W.setCell ⟨B,2,none⟩ (.bool b')):=by
 obtain ⟨h1,h2,h3,h4⟩:=hE
 exact ⟨blk_set h1 2 _,blk_far h2 (by show w.heap.size+1≠B;omega) _,own_other h3 h1 (by decide) 2 _,h4.setCell (p:=⟨B,2,none⟩) (by show w.heap.size≤B;omega) _⟩
theorem fig_f (n:Int)(h0:0≤n)(h1:n≤1000000000):round_figures.f n=some (figL n):=by unfold round_figures.f figL;rw [if_pos (by omega)]
theorem figL_len (n:Int)(h0:0≤n)(h1:n≤1000000000):(figL n).length≤21:=by
 unfold figL
 rw [List.length_map,bytesOf_length]
 exact numText_size n (by omega) (by omega)
theorem figL_eq (n:Int)(h0:0≤n):figL n=digsN n.toNat:=by
 unfold figL numText
 rw [bytes_list,itoa_map]
 unfold pw
 rw [if_neg (by omega),List.map_map]
 have:∀ l:List Int,Figs l→l.map (lessB ∘ chr)=l:=by
  intro l
  induction l with
  | nil=>intro _;rfl
  | cons d l ih=>
   intro h
   have hd:=h.head
   rw [List.map_cons,ih h.tail]
   congr 1
   simp only [Function.comp,lessB,chr]
   omega
 exact this _ (digsN_figs _)
theorem figL_figs (n:Int)(h0:0≤n):Figs (figL n):=by rw [figL_eq n h0];exact digsN_figs _
def DivL (B:Nat)(w0:World)(q:List Int)(v:Value)(W:World):Prop:=W.heap[B]?=some (.cells #[v,.int .i64 0,.bool false] 126 (0,0))∧W.ownsRow B 5 1 v q.length (q.map (Value.int .u8))∧Below B w0 W
set_option maxRecDepth 100000 in
set_option maxHeartbeats 1000000 in
theorem divided_main (a0_0:Bool)(A0_1:Option Addr)(c0_1 N:Nat)(l0_1:List Int)(hN:l0_1.length=N)(a0_2:Int)(a1 a2:Int)(w:World)(hG:GL w)(hr0_1:Kd.C (Kd.int .u8) w A0_1 l0_1.length l0_1)(hc0_1:l0_1.length≤c0_1)
    (b1:1≤a1) (b2:a1≤1000000000) (b3:N≤1000000000) (b4 : -1000000000≤a0_2) (b5:a0_2≤1000000000) (b6 : -1000000000≤a2) (b7:a2≤1000000000) (hf:Figs l0_1) :
    Calls Tryz.prog 95 #[.agg #[.bool a0_0,.slice A0_1 N c0_1,.int .i64 a0_2],.int .i64 a1,.int .i64 a2] w fun e w'=>∃ v0_:Value,e = .returned (.agg #[v0_,.int .i64 (divHalf a1 (divHead l0_1 (a2 - a0_2)) (divTail l0_1 (a2 - a0_2))),.bool (decide (0<(bareL (divLeft a1 (divHead l0_1 (a2 - a0_2)) (divTail l0_1 (a2 - a0_2)))).length))])∧Kd.R (Kd.int .u8) 5 w' w.heap.size (fun _=>True) v0_ (divLoop a1 (divHead l0_1 (a2 - a0_2))).2∧Below w.heap.size w w':=by
 obtain ⟨D,rfl⟩:∃ D:Int,a2=a0_2+D:=⟨a2 - a0_2,by omega⟩
 have hD:a0_2+D - a0_2=D:=by omega
 rw [hD]
 have HF:=zA hf
 have HG:=zA hG
 have hu:=Tryz.underlying126
 have hu2:=Tryz.underlying29
 clear hf hG
 have hB0:Below w.heap.size w ((w.alloc (.cells #[.bool a0_0,.slice A0_1 N c0_1,.int .i64 a0_2] 29)).alloc (.cells #[.slice none 0 0,.int .i64 0,.bool false] 126)):=((Below.refl _ w).alloc (Nat.le_refl _) _).alloc (by simp) _
 have hz:=round_zeros.calls (fun k=>k<w.heap.size) A0_1 c0_1 l0_1 (-D) (l0_1 ++ List.replicate (-D).toNat 0) ((w.alloc (.cells #[.bool a0_0,.slice A0_1 N c0_1,.int .i64 a0_2] 29)).alloc (.cells #[.slice none 0 0,.int .i64 0,.bool false] 126)) (Kd.V_mk hc0_1 (Kd.F_below (Kd.C_F (Kd.heap_int .u8) hr0_1) hB0)) (by unfold round_zeros.f;rw [if_pos (by omega)])
 rw [hN] at hz
 have HX:=zA (DivBx.start w a0_0 A0_1 N c0_1 a0_2)
 have HB0:=zA hB0
 have HC:=zA hr0_1
 have HN:=zA hN
 have hNc:N≤c0_1:=by omega
 clear hB0 hr0_1 hc0_1 hN
 go_enter Tryz.func95,Tryz.ntmps95
 go_upto_if 26 with (go_at_call 118;refine hz.mono ?_;clear hz;rintro e w1 ⟨vz,rfl,hz1,hB1⟩;have HX1:=zA (HX.out.below hB1);have HB1:=zA (HB0.out.trans (hB1.mono HB0.out.size));have HZ:=zA hz1;obtain ⟨⟨hc0,hc1,hc2⟩,hf0,hf1,hf2⟩:=blk3 HX1.out.1;clear hB1 hz1)
 go_cut [8,9] (fun s8 s9 wx=>∃ Ah ch At ct,s8 = .slice Ah (divHead l0_1 D).length ch∧s9 = .slice At (divTail l0_1 D).length ct∧Aside0 (Kd.C (Kd.int .u8) wx Ah (divHead l0_1 D).length (divHead l0_1 D)∧Kd.C (Kd.int .u8) wx At (divTail l0_1 D).length (divTail l0_1 D)∧DivBx w.heap.size a0_0 A0_1 N c0_1 a0_2 wx∧Below w.heap.size w wx))
 case first=>
  by_cases hd:0<D
  rotate_left
  ·obtain ⟨e1,e2⟩:=divHead_le l0_1 D hd
   obtain ⟨Ah,ch,rfl⟩:=Kd.V_slice HZ.out
   obtain ⟨_,hlz,hFz⟩:=Kd.V_at HZ.out
   have HE:=zA (And.intro e1 e2)
   have HFZ:=zA hFz
   have hd1:=zD hd
   clear hFz e1 e2
   go_wp2_with fail
   go_meet
   rw [HE.out.1,HE.out.2]
   exact ⟨Ah,ch,none,0,by rw [List.length_append,List.length_replicate],by rfl,⟨Kd.F_now HFZ.out,Kd.C_nil _ _,HX1.out,HB1.out⟩⟩
  by_cases hle:D≤N
  ·obtain ⟨dr,rfl⟩:∃ dr:Nat,D=dr:=⟨D.toNat,by omega⟩
   have hdp:0<(dr:Int):=by omega
   obtain ⟨n,rfl⟩:∃ n,N=n+dr:=⟨N - dr,by omega⟩
   clear hd hle
   have hnd:(n:Int)+(dr:Int) - (dr:Int)=n:=by omega
   have hw1:IntKind.i64.wrap ((dr:Int) - ((n:Int)+(dr:Int))) = -(n:Int):=by rw [IntKind.wrap_i64];omega
   have hmk:∀ W:World,(Instr.makeSlice 27 (.int .i64 0) (.int .i64 0)).run Tryz.prog W = .ok (.slice (some ⟨W.heap.size,0,none⟩) 0 0) (W.alloc (.cells (List.replicate 0 (Value.int .u8 0)).toArray 5)):=make_zeros 0 (by omega)
   have hn0:(0:Int)≤(n:Int):=by omega
   have hn1:(n:Int)≤(n:Int)+(dr:Int):=by omega
   have hn2:(n:Int)≤(c0_1:Int):=by omega
   have hcn:¬ (c0_1=n):=by omega
   have hdl:(l0_1.drop n).length=dr:=by rw [List.length_drop,HN.out];omega
   have hCd:Kd.C (Kd.int .u8) w (Option.map (fun x=>x.add n) A0_1) (l0_1.drop n).length (l0_1.drop n):=by
    have h:=Kd.C_drop (c:=c0_1) (m:=n) HC.out (by rw [HN.out];omega) (by rw [HN.out];exact hNc)
    rw [if_neg hcn,show (Kd.int IntKind.u8).sz=1 from rfl] at h
    simpa only [Nat.mul_one] using h
   have HCD:=zA hCd
   have HDL:=zA hdl
   clear hCd hdl
   go_wp2_with fail
   go_region_held3 (fun w'=>w'.cell? ⟨w.heap.size,1,none⟩=some (.slice A0_1 (n+dr) c0_1)) (go_keep) (first|(refine step_max0 (by rfl) _ _ (by rfl) _ 0 (by rfl) (by split <;> omega) ?_)|(refine step_append_rows (by rfl) _ _ (by rfl) w1.heap.size _ _ (by rfl) (RowS.make _ 0 (by omega) _ (by simp)) _ (l0_1.drop n) _ dr HDL.out (by rfl) (Kd.C_below HCD.out ((HB1.out.trans (below_drew (Below.refl _ _))).alloc (by simpa using HB1.out.size) _)) (by simp only [List.length_replicate];rw [HDL.out];omega) (by simp) ?_;intro vt w2 hrow hbel;have hb12:=((below_drew (Below.refl w1.heap.size w1)).alloc (by simp) _).trans hbel;have HX2:=zA (HX1.out.below hb12);have hck:=(blk3 HX2.out.1).1.2.1;have HB2:=zA (HB1.out.trans (hb12.mono HB1.out.size));have HR2:=zA hrow;obtain ⟨At,ct,rfl,htl,hFt⟩:=RowS.F HR2.out;have HFT:=zA hFt;clear hrow hbel hb12 hFt))
   go_wp2_with fail
   go_meet
   obtain ⟨e1,e2⟩:=divHead_in l0_1 n dr HN.out hdp
   rw [e1,e2]
   exact ⟨A0_1,c0_1,At,ct,by rw [List.length_take,HN.out,Nat.min_eq_left (by omega)],by simp,⟨Kd.C_below (Kd.C_take HC.out (by rw [HN.out];omega)) HB2.out,Kd.F_now HFT.out,HX2.out,HB2.out⟩⟩
  by_cases hcn:c0_1=0
  ·subst hcn
   obtain rfl:N=0:=by omega
   obtain ⟨z,rfl⟩:∃ z:Nat,D=(z:Int):=⟨D.toNat,by omega⟩
   have hz0:0<(z:Int):=by omega
   clear hd hle
   have hw1:IntKind.i64.wrap ((z:Int))=(z:Int):=by rw [IntKind.wrap_i64];omega
   have hmk:=make_zeros z (by omega)
   have hdl:(l0_1.drop 0).length=0:=by rw [List.drop_zero,HN.out]
   have HDL:=zA hdl
   have HCD:Aside0 (Kd.C (Kd.int .u8) w A0_1 (l0_1.drop 0).length (l0_1.drop 0)):=⟨by rw [List.drop_zero];exact HC.out⟩
   clear hdl
   go_wp2_with fail
   go_region_held3 (fun w'=>w'.cell? ⟨w.heap.size,1,none⟩=some (.slice A0_1 0 0)) (go_keep) (first|(refine step_max0 (by rfl) _ _ (by rfl) _ (z:Int) (by rfl) (by split <;> omega) ?_)|(refine step_append_rows (by rfl) _ _ (by rfl) w1.heap.size _ _ (by rfl) (RowS.make _ z (by omega) _ (by simp)) _ (l0_1.drop 0) _ 0 HDL.out (by rfl) (Kd.C_below HCD.out ((HB1.out.trans (below_drew (Below.refl _ _))).alloc (by simpa using HB1.out.size) _)) (by simp only [List.length_replicate];rw [HDL.out];omega) (by simp) ?_;intro vt w2 hrow hbel;have hb12:=((below_drew (Below.refl w1.heap.size w1)).alloc (by simp) _).trans hbel;have HX2:=zA (HX1.out.below hb12);have hck:=(blk3 HX2.out.1).1.2.1;have HB2:=zA (HB1.out.trans (hb12.mono HB1.out.size));have HR2:=zA hrow;obtain ⟨At,ct,rfl,htl,hFt⟩:=RowS.F HR2.out;have HFT:=zA hFt;clear hrow hbel hb12 hFt))
   go_wp2_with fail
   go_meet
   obtain ⟨e1,e2⟩:=divHead_far l0_1 z hz0
   rw [HN.out,Int.natCast_zero,Int.zero_add] at e1 e2
   rw [e1,e2]
   exact ⟨A0_1,_,At,ct,by rw [List.take_zero];rfl,by simp,⟨Kd.C_below (Kd.C_take HC.out (by omega)) HB2.out,Kd.F_now HFT.out,HX2.out,HB2.out⟩⟩
  obtain ⟨z,rfl⟩:∃ z:Nat,D=(N:Int)+(z:Int):=⟨(D - N).toNat,by omega⟩
  have hz0:0<(z:Int):=by omega
  clear hd hle
  have hw1:IntKind.i64.wrap ((N:Int)+(z:Int) - (N:Int))=(z:Int):=by rw [IntKind.wrap_i64];omega
  have hmk:=make_zeros z (by omega)
  have hn0:(0:Int)≤(N:Int):=by omega
  have hn2:(N:Int)≤(c0_1:Int):=by omega
  have hdl:(l0_1.drop 0).length=N:=by rw [List.drop_zero,HN.out]
  have HDL:=zA hdl
  have HCD:Aside0 (Kd.C (Kd.int .u8) w A0_1 (l0_1.drop 0).length (l0_1.drop 0)):=⟨by rw [List.drop_zero];exact HC.out⟩
  clear hdl
  go_wp2_with fail
  go_region_held3 (fun w'=>w'.cell? ⟨w.heap.size,1,none⟩=some (.slice A0_1 N c0_1)) (go_keep) (first|(refine step_max0 (by rfl) _ _ (by rfl) _ (z:Int) (by rfl) (by split <;> omega) ?_)|(refine step_append_rows (by rfl) _ _ (by rfl) w1.heap.size _ _ (by rfl) (RowS.make _ z (by omega) _ (by simp)) _ (l0_1.drop 0) _ N HDL.out (by rfl) (Kd.C_below HCD.out ((HB1.out.trans (below_drew (Below.refl _ _))).alloc (by simpa using HB1.out.size) _)) (by simp only [List.length_replicate];rw [HDL.out];omega) (by simp) ?_;intro vt w2 hrow hbel;have hb12:=((below_drew (Below.refl w1.heap.size w1)).alloc (by simp) _).trans hbel;have HX2:=zA (HX1.out.below hb12);have hck:=(blk3 HX2.out.1).1.2.1;have HB2:=zA (HB1.out.trans (hb12.mono HB1.out.size));have HR2:=zA hrow;obtain ⟨At,ct,rfl,htl,hFt⟩:=RowS.F HR2.out;have HFT:=zA hFt;clear hrow hbel hb12 hFt))
  go_wp2_with fail
  go_meet
  obtain ⟨e1,e2⟩:=divHead_far l0_1 z hz0
  rw [HN.out] at e1 e2
  rw [e1,e2]
  exact ⟨A0_1,_,At,ct,by rw [List.take_zero];rfl,by simp,⟨Kd.C_below (Kd.C_take HC.out (by omega)) HB2.out,Kd.F_now HFT.out,HX2.out,HB2.out⟩⟩
 case rest=>
  obtain ⟨Ah,ch,At,ct,rfl,rfl,HW⟩:=hcut
  have HHF:=zA (divHead_figs HF.out D)
  have HTF:=zA (divTail_figs HF.out D)
  have hhl:=(divHead_len l0_1 D (by omega) (by rw [HN.out];exact b3)).1
  have HTL:=zA (divHead_len l0_1 D (by omega) (by rw [HN.out];exact b3)).2
  obtain ⟨hs,hhs⟩:∃ hs,divHead l0_1 D=hs:=⟨_,rfl⟩
  obtain ⟨ts,hts⟩:∃ ts,divTail l0_1 D=ts:=⟨_,rfl⟩
  have HHS:=zA hhs
  have HTS:=zA hts
  rw [hhs] at HW HHF hhl
  rw [hts] at HW HTL HTF
  rw [hhs,hts]
  clear hhs hts HX HB0 HC HN HF
  obtain ⟨⟨hC0,hT0,hX0,hB0⟩⟩:=HW
  have HC0:=zA hC0
  have HT0:=zA hT0
  have HX0:=zA hX0
  have HB0:=zA hB0
  clear hC0 hT0 hX0 hB0
  go_wp2_with fail
  obtain ⟨i0,hi0,hz0,hz1,hz2⟩:=info_parts zerosByteInfo
  have hb0:0≤(0:Int)∧(0:Int)<a1:=by omega
  go_loopw [12,51] (fun s12 s51 wr=>∃ (j:Nat) (rs:Int) (v:Value),j≤hs.length∧s51 = .int .i64 j∧s12 = .int .i64 rs∧(0≤rs∧rs<a1)∧Aside0 (rs=(divLoop a1 (hs.take j)).1)∧Aside0 (DivL wc.heap.size wc (divLoop a1 (hs.take j)).2 v wr)) (fun _ s51 _=>hs.length - (intOf s51).toNat)
  case atStart=>
   exact ⟨0,0,.slice none 0 0,Nat.zero_le _,rfl,rfl,hb0,⟨rfl⟩,⟨heap_alloc_new _ _,World.ownsRow_nil _ _ _ _,(Below.refl _ _).alloc (Nat.le_refl _) _⟩⟩
  case round=>
   obtain ⟨j,rs,v,hj,rfl,rfl,⟨hr0,hr1⟩,HR,HL⟩:=hrel
   by_cases hlt:j<hs.length
   ·have hlt1:=zC hlt
    obtain ⟨hh,how,hbw⟩:=HL.out
    obtain ⟨ad,e1,hcell⟩:=Kd.at_int (Kd.C_below HC0.out hbw) (j:Int) (by omega) (by omega)
    cases e1
    rw [Int.toNat_natCast] at hcell
    obtain ⟨hc0,hc9⟩:=rd_figs HHF.out j
    have hsn:=divLoop_snoc a1 hs j hlt
    obtain ⟨c,hc⟩:∃ c,rd hs (j:Int)=c:=⟨_,rfl⟩
    rw [hc] at hcell hc0 hc9 hsn
    obtain ⟨⟨hq0,hq1,hq2⟩,hf0,hf1,hf2⟩:=blk3 hh
    have HSN:=zA hsn
    have HOW:=zA how
    have HBW:=zA hbw
    have HH:=zA hh
    clear hsn how hbw hh hc
    go_wp2_with fail
    have hy0:0≤rs * 10+c:=by omega
    have hy1:rs * 10+c≤9 * a1+(a1 - 1):=by omega
    obtain ⟨y,hy⟩:∃ y,rs * 10+c=y:=⟨_,rfl⟩
    rw [hy] at hy0 hy1 ⊢
    have HY:=zA hy
    clear hy
    have hz0':0≤y / a1:=Int.ediv_nonneg hy0 (by omega)
    have hz9:y / a1≤9:=by
     have:y / a1<10:=Int.ediv_lt_of_lt_mul (by omega) (by omega)
     omega
    have hm0:0≤y % a1:=Int.emod_nonneg _ (by omega)
    have hm1:y % a1<a1:=Int.emod_lt_of_pos _ (by omega)
    have htd:y.tdiv a1=y / a1:=Int.tdiv_eq_ediv_of_nonneg hy0
    have htm:y.tmod a1=y % a1:=Int.tmod_eq_emod_of_nonneg hy0
    obtain ⟨z,hz⟩:∃ z,y / a1=z:=⟨_,rfl⟩
    obtain ⟨m,hm⟩:∃ m,y % a1=m:=⟨_,rfl⟩
    rw [hz] at htd hz0' hz9
    rw [hm] at htm hm0 hm1
    have hwz:IntKind.i64.wrap z=z:=by rw [IntKind.wrap_i64];omega
    have hw8:IntKind.u8.wrap z=z:=by rw [IntKind.wrap_u8];omega
    have HE:=zA (And.intro hz hm)
    clear hz hm
    have hne:¬ a1=0:=by omega
    have hneB:some wc.heap.size≠v.ownBlock:=by
     intro e
     obtain ⟨cs,hcs⟩:=own_typed HOW.out wc.heap.size e.symm
     rw [HH.out] at hcs
     injection hcs with h1
     injection h1 with _ h2 _
     exact absurd h2 (by decide)
    have HNB:=zA hneB
    have HWS:=zA HBW.out.size
    have HBS:=zA (Array.getElem?_eq_some_iff.1 HH.out).1
    have HLN:=zA ((divLoop_bounds b1 (HHF.out.take j)).2.2)
    have HLN2:=zA (show (divLoop a1 (hs.take j)).2.length≤3000000000 by rw [HLN.out];simp;omega)
    clear hneB
    have hlt0:wc.heap.size<wr.heap.size:=HBS.out
    go_region_law ((refine step_append_lies _ (by rfl) _ _ 27 (by rfl) wc.heap.size 5 i0 (.int .u8 0) 1 1 Tryz.underlying27 hi0 hz0 hz1 hz2 rfl (by decide) _ _ _ (by rfl) (HOW.out.alloc _) ⟨wr.heap.size,0,none⟩ 1 1 [.int .u8 z] (by rfl) rfl (cell_one_new _ (.int .u8 z) 5) (by simp [Value.oneCell']) (by decide) (by have:=HLN2.out;unfold maxLen;omega) (by have:=HLN2.out;omega) (by have:=HBS.out;simp;omega) (wr.heap.size+1) (by simp) ?_;intro g cap w1 hown hgrow hat hlt2;have hh1:=(hgrow.block wc.heap.size (by have:=HBS.out;simp;omega) HNB.out).trans ((((below_drew (Below.refl wr.heap.size wr)).alloc (by simp) _).block _ HBS.out).trans HH.out);obtain ⟨⟨hr0',hr1',hr2'⟩,hg0,hg1,hg2⟩:=blk3 hh1;have HOWN:=zA hown;have HGR:=zA hgrow;have HH1:=zA hh1;clear hown hgrow hat hh1))
    all_goals go_wp2_with fail
    all_goals
     have hgB:g≠wc.heap.size:=by
       intro e
       subst e
       obtain ⟨cs,hcs⟩:=own_typed HOWN.out _ rfl
       rw [HH1.out] at hcs
       injection hcs with h1
       injection h1 with _ h2 _
       exact absurd h2 (by decide)
     have hq:(divLoop a1 (hs.take (j+1)))=(m,(divLoop a1 (hs.take j)).2 ++ [z]):=by
       rw [HSN.out]
       unfold divStep
       rw [← HR.out,HY.out,HE.out.1,HE.out.2]
     refine ⟨⟨j+1,m,.slice (some ⟨g,0,none⟩) ((divLoop a1 (hs.take j)).2.length+1) cap,by omega,by go_num,rfl,⟨hm0,hm1⟩,⟨by rw [hq]⟩,⟨?_,?_,?_⟩⟩,by simp [intOf];omega⟩
     · exact blk_set HH1.out 0 _
     · have h:=own_move HOWN.out (w1:=w1.setCell ⟨wc.heap.size,0,none⟩ (.slice (some ⟨g,0,none⟩) ((divLoop a1 (hs.take j)).2.length+1) cap)) (fun k hk=>Below.heap_setCell _ _ _ k (by
         have:g=k:=by simpa [Value.ownBlock] using hk
         show k≠wc.heap.size
         omega))
       rw [hq]
       simpa using h
     · exact (Below.grown (HBW.out.trans ((below_drew (Below.refl _ _)).alloc (by have:=HBS.out;simp;omega) _)) HGR.out (by have:=HBS.out;simp;omega) (own_base HOW.out)).setCell (p:=⟨wc.heap.size,0,none⟩) (Nat.le_refl _) _
   have hlt1:=zD hlt
   obtain rfl:j=hs.length:=by omega
   rw [List.take_length] at HR HL
   obtain ⟨Av,cv,rfl⟩:=own_slice HL.out.2.1
   obtain ⟨hh,how,hbw⟩:=HL.out
   have HSZ:=zA (show w.heap.size+1<wc.heap.size from (Array.getElem?_eq_some_iff.1 HX0.out.2).1)
   have HE0:Aside0 (DivE w wc.heap.size (divLoop a1 hs).2 (.slice Av (divLoop a1 hs).2.length cv) 0 false wr):=⟨hh,(hbw.block _ HSZ.out).trans HX0.out.2,own_below how (by have:=HSZ.out;omega),HB0.out.trans (hbw.mono (by have:=HSZ.out;omega))⟩
   have HTr:=zA (Kd.C_below HT0.out hbw)
   have HGr:=zA (GL.below HG.out HE0.out.2.2.2)
   have HBr:=zA hbw
   obtain ⟨⟨hq0,hq1,hq2⟩,hf0,hf1,hf2⟩:=blk3 hh
   have hfr:=fig_f rs hr0 (by omega)
   have hfk:=fig_f a1 (by omega) b2
   have HFL:=zA (figL_len rs hr0 (by omega))
   have HFK:=zA (figL_len a1 (by omega) b2)
   have HBS0:=zA (Array.getElem?_eq_some_iff.1 hh).1
   obtain ⟨lf,hlf⟩:∃ lf,figL rs ++ ts=lf:=⟨_,rfl⟩
   obtain ⟨fk,hfk'⟩:∃ fk,figL a1=fk:=⟨_,rfl⟩
   have hlfl:lf.length≤3000000021:=by rw [← hlf,List.length_append];have:=HFL.out;have:=HTL.out;omega
   have hlff:Figs lf:=by rw [← hlf];exact (figL_figs rs hr0).append HTF.out
   obtain ⟨bl,hbl'⟩:∃ bl,bareL lf=bl:=⟨_,rfl⟩
   obtain ⟨tl,htl'⟩:∃ tl,timesL lf 2=tl:=⟨_,rfl⟩
   obtain ⟨zk,hzk'⟩:∃ zk,fk ++ List.replicate ts.length 0=zk:=⟨_,rfl⟩
   obtain ⟨hv,hhv⟩:∃ hv,cmpL tl zk=hv:=⟨_,rfl⟩
   have HLF:=zA hlf
   have HLL:=zA hlfl
   have HBA:=zA (show round_bare.f (lf.length+1) lf=some bl by rw [← hbl'];exact bare_f lf (by omega))
   have HTI:=zA (show round_times.f lf 2=some tl by rw [← htl'];unfold round_times.f;rw [if_pos ⟨by omega,hlff⟩])
   rw [hfk'] at hfk HFK
   have HZK:=zA (show round_zeros.f fk (ts.length:Int)=some zk by
    unfold round_zeros.f
    have:=HFK.out
    have:=HTL.out
    rw [if_pos (by omega),Int.toNat_natCast,hzk'])
   have htll:=(timesL_num hlff (k:=2) (by omega)).2.2
   rw [htl'] at htll
   have HCM:=zA (show round_compared.f (tl.length+zk.length+1) tl zk=some hv by
    rw [← hhv]
    refine compared_f tl zk (by omega) ?_
    rw [← hzk']
    have:=HFK.out
    have:=HTL.out
    simp
    omega)
   have hlB:w.heap.size+1<wc.heap.size:=HSZ.out
   have hnB:¬ (w.heap.size+1=wc.heap.size):=by omega
   have hnB':¬ (wc.heap.size=w.heap.size+1):=by omega
   have HNM:=zA (And.intro hbl' (And.intro htl' (And.intro hfk' (And.intro hzk' hhv))))
   clear hh how hbw hlf hlfl hlff hbl' htl' hfk' hzk' hhv htll
   go_wp2_with (first|(go_at_call_of 119 (Value.int .i64 rs);refine (figures_row rs _ _ HGr.out hfr).mono ?_;rintro e wf ⟨vf,rfl,hrf,hbf⟩;have HRF:=zA hrf;have HBF:=zA hbf;clear hrf hbf)|(at_builtin;refine wpList_append_rows rfl _ _ rfl wr.heap.size _ _ rfl HRF.out At ts ct rfl (Kd.C_below HTr.out HBF.out) (by have:=HFL.out;have:=HTL.out;omega) HBF.out.size ?_;rw [HLF.out];intro vl wl hrl hbl;have HBL:=zA (HBF.out.trans hbl);have HRL:=zA hrl;obtain ⟨Al,cl,rfl,hll,hFl⟩:=RowS.F HRL.out;have HE1:=zA (HE0.out.below HBL.out);have HFl:=zA hFl;obtain ⟨⟨hl0,hl1,hl2⟩,hg0,hg1,hg2⟩:=blk3 HE1.out.1;clear hrl hbl hFl)|(go_at_call 120;refine (round_bare.calls (lf.length+1) _ Al cl lf bl _ (Kd.V_mk hll HFl.out) HBA.out).mono ?_;rintro e wb ⟨vb,rfl,hVb,hbb⟩;obtain ⟨Ab,cb,rfl⟩:=Kd.V_slice hVb;have HE2:=zA (HE1.out.below hbb);have HFb:Aside0 (∀ u,Kd.F (Kd.int .u8) (wb.setCell ⟨wc.heap.size,2,none⟩ u) (fun k=>wr.heap.size≤k) Al lf.length lf):=⟨fun u=>Kd.F_far (Kd.F_below HFl.out hbb) (fun k hk=>by have:=HBr.out.size;have:=HBS0.out;show k≠wc.heap.size;omega) u⟩;obtain ⟨⟨hm0,hm1,hm2⟩,hn0,hn1,hn2⟩:=blk3 HE2.out.1;clear hVb hbb)|(go_at_call 98;refine (round_times.calls Al cl lf 2 tl _ (Kd.F_now (HFb.out _)) hll HTI.out).mono ?_;rintro e wt ⟨vt,rfl,hRt,hbt⟩;have HE3:=zA ((HE2.out.set2 HSZ.out _).below hbt);obtain ⟨Aq,cq,rfl⟩:=Kd.R_slice hRt;have HVt:=zA (Kd.V_at (Kd.R_V (base':=0) hRt));obtain ⟨⟨ho0,ho1,ho2⟩,hp0,hp1,hp2⟩:=blk3 HE3.out.1;clear hRt hbt)|(go_at_call_of 119 (Value.int .i64 a1);refine (round_figures.calls a1 fk _ (GL.below HG.out HE3.out.2.2.2) hfk).mono ?_;rintro e wk ⟨vk,rfl,hVk,hbk⟩;obtain ⟨Ak,ck,rfl⟩:=Kd.V_slice hVk;have HE4:=zA (HE3.out.below hbk);have HVk:=zA hVk;have HFt:=zA (Kd.F_below HVt.out.2.2 hbk);clear hVk hbk)|(go_at_call 118;refine (round_zeros.calls _ Ak ck fk (ts.length:Int) zk _ (Kd.V_mk (Kd.V_at HVk.out).2.1 (Kd.V_at HVk.out).2.2) HZK.out).mono ?_;rintro e wz ⟨vz2,rfl,hVz,hbz⟩;obtain ⟨Az,cz,rfl⟩:=Kd.V_slice hVz;have HE5:=zA (HE4.out.below hbz);have HVz:=zA hVz;have HFt2:=zA (Kd.F_below HFt.out hbz);clear hVz hbz)|(go_at_call 121;refine (round_compared.calls (tl.length+zk.length+1) Aq cq tl Az cz zk hv _ (Kd.F_now HFt2.out) HVt.out.2.1 (Kd.F_now (Kd.V_at HVz.out).2.2) (Kd.V_at HVz.out).2.1 HCM.out).mono ?_;rintro e wq ⟨rfl,hbq⟩;have HE6:=zA (HE5.out.below hbq);obtain ⟨⟨hs0,hs1,hs2⟩,ht0,ht1,ht2⟩:=blk3 HE6.out.1;obtain ⟨⟨hu0,hu1,hu2'⟩,hw0,hw1,hw2⟩:=blk3 HE6.out.2.1;clear hbq))
   have HF6:=zA (HE6.out.set1 HSZ.out hv)
   obtain ⟨n1,n2,n3,n4,n5⟩:=HNM.out
   have hL:divLeft a1 hs ts=lf:=by unfold divLeft;rw [← HR.out,HLF.out]
   have hH:divHalf a1 hs ts=hv:=by unfold divHalf;rw [hL,n2,n3,n4,n5]
   have k1:=blk_set HF6.out.2.1 0 (.slice Av (divLoop a1 hs).2.length cv)
   have k2:=blk_set k1 1 (.int .i64 hv)
   have o1:=own_other HF6.out.2.2.1 HF6.out.2.1 (by decide) 0 (.slice Av (divLoop a1 hs).2.length cv)
   have o2:=own_other o1 k1 (by decide) 1 (.int .i64 hv)
   have o3:=own_other o2 k2 (by decide) 2 (.bool (decide (0<bl.length)))
   refine bodyPost_ret (v:=.agg #[.slice Av (divLoop a1 hs).2.length cv,.int .i64 hv,.bool (decide (0<bl.length))]) ?_ rfl ?_
   ·have c1:=(blk3 (x:=.slice Av (divLoop a1 hs).2.length cv) (y:=.int .i64 0) (z:=.bool false) k1).1.1
    have c2:=(blk3 (x:=.slice Av (divLoop a1 hs).2.length cv) (y:=.int .i64 hv) (z:=.bool false) k2).1.2.1
    have c3:=(blk3 (x:=.slice Av (divLoop a1 hs).2.length cv) (y:=.int .i64 hv) (z:=.bool (decide (0<bl.length))) (blk_set k2 2 (.bool (decide (0<bl.length))))).1.2.2
    simp [results,go_sem,c1,c2,c3]
   rw [HHS.out,HTS.out,hL,hH,n1]
   exact ⟨_,rfl,Kd.R_of_own o3 (fun _ _=>trivial),((HF6.out.2.2.2.setCell (p:=⟨w.heap.size+1,0,none⟩) (by simp) _).setCell (p:=⟨w.heap.size+1,1,none⟩) (by simp) _).setCell (p:=⟨w.heap.size+1,2,none⟩) (by simp) _⟩
theorem round_divided.calls (a0_0:Bool)(A0_1:Option Addr)(c0_1:Nat)(l0_1:List Int)(a0_2:Int)(a1 a2:Int)(r0:List Int)(r1:Int)(r2:Bool)(w:World)(hG:GL w)(hr0_1:Kd.C (Kd.int .u8) w A0_1 l0_1.length l0_1)(hc0_1:l0_1.length≤c0_1)(h:round_divided.f a0_0 l0_1 a0_2 a1 a2=some (r0,r1,r2)) :
    Calls Tryz.prog 95 #[.agg #[.bool a0_0,.slice A0_1 l0_1.length c0_1,.int .i64 a0_2],.int .i64 a1,.int .i64 a2] w fun e w'=>∃ v0_:Value,e = .returned (.agg #[v0_,.int .i64 r1,.bool r2])∧Kd.R (Kd.int .u8) 5 w' w.heap.size (fun _=>True) v0_ r0∧Below w.heap.size w w':=by
 unfold round_divided.f at h
 by_cases hb:(1≤a1∧a1≤1000000000∧l0_1.length≤1000000000 ∧ -1000000000≤a0_2∧a0_2≤1000000000 ∧ -1000000000≤a2∧a2≤1000000000)∧(∀ c ∈ l0_1,0≤c∧c≤9)
 ·rw [if_pos hb] at h
  obtain ⟨rfl,rfl,rfl⟩:_∧_∧_:=by simpa only [Option.some.injEq,Prod.mk.injEq] using h
  obtain ⟨⟨b1,b2,b3,b4,b5,b6,b7⟩,hf⟩:=hb
  exact divided_main a0_0 A0_1 c0_1 l0_1.length l0_1 rfl a0_2 a1 a2 w hG hr0_1 hc0_1 b1 b2 b3 b4 b5 b6 b7 hf
 rw [if_neg hb] at h
 cases h
theorem found_left (W:World)(x y z:Value):(Instr.field 126 (.agg #[x,y,z]) 2).run Tryz.prog W = .ok z W:=by
 simp [Instr.field,run_underlying Tryz.underlying126,asAgg,part,isAgg,run_underlying Tryz.underlying4]
end
end Go.Proofs.YtklebhlanidloaaGreatDoor.PZ
end
section
set_option maxRecDepth 100000
namespace Go.Proofs.YtklebhlanidloaaGreatDoor.PZ
open Go.RowKit Go.Proofs.YtklebhlanidloaaGreatDoorW.PrintWords Go.Proofs.YtklebhlanidloaaGreatDoorW.PrintLast
section
def GotV (o:Option (PS×Int))(v:V4)(e:Ending):Prop:=match o with
  | some (q,j)=>e = .returned (.tuple #[q.val v,.int .i64 j,.bool true])
  | none=>∃ q j,e = .returned (.tuple #[PS.val q v,.int .i64 j,.bool false])
def GotP (w:World)(o:Option (PS×Int))(v:V4)(e:Ending)(w':World):Prop:=GotV o v e∧Below w.heap.size w w'
theorem GotP.some {w w':World}{q:PS}{j:Int}{v:V4}(h:Below w.heap.size w w'):GotP w (some (q,j)) v (.returned (.tuple #[q.val v,.int .i64 j,.bool true])) w':=⟨rfl,h⟩
theorem GotP.none {w w':World}{q:PS}{j:Int}{v:V4}(h:Below w.heap.size w w'):GotP w none v (.returned (.tuple #[q.val v,.int .i64 j,.bool false])) w':=⟨⟨q,j,rfl⟩,h⟩
theorem at_c (A:Option Addr)(c:Nat)(l:List Int)(i:Int)(w:World)(hr:Kd.C (Kd.int .i32) w A l.length l)(hc:l.length≤c)(h0:0≤i) :
    Calls Tryz.prog 88 #[.slice A l.length c,.int .i64 i] w fun e w'=>e = .returned (.int .i32 (atN l i))∧Below w.heap.size w w':=
  (exergueref10_at.calls A c l i (atN l i) w hr hc (pat_f l i h0)).mono fun _ _ h=>⟨h.1,h.2.below⟩
theorem many_c (A:Option Addr)(c:Nat)(l:List Int)(i r:Int)(w:World)(hr:Kd.C (Kd.int .i32) w A l.length l)(hc:l.length≤c)(h0:0≤i)(hi:i≤200000)(hl:l.length≤100000)(h:0≤r) :
    Calls Tryz.prog 131 #[.slice A l.length c,.int .i64 i,.int .i32 r] w fun e w'=>e = .returned (.int .i64 (manyN l i r))∧Below w.heap.size w w':=by
 obtain ⟨k,hk⟩:=(many_ev l i r h hl h0 hi).rounds
 exact (exergueref10_many.calls k A c l i r _ w hr hc hk).mono fun _ _ h=>⟨h.1,h.2.below⟩
theorem rowcell {W:World}{A:Option Addr}{l:List Int}(h:Kd.C (Kd.int .i32) W A l.length l)(i:Nat)(hi:i+1<l.length):∃ ad,A=some ad∧W.cell? ⟨ad.block,ad.off+(i+1),none⟩=some (.int .i32 (rd l ((i+1:Nat):Int))):=by
 obtain ⟨ad,e,hc⟩:=Kd.at_int h ((i+1:Nat):Int) (by omega) (by omega)
 refine ⟨ad,e,?_⟩
 rw [Int.toNat_natCast] at hc
 simpa [Addr.add] using hc
section
variable (s:PS)(v:V4)(A:Option Addr)(c:Nat)(l:List Int)(i wh:Int)(w:World)(hr:Kd.C (Kd.int .i32) w A l.length l)(hc:l.length≤c)
include hr hc
set_option maxHeartbeats 1000000 in
set_option maxRecDepth 100000 in
theorem pad_c (h0:0≤i)(hi:i≤200000)(hl:l.length≤100000) :
    Calls Tryz.prog 112 #[s.val v,.slice A l.length c,.int .i64 i,.int .i64 wh] w (GotP w (padO s l i wh) v):=by
 have KA:=zA (fun W (hb:Below w.heap.size w W)=>at_c A c l i W (Kd.C_below hr hb) hc h0)
 have HR:=zA hr
 clear hr
 by_cases h1:0<s.padAt
 ·have e:padO s l i wh=some (s,i):=if_pos (.inl h1)
  rw [e]
  have d1:=zC h1
  clear e h1
  go_enter Tryz.func112,Tryz.ntmps112
  go_wp2_with (first|((with_reducible refine gate_dst (N:=4) rfl ?_);refine pat_box rfl rfl rfl s v rfl ?_;intro gp w1 hgp hbp hb1;have BX:=zA (And.intro hgp (And.intro hbp hb1));clear hgp hbp hb1)|((with_reducible refine gate_dst (N:=8) rfl ?_);refine pat_alloc rfl rfl rfl ?_;intro gr w2 hgr hbr hb2;have ST:=zA (PSt.start BX.out.1 BX.out.2.1 BX.out.2.2 hgr hbr hb2);clear BX hgr hbr hb2;have c16:World.cell? _ ⟨gp,16,none⟩=some (.int .i64 s.padAt):=ST.out.p.cell 16)|(refine pat_load rfl rfl rfl gp rfl _ _ ST.out.p ?_)|(refine pat_store rfl rfl rfl gr rfl _ _ rfl _ _ ST.out.r ?_;intro w9 hw9 hbt9;replace ST:=zA (ST.out.ret hw9 hbt9);clear hw9 hbt9))
  exact bodyPost_ret (pat_results rfl _ gr rfl _ _ ST.out.r) rfl (GotP.some ST.out.b)
 have d1:=zD h1
 by_cases h2:atN l i=42
 rotate_left
 ·have d2:(atN l i == 42)=false:=zF h2
  have e:padO s l i wh=some (s,i):=if_pos (.inr h2)
  rw [e]
  clear e h1 h2
  go_enter Tryz.func112,Tryz.ntmps112
  go_wp2_with (first|((with_reducible refine gate_dst (N:=4) rfl ?_);refine pat_box rfl rfl rfl s v rfl ?_;intro gp w1 hgp hbp hb1;have BX:=zA (And.intro hgp (And.intro hbp hb1));clear hgp hbp hb1)|((with_reducible refine gate_dst (N:=8) rfl ?_);refine pat_alloc rfl rfl rfl ?_;intro gr w2 hgr hbr hb2;have ST:=zA (PSt.start BX.out.1 BX.out.2.1 BX.out.2.2 hgr hbr hb2);clear BX hgr hbr hb2;have c16:World.cell? _ ⟨gp,16,none⟩=some (.int .i64 s.padAt):=ST.out.p.cell 16)|(refine pat_load rfl rfl rfl gp rfl _ _ ST.out.p ?_)|(refine pat_store rfl rfl rfl gr rfl _ _ rfl _ _ ST.out.r ?_;intro w9 hw9 hbt9;replace ST:=zA (ST.out.ret hw9 hbt9);clear hw9 hbt9)|(go_at_call 88;refine (KA.out _ ST.out.b).mono ?_;rintro e w3 ⟨rfl,hb3⟩;replace ST:=zA (ST.out.below hb3);clear hb3))
  exact bodyPost_ret (pat_results rfl _ gr rfl _ _ ST.out.r) rfl (GotP.some ST.out.b)
 have d2:(atN l i == 42)=true:=zH h2
 obtain ⟨n,rfl⟩:=Int.eq_ofNat_of_zero_le h0
 by_cases h3:l.length≤n+1
 ·have e:padO s l n wh=none:=by unfold padO;rw [if_neg (by rintro (h|h);exact h1 h;exact h h2),if_pos (by omega)]
  rw [e]
  have d3:(l.length:Int)≤(n:Int)+1:=by omega
  clear e h1 h2
  go_enter Tryz.func112,Tryz.ntmps112
  go_wp2_with (first|((with_reducible refine gate_dst (N:=4) rfl ?_);refine pat_box rfl rfl rfl s v rfl ?_;intro gp w1 hgp hbp hb1;have BX:=zA (And.intro hgp (And.intro hbp hb1));clear hgp hbp hb1)|((with_reducible refine gate_dst (N:=8) rfl ?_);refine pat_alloc rfl rfl rfl ?_;intro gr w2 hgr hbr hb2;have ST:=zA (PSt.start BX.out.1 BX.out.2.1 BX.out.2.2 hgr hbr hb2);clear BX hgr hbr hb2;have c16:World.cell? _ ⟨gp,16,none⟩=some (.int .i64 s.padAt):=ST.out.p.cell 16)|(refine pat_load rfl rfl rfl gp rfl _ _ ST.out.p ?_)|(refine pat_store rfl rfl rfl gr rfl _ _ rfl _ _ ST.out.r ?_;intro w9 hw9 hbt9;replace ST:=zA (ST.out.ret hw9 hbt9);clear hw9 hbt9)|(go_at_call 88;refine (KA.out _ ST.out.b).mono ?_;rintro e w3 ⟨rfl,hb3⟩;replace ST:=zA (ST.out.below hb3);clear hb3))
  exact bodyPost_ret (pat_results rfl _ gr rfl _ _ ST.out.r) rfl (GotP.none ST.out.b)
 have e:padO s l n wh=some ({ s with pad:=rd l ((n:Int)+1),padAt:=wh },(n:Int)+2):=by unfold padO;rw [if_neg (by rintro (h|h);exact h1 h;exact h h2),if_neg (by omega)]
 rw [e]
 have d3:¬ (l.length:Int)≤(n:Int)+1:=by omega
 have hlt:n+1<l.length:=by omega
 obtain ⟨ad,rfl,hcell⟩:=rowcell HR.out n hlt
 have HC:=zA hcell
 have p1:(0:Int)≤(n:Int)+1:=by omega
 have p2:(n:Int)+1<(l.length:Int):=by omega
 have hw:IntKind.i64.wrap ((n:Int)+1)=(n:Int)+1:=by rw [IntKind.wrap_i64];omega
 clear e h1 h2 hcell
 go_enter Tryz.func112,Tryz.ntmps112
 go_wp2_with (first|((with_reducible refine gate_dst (N:=4) rfl ?_);refine pat_box rfl rfl rfl s v rfl ?_;intro gp w1 hgp hbp hb1;have BX:=zA (And.intro hgp (And.intro hbp hb1));clear hgp hbp hb1)|((with_reducible refine gate_dst (N:=8) rfl ?_);refine pat_alloc rfl rfl rfl ?_;intro gr w2 hgr hbr hb2;have ST:=zA (PSt.start BX.out.1 BX.out.2.1 BX.out.2.2 hgr hbr hb2);clear BX hgr hbr hb2;have c16:World.cell? _ ⟨gp,16,none⟩=some (.int .i64 s.padAt):=ST.out.p.cell 16)|(refine pat_load rfl rfl rfl gp rfl _ _ ST.out.p ?_)|(refine pat_store rfl rfl rfl gr rfl _ _ rfl _ _ ST.out.r ?_;intro w9 hw9 hbt9;replace ST:=zA (ST.out.ret hw9 hbt9);clear hw9 hbt9)|(go_at_call 88;refine (KA.out _ ST.out.b).mono ?_;rintro e w3 ⟨rfl,hb3⟩;replace ST:=zA (ST.out.below hb3);clear hb3;have hcell:=(ST.out.b.cell (World.block_lt_of_cell? w _ HC.out)).trans HC.out;clear c16;have c15:World.cell? _ ⟨gp,15,none⟩=some (.int .i32 s.pad):=ST.out.p.cell 15;have c16:World.cell? _ ⟨gp,16,none⟩=some (.int .i64 s.padAt):=ST.out.p.cell 16;have f15:=ST.out.p.free 15;have f16:=ST.out.p.free 16)|((with_reducible refine gate_store (t:=21) (p:=35) rfl ?_);refine pat_field rfl rfl rfl gp 15 (.int .i32 (rd l ((n:Int)+1))) _ ({ s with pad:=rd l ((n:Int)+1) }) _ _ ST.out.p rfl (by first|(go_simp;done)|(go_simp;rfl)) ?_;intro w8 hw8 hbt8;replace ST:=zA (ST.out.put hw8 hbt8);clear hw8 hbt8;clear c15 c16 f15 f16;have c16:World.cell? _ ⟨gp,16,none⟩=some (.int .i64 s.padAt):=ST.out.p.cell 16;have f16:=ST.out.p.free 16)|((with_reducible refine gate_store (t:=3) (p:=37) rfl ?_);refine pat_field rfl rfl rfl gp 16 (.int .i64 wh) _ ({ s with pad:=rd l ((n:Int)+1),padAt:=wh }) _ _ ST.out.p rfl (by first|(go_simp;done)|(go_simp;rfl)) ?_;intro w8 hw8 hbt8;replace ST:=zA (ST.out.put hw8 hbt8);clear hw8 hbt8))
 exact bodyPost_ret (pat_results rfl _ gr rfl _ _ ST.out.r) rfl (GotP.some ST.out.b)
end
end
end Go.Proofs.YtklebhlanidloaaGreatDoor.PZ
end
