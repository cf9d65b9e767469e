/- A region that draws its order, walked by what holds when such and such of its operations have come up: each operation once, in whatever order.
   Conditions: none. -/
import Derived.Test.YtogfokpmpdclbaaDoorWTab
set_option linter.unusedSimpArgs false
set_option linter.unusedVariables false
namespace Go.Proofs.YtogfokpmpdclbaaDoor.PZ
open Go.RowKit Go.Proofs.YtogfokpmpdclbaaDoorW.PrintWords Go.Proofs.YtogfokpmpdclbaaDoorW.PrintLast
/-- One more has come up. -/
def upd (b : Nat → Bool) (i : Nat) : Nat → Bool := fun j => if j = i then true else b j
theorem upd_same (b : Nat → Bool) (i : Nat) : upd b i i = true := by simp [upd]
theorem upd_ne (b : Nat → Bool) {i j : Nat} (h : j ≠ i) : upd b i j = b j := by simp [upd, h]
def AllAt (p : Nat → Oper → Prop) : Nat → List Oper → Prop
  | _, [] => True
  | k, o :: l => p k o ∧ AllAt p (k + 1) l
theorem AllAt.at {p : Nat → Oper → Prop} : ∀ {l : List Oper} {k : Nat}, AllAt p k l → ∀ i o, l[i]? = some o → p (k + i) o
  | [], _, _, i, o, h => by simp at h
  | x :: l, k, hA, 0, o, h => by obtain rfl : x = o := by simpa using h
                                 exact hA.1
  | x :: l, k, hA, i + 1, o, h => by
    have := AllAt.at hA.2 i o (by simpa using h)
    rwa [show k + 1 + i = k + (i + 1) by omega] at this
def onB (l : Array Bool) : Nat → Bool := fun j => l.getD j false
theorem onB_set (l : Array Bool) (i : Nat) (h : i < l.size) : onB (l.setIfInBounds i true) = upd (onB l) i := by
  funext j
  unfold onB upd
  by_cases e : j = i
  · subst e; simp [Array.getD_eq_getD_getElem?, h]
  · simp [Array.getD_eq_getD_getElem?, Array.getElem?_setIfInBounds, e, show ¬ i = j from fun z => e z.symm]
/-- How many have not come up yet. -/
def leftN (n : Nat) (b : Nat → Bool) : Nat := ((List.range n).filter fun j => !b j).length
theorem leftN_upd (n : Nat) (b : Nat → Bool) (i : Nat) (hi : i < n) (h : b i = false) : leftN n (upd b i) + 1 = leftN n b := by
  unfold leftN
  induction n with
  | zero => omega
  | succ n ih =>
    rw [List.range_succ, List.filter_append, List.filter_append, List.length_append, List.length_append]
    by_cases e : i = n
    · subst e
      have e1 : (List.range i).filter (fun j => !upd b i j) = (List.range i).filter fun j => !b j := by
        apply List.filter_congr
        intro j hj
        rw [upd_ne b (by have := List.mem_range.1 hj; omega)]
      rw [e1]
      simp [upd_same, h]
    · have := ih (by omega)
      have e1 : ([n].filter fun j => !upd b i j) = [n].filter fun j => !b j := by
        apply List.filter_congr
        intro j hj
        have : j = n := by simpa using hj
        rw [upd_ne b (by omega)]
      rw [e1]
      omega
section
variable {P : Program} {md : Region.Mode} {l : List Oper} {Q : Exit → Act → World → Prop}
def lowB (md : Region.Mode) (ops : Array Oper) : Bool := (rtab md ops).2.zipIdx.all fun r => r.1.1.all fun n => n < r.2
theorem lowB_spec {ops : Array Oper} (h : lowB md ops = true) {i : Nat} {o : Oper} (hi : ops[i]? = some o) (e : Edge) (he : e ∈ o.after) (hb : Region.binds md e = true) : e.on < i := by
  unfold lowB at h
  rw [List.all_eq_true] at h
  have h1 := h ((needsOf md o, clashOf md ops i o), i) (by rw [List.mem_zipIdx_iff_getElem?]; exact rtab_some hi)
  rw [List.all_eq_true] at h1
  have h2 := h1 e.on (by
    unfold needsOf
    rw [List.mem_map]
    exact ⟨e, by rw [List.mem_filter]; exact ⟨by simpa using he, hb⟩, rfl⟩)
  simpa using h2
/-- What one operation owes. -/
def StepAt (P : Program) (md : Region.Mode) (ops : Array Oper) (Q : Exit → Act → World → Prop) (I : (Nat → Bool) → Act → World → Prop) (i : Nat) (o : Oper) : Prop :=
  o.guard = none ∧ ∀ b a w, b i = false → (∀ n ∈ needsOf md o, b n = true) → I b a w → o.wp P a w (fun a' w' => I (upd b i) a' w') Q
theorem wpAny_inv (I : (Nat → Bool) → Act → World → Prop) (hlow : lowB md l.toArray = true) (hstep : AllAt (StepAt P md l.toArray Q I) 0 l)
    (hend : ∀ b a w, (∀ j, j < l.length → b j = true) → I b a w → Q .normal a w) :
    ∀ (fuel : Nat) (li : Array Bool) (a : Act) (w : World), li.size = l.length → leftN l.length (onB li) ≤ fuel → I (onB li) a w → wpAny P md l.toArray Q fuel li a w := by
  have hdone : ∀ (li : Array Bool), li.size = l.length → Region.ready md l.toArray li = [] → ∀ j, j < l.length → onB li j = true := by
    intro li hsz hr j
    induction j using Nat.strongRecOn with
    | ind j ih =>
      intro hj
      cases hb : onB li j with
      | true => rfl
      | false =>
        exfalso
        have ho : l.toArray[j]? = some l[j] := by simp [hj]
        have : j ∈ Region.ready md l.toArray li := by
          rw [mem_ready]
          refine ⟨?_, l[j], ho, fun e he hbi => ?_⟩
          · unfold onB at hb
            simp [Array.getD_eq_getD_getElem?, hsz, hj] at hb ⊢
            exact hb
          · have := lowB_spec hlow ho e he hbi
            exact ih e.on this (by omega)
        rw [hr] at this
        cases this
  have hact : ∀ (li : Array Bool) (a : Act) (w : World) (i : Nat), li.size = l.length → I (onB li) a w → i ∈ Region.ready md l.toArray li →
      i < l.length ∧ onB li i = false ∧ wpOp P l.toArray Q i (fun a' w' => I (upd (onB li) i) a' w') a w := by
    intro li a w i hsz hI hi
    obtain ⟨h0, o, ho, hn⟩ := mem_ready.1 hi
    have hlt : i < l.length := by
      have := (Array.getElem?_eq_some_iff.1 ho).1
      simpa using this
    have hb : onB li i = false := by
      unfold onB
      simp [Array.getD_eq_getD_getElem?, hsz, hlt] at h0 ⊢
      exact h0
    refine ⟨hlt, hb, ?_⟩
    obtain ⟨hg, hs⟩ := AllAt.at hstep i o (by simpa using ho)
    rw [Nat.zero_add] at hs
    unfold wpOp
    rw [ho]
    have hw : Region.wanted o (yielded l.toArray a.tmps) = true := by simp [Region.wanted, hg]
    simp only [hw, if_true]
    refine .inl (hs _ a w hb (fun n hn' => ?_) hI)
    unfold needsOf at hn'
    rw [List.mem_map] at hn'
    obtain ⟨e, he, rfl⟩ := hn'
    rw [List.mem_filter] at he
    exact hn e (by simpa using he.1) he.2
  intro fuel
  induction fuel with
  | zero =>
    intro li a w hsz hf hI
    have hr : Region.ready md l.toArray li = [] := by
      apply List.eq_nil_iff_forall_not_mem.2
      intro i hi
      obtain ⟨h1, h2, _⟩ := hact li a w i hsz hI hi
      have := leftN_upd l.length (onB li) i h1 h2
      omega
    exact ⟨hr, hend _ a w (hdone li hsz hr) hI⟩
  | succ fuel ih =>
    intro li a w hsz hf hI
    refine ⟨fun hr => hend _ a w (hdone li hsz hr) hI, fun i hi => ?_⟩
    obtain ⟨h1, h2, h3⟩ := hact li a w i hsz hI hi
    refine wpOp_mono (fun a' w' hI' => ?_) h3
    refine ih _ a' w' (by simpa using hsz) ?_ ?_
    · rw [onB_set _ _ (by omega)]
      have := leftN_upd l.length (onB li) i h1 h2
      omega
    · rw [onB_set _ _ (by omega)]
      exact hI'
theorem wp_region_inv {id : Nat} {a : Act} {w : World} (I : (Nat → Bool) → Act → World → Prop) (hm : P.follows .mixedOrders = true) (hlow : lowB .any l.toArray = true)
    (hI : I (fun _ => false) a { w with drawn := w.drawn + 1 }) (hstep : AllAt (StepAt P .any l.toArray Q I) 0 l) (hend : ∀ b a w, (∀ j, j < l.length → b j = true) → I b a w → Q .normal a w) : (Code.region id l.toArray true).wp P Q a w := by
  refine wp_region_any hm (wpAny_inv I hlow hstep hend _ _ _ _ (by simp) ?_ ?_)
  · unfold leftN
    have := List.length_filter_le (fun j => !onB (Array.replicate l.toArray.size false) j) (List.range l.length)
    simpa using this
  · have : onB (Array.replicate l.toArray.size false) = fun _ => false := by
      funext j
      unfold onB
      simp only [Array.getD_eq_getD_getElem?, Array.getElem?_replicate]
      split <;> rfl
    rw [this]
    exact hI
end
end Go.Proofs.YtogfokpmpdclbaaDoor.PZ
