/- slices.ContainsFunc at the predicate 'no figure', and slices.Clone, of bytes: what they answer.
   Conditions: ContainsFunc: the function value is one of the program's own predicates. -/
import Derived.Test.YtahkamggdbibiaaDoorPZx0
import Derived.Test.YtahkamggdbibiaaDoorGl
import Derived.Lib.SliceRun
set_option linter.unusedSimpArgs false
set_option linter.unusedVariables false
namespace Go.Proofs.YtahkamggdbibiaaDoor.PZ
open Go.RowKit Go.Proofs.YtahkamggdbibiaaDoorW.PrintWords Go.Proofs.YtahkamggdbibiaaDoorW.PrintLast

def slices_ContainsFunc_byte_byte.f (l : List Int) (fv : Nat) : Option Bool := if fv = 38 then some (l.any fun c => decide (c > 9)) else none
theorem decOdd_calls (x : Int) (w : World) : Calls Tryd.prog 38 #[.int .u8 x] w fun e w' => e = .returned (.bool (decide (x > 9))) ∧ ∃ n, w' = w.drewN n := by
  go_enter Tryd.func38, Tryd.ntmps38
  go_wp2
  go_ret
  exact ⟨rfl, 0, rfl⟩
/-- The first place at which p holds; -1. -/
def firstAt (p : Int → Bool) : List Int → Nat → Int
  | [], _ => -1
  | x :: l, i => if p x then (i : Int) else firstAt p l (i + 1)
theorem firstAt_ge (p : Int → Bool) (l : List Int) (i : Nat) : decide (firstAt p l i ≥ 0) = l.any p := by
  induction l generalizing i with
  | nil => rfl
  | cons x l ih =>
    simp only [firstAt, List.any_cons]
    by_cases h : p x = true
    · simp [h]
    · simp [h, ih]
theorem firstAt_skip (p : Int → Bool) (l : List Int) (k : Nat) (hk : k ≤ l.length) (h : ∀ j, j < k → p (rd l j) = false) : firstAt p l 0 = firstAt p (l.drop k) k := by
  induction k with
  | zero => simp
  | succ k ih =>
    rw [ih (by omega) (fun j hj => h j (by omega))]
    have e : l.drop k = rd l k :: l.drop (k + 1) := by
      rw [List.drop_eq_getElem_cons (by omega)]
      congr 1
      simp [rd, List.getD_eq_getElem?_getD, List.getElem?_eq_getElem (show k < l.length by omega)]
    rw [e]
    simp only [firstAt, h k (by omega), Bool.false_eq_true, if_false]
theorem rd_drop_cons (l : List Int) (k : Nat) (hk : k < l.length) : l.drop k = rd l k :: l.drop (k + 1) := by
  rw [List.drop_eq_getElem_cons hk]
  congr 1
  simp [rd, List.getD_eq_getElem?_getD, List.getElem?_eq_getElem hk]
set_option maxHeartbeats 1000000 in
theorem indexOdd_calls (A0 : Option Addr) (c0 : Nat) (l0 : List Int) (w : World) (hr0 : Kd.C (Kd.int .u8) w A0 l0.length l0) :
    Calls Tryd.prog 45 #[.slice A0 l0.length c0, .func (.func 38) #[] #[]] w fun e w' => e = .returned (.int .i64 (firstAt (fun c => decide (c > 9)) l0 0)) ∧ ∃ n, w' = w.drewN n := by
  have hm := hr0.2.1
  have HR := Aside0.mk hr0
  clear hr0
  go_enter Tryd.func45, Tryd.ntmps45
  go_wp2
  go_loopg [5, 8] l0.length (fun gg _ s8 wr => ∃ kk q : Nat, kk ≤ l0.length ∧ l0.length - kk ≤ gg ∧ s8 = .int .i64 kk ∧ wr = w.drewN q ∧ Aside0 (∀ j, j < kk → decide (rd l0 j > 9) = false))
  case atStart => exact ⟨0, 0, Nat.zero_le _, by omega, rfl, rfl, ⟨fun j hj => absurd hj (Nat.not_lt_zero _)⟩⟩
  case round =>
    obtain ⟨kk, q, hkk, hg, rfl, rfl, B⟩ := hrel
    by_cases hlt : kk < l0.length
    · have hltz : (kk : Int) < (l0.length : Int) := by omega
      obtain ⟨ad, e1, hcell⟩ := Kd.at_int HR.out (kk : Int) (by omega) (by omega)
      cases e1
      simp only [Int.toNat_natCast] at hcell
      have hlt1 := decide_eq_true hlt
      generalize hy : rd l0 (kk : Int) = y at hcell
      have hc := decOdd_calls y
      have Y := Aside0.mk hy
      clear hy
      by_cases ho : decide (y > 9) = true
      · rw [ho] at hc
        have O := Aside0.mk ho
        clear ho
        go_wp2_with (go_at_call 38; refine (hc _).mono ?_; rintro e w2 ⟨rfl, q2, rfl⟩)
        go_ret
        refine ⟨?_, _, rfl⟩
        rw [firstAt_skip _ l0 kk hkk B.out, rd_drop_cons l0 kk hlt, Y.out]
        simp only [firstAt, O.out, if_true]
        rfl
      · have ho' : decide (y > 9) = false := by simpa using ho
        rw [ho'] at hc
        have O := Aside0.mk ho'
        clear ho ho'
        go_wp2_with (go_at_call 38; refine (hc _).mono ?_; rintro e w' ⟨rfl, q', rfl⟩)
        go_roundg (l0.length - (kk + 1))
        case measure => omega
        case rel =>
          refine ⟨kk + 1, _, by omega, by omega, by go_num, rfl, ⟨fun j hj => ?_⟩⟩
          by_cases e : j = kk
          · subst e
            rw [Y.out]; exact O.out
          · exact B.out j (by omega)
    · have : kk = l0.length := by omega
      subst this
      have hlt1 := decide_eq_false hlt
      go_wp2
      go_ret
      refine ⟨?_, q, rfl⟩
      rw [firstAt_skip _ l0 l0.length (Nat.le_refl _) B.out]
      simp [firstAt]
theorem slices_ContainsFunc_byte_byte.calls (A0 : Option Addr) (c0 : Nat) (l0 : List Int) (a1 : Nat) (r : Bool) (w : World) (hr0 : Kd.C (Kd.int .u8) w A0 l0.length l0) (_hc0 : l0.length ≤ c0) (h : slices_ContainsFunc_byte_byte.f l0 a1 = some r) :
    Calls Tryd.prog 37 #[.slice A0 l0.length c0, .func (.func a1) #[] #[]] w fun e w' => e = .returned (.bool r) ∧ Below w.heap.size w w' := by
  simp only [slices_ContainsFunc_byte_byte.f] at h
  by_cases e : a1 = 38
  · rw [if_pos e] at h
    subst e
    obtain rfl := Option.some.inj h
    have hq := indexOdd_calls A0 c0 l0 w hr0
    clear h hr0
    have H := Aside0.mk (firstAt_ge (fun c => decide (c > 9)) l0 0)
    go_enter Tryd.func37, Tryd.ntmps37
    go_wp2_with (go_at_call 45; refine hq.mono ?_; rintro e w' ⟨rfl, q, rfl⟩)
    go_ret
    exact ⟨by rw [← H.out]; rfl, pw_below_drewN (Below.refl _ _) q⟩
  · rw [if_neg e] at h
    cases h
def slices_Clone_byte_byte.f (l : List Int) : Option (List Int) := if l.length ≤ 140737488355328 then some l else none
theorem byteInfo : (Tryd.prog.info? 5).map (fun i => (i.zero, i.size, i.bytes)) = some (some (.int .u8 0), 1, 1) := by kernel_rfl
set_option maxHeartbeats 1000000 in
theorem slices_Clone_byte_byte.calls (A0 : Option Addr) (c0 : Nat) (l0 : List Int) (r : List Int) (w : World) (hr0 : Kd.C (Kd.int .u8) w A0 l0.length l0) (_hc0 : l0.length ≤ c0) (h : slices_Clone_byte_byte.f l0 = some r) :
    Calls Tryd.prog 40 #[.slice A0 l0.length c0] w fun e w' => ∃ v0_ : Value, e = .returned (v0_) ∧ Kd.R (Kd.int .u8) 5 w' w.heap.size (fun _ => True) v0_ r ∧ Below w.heap.size w w' := by
  simp only [slices_Clone_byte_byte.f] at h
  by_cases hl : l0.length ≤ 140737488355328
  · rw [if_pos hl] at h
    obtain rfl := Option.some.inj h
    clear h
    have q22 : ∀ (w : World) (a : Option Addr) (n c n' c' : Nat), (binOp .eql 22 (.slice a n c) (.slice none n' c')).run Tryd.prog w = .ok (.bool a.isNone) w := fun w a n c n' c' => Lib.run_eql_slice_nil w _ _ a n c n' c' Tryd.underlying22
    cases A0 with
    | none =>
      have hn : l0 = [] := by
        have := hr0.2.2
        cases l0 with
        | nil => rfl
        | cons x l => obtain ⟨ad, he, _⟩ := Kd.at_int hr0 0 (by omega) (by simp); cases he
      subst hn
      clear hr0
      go_enter Tryd.func40, Tryd.ntmps40
      go_wp2
      go_ret
      exact ⟨_, rfl, Kd.R_nil _ _ _ _ _, Below.refl _ _⟩
    | some ad =>
      have HR := Aside0.mk hr0
      clear hr0
      have HO : Aside0 (Kd.R (Kd.int .u8) 5 (w.alloc (.cells #[] 5)) w.heap.size (fun _ => True) (.slice (some ⟨w.heap.size, 0, none⟩) 0 0) []) := ⟨Kd.R_of_own (World.ownsRow_made w #[] 0 (Nat.le_refl _) (Nat.zero_le _) (by simp)) (fun _ _ => trivial)⟩
      have HB : Aside0 (Below w.heap.size w (w.alloc (.cells #[] 5))) := ⟨(Below.refl _ w).alloc (Nat.le_refl _) _⟩
      have HL := Aside0.mk hl
      clear hl
      go_enter Tryd.func40, Tryd.ntmps40
      go_wp2_with (at_builtin; refine Kd.R_append_rows (Kd.int .u8) (w0 := w) w.heap.size rfl (.tmp 5) (.tmp 6) 22 5 (.int .u8 0) 1 rfl Tryd.underlying22 byteInfo rfl (by decide) (by omega) _ [] l0 _ _ _ (fun _ => True) (fun _ => False) rfl rfl HO.out (Kd.C_below HR.out HB.out) (fun _ _ h => h) (fun _ h => h.elim) (fun _ _ => trivial) HB.out (by simp) (by have := HL.out; simp; omega) ?_; intro v1 w1 ho hb1 _ _)
      go_ret
      exact ⟨_, rfl, by simpa using ho, hb1⟩
  · rw [if_neg hl] at h
    cases h
end Go.Proofs.YtahkamggdbibiaaDoor.PZ
