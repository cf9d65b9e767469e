/- dec.Read's reader: number.
   Conditions: the text has at most 2^47 bytes. -/
import Derived.Test.YtahkamggdbibiaaDoorDecReadA
namespace Go.Proofs.YtahkamggdbibiaaDoor.PZ
open Go.RowKit Go.Proofs.YtahkamggdbibiaaDoorW.PrintWords Go.Proofs.YtahkamggdbibiaaDoorW.PrintLast

theorem readByteInfo : (Tryd.prog.info? 5).map (fun i => (i.zero, i.size, i.bytes)) = some (some (.int .u8 0), 1, 1) := by kernel_rfl
/-- A figure's number. -/
def figOf (c : Int) : Int := (c - 48) % 256
def numB (s : ByteArray) (a : Nat) : Bool := hasB s a 48 || decide (a < figTo s a 1000)
def numD (s : ByteArray) (a : Nat) : List Int := if hasB s a 48 then [] else (bytesAt s a (figTo s a 1000)).map figOf
def numAt (s : ByteArray) (a : Nat) : Nat := if hasB s a 48 then a + 1 else figTo s a 1000

theorem RSt.nil_ok {ok : Nat → Prop} {w W : World} {neg : Bool} {e : Int} {s : ByteArray} {a : Nat} (h : RSt ok w W neg [] e s a (.slice none 0 0)) (ok' : Nat → Prop) : RSt ok' w W neg [] e s a (.slice none 0 0) := ⟨h.1, Kd.R_nil _ _ _ _ _, h.2.2⟩
theorem RSt.ok_ {ok ok' : Nat → Prop} {w W : World} {neg : Bool} {l : List Int} {e : Int} {s : ByteArray} {a : Nat} {v : Value} (h : RSt ok w W neg l e s a v) (hok : ∀ k, ok k → ok' k) : RSt ok' w W neg l e s a v := ⟨h.1, Kd.R_mono h.2.1 (fun k hk => ⟨hk.1, hok k hk.2⟩), h.2.2⟩
theorem take_succ_rdn (l : List Int) (k : Nat) (h : k < l.length) : l.take (k + 1) = l.take k ++ [rd l (k : Int)] := by
  rw [List.take_succ_eq_append_getElem h]
  congr 2
  simp [rd, List.getD_eq_getElem?_getD, List.getElem?_eq_getElem h]
theorem number_fresh {w w2 W : World} {neg : Bool} {l : List Int} {e : Int} {s : ByteArray} {a b0 : Nat} {v : Value} (h : RSt (fun k => k ≠ b0) w W neg l e s a v) (hE : W.heap[b0]? = w2.heap[b0]?) (hb : b0 < w2.heap.size) (k : Nat) (hk : W.heap.size ≤ k) : k ≠ w.heap.size ∧ k ≠ b0 := by
  have h1 := blk_lt h.1
  have h2 : b0 < W.heap.size := by
    rw [Array.getElem?_eq_getElem hb] at hE
    exact (Array.getElem?_eq_some_iff.1 hE).1
  omega
theorem number_kept {w W w3 : World} {neg : Bool} {l : List Int} {e : Int} {s : ByteArray} {a b0 : Nat} {v : Value} (h : RSt (fun k => k ≠ b0) w W neg l e s a v) (hg : W.grownBy w3 v.ownBlock) :
    w3.heap[w.heap.size]? = some (.cells #[.bool neg, v, .int .i64 e, .string s, .int .i64 a] 53 (0, 0)) :=
  (hg.block _ (blk_lt h.1) (fun e => (h.2.1.1 _ e.symm).1 rfl)).trans h.1
theorem number_step {w W w3 : World} {neg : Bool} {l l' : List Int} {e : Int} {s : ByteArray} {a b0 : Nat} {v v2 : Value} (h : RSt (fun k => k ≠ b0) w W neg l e s a v) (hg : W.grownBy w3 v.ownBlock) (ho : Kd.R (Kd.int .u8) 5 w3 w.heap.size (fun k => k ≠ w.heap.size ∧ k ≠ b0) v2 l') (hb : Below w.heap.size w w3) :
    RSt (fun k => k ≠ b0) w (w3.setCell ⟨w.heap.size, 1, none⟩ v2) neg l' e s a v2 :=
  ⟨blk_put (cs := #[.bool neg, v, .int .i64 e, .string s, .int .i64 a]) (number_kept h hg) 1 _ rfl, Kd.R_far ho (fun k hk => hk.1) _, Below.setCell hb (by simp) _⟩
theorem number_other {w W w2 w3 : World} {neg : Bool} {l : List Int} {e : Int} {s : ByteArray} {a b0 : Nat} {v : Value} (h : RSt (fun k => k ≠ b0) w W neg l e s a v) (hg : W.grownBy w3 v.ownBlock) (hb : b0 < w2.heap.size) (hE : W.heap[b0]? = w2.heap[b0]?) (h1 : w.heap.size < b0) (v2 : Value) :
    (w3.setCell ⟨w.heap.size, 1, none⟩ v2).heap[b0]? = w2.heap[b0]? := by
  have h2 : b0 < W.heap.size := by
    have hE' := hE
    rw [Array.getElem?_eq_getElem hb] at hE'
    exact (Array.getElem?_eq_some_iff.1 hE').1
  rw [Below.heap_setCell _ _ _ _ (by simp; omega), hg.block _ h2 (fun e => (h.2.1.1 _ e.symm).2 rfl)]
  exact hE
set_option maxHeartbeats 2000000 in
set_option maxRecDepth 100000 in
theorem reader_number (w W : World) (neg : Bool) (e : Int) (s : ByteArray) (a : Nat) (h : RSt (fun _ => True) w W neg [] e s a (.slice none 0 0)) (ha : a ≤ s.size) (hs : s.size ≤ 140737488351232) :
    Calls Tryd.prog 26 #[.pointer (some ⟨w.heap.size, 0, none⟩)] W fun en W' => ∃ v1, en = .returned (.bool (numB s a)) ∧ RSt (fun _ => True) w W' neg (numD s a) e s (numAt s a) v1 := by
  by_cases h0 : hasB s a 48 = true
  · have hc := reader_has (fun _ => True) w W neg [] e s a _ 48 h ha hs
    rw [h0] at hc
    have e1 : numB s a = true := by unfold numB; simp [h0]
    have e2 : numD s a = [] := by unfold numD; simp [h0]
    have e3 : numAt s a = a + 1 := by unfold numAt; simp [h0]
    rw [e1, e2, e3]
    simp only [if_true] at hc
    clear h e1 e2 e3 h0
    go_enter Tryd.func26, Tryd.ntmps26
    go_wp2_with (go_at_call 25; refine hc.mono ?_; rintro en w1 ⟨rfl, h1⟩; have H1 := Aside0.mk h1; clear h1)
    go_ret
    exact ⟨_, rfl, H1.out⟩
  · have h0' : hasB s a 48 = false := by simpa using h0
    have hc := reader_has (fun _ => True) w W neg [] e s a _ 48 h ha hs
    rw [h0'] at hc
    have e1 : numB s a = decide (a < figTo s a 1000) := by unfold numB; simp [h0']
    have e2 : numD s a = (bytesAt s a (figTo s a 1000)).map figOf := by unfold numD; simp [h0']
    have e3 : numAt s a = figTo s a 1000 := by unfold numAt; simp [h0']
    obtain ⟨q, hq⟩ : ∃ q, q = bytesAt s a (figTo s a 1000) := ⟨_, rfl⟩
    have hql : q.length = figTo s a 1000 - a := by rw [hq]; exact bytesAt_len s a _ (figEnd_le s a 1000 _ a ha)
    have hqm : q.length ≤ 140737488351232 := by rw [hql]; have := figEnd_le s a 1000 s.size a ha; unfold figTo; omega
    have hqd : decide (a < figTo s a 1000) = decide (0 < q.length) := by rw [hql]; congr 1; simp only [eq_iff_iff]; omega
    have hf : ∀ W1, RSt (fun _ => True) w W1 neg [] e s a (.slice none 0 0) → Calls Tryd.prog 42 #[.pointer (some ⟨w.heap.size, 0, none⟩), .int .i64 1000] W1 fun en W' => ∃ b0 c, en = .returned (.slice (some ⟨b0, 0, none⟩) q.length c) ∧ Kd.C (Kd.int .u8) W' (some ⟨b0, 0, none⟩) q.length q ∧ w.heap.size < b0 ∧ b0 < W'.heap.size ∧ RSt (fun _ => True) w W' neg [] e s (figTo s a 1000) (.slice none 0 0) := by
      intro W1 h1
      rw [hq]
      exact reader_figures (fun _ => True) w W1 neg [] e s a _ 1000 h1 ha hs
    rw [e1, e2, e3, hqd, ← hq]
    simp only [Bool.false_eq_true, if_false] at hc
    have HQ := Aside0.mk hql
    clear h e1 e2 e3 h0 h0' hq hql hqd
    generalize hto : figTo s a 1000 = to_ at hf HQ ⊢
    have HTO := Aside0.mk hto
    clear hto
    go_enter Tryd.func26, Tryd.ntmps26
    go_wp2_with (first
      | (go_at_call 25; refine hc.mono ?_; rintro en w1 ⟨rfl, h1⟩; have H1 := Aside0.mk h1; clear h1)
      | (go_at_call 42; refine (hf _ H1.out).mono ?_; rintro en w2 ⟨b0, c0, rfl, hC, hb1, hb2, h2⟩; have HC := Aside0.mk hC; have H2 := Aside0.mk (h2.nil_ok (fun k => k ≠ b0)); clear hC h2))
    clear hc H1 hf
    go_loopg [12] q.length (fun gg s12 wr => ∃ k : Nat, ∃ v1, k ≤ q.length ∧ q.length - k ≤ gg ∧ s12 = .int .i64 k ∧ Aside0 (RSt (fun k => k ≠ b0) w wr neg ((q.take k).map figOf) e s (to_) v1) ∧ Aside0 (wr.heap[b0]? = w2.heap[b0]?))
    case atStart => exact ⟨0, _, Nat.zero_le _, by omega, rfl, H2, ⟨rfl⟩⟩
    case round =>
      obtain ⟨k, v1, hk, hg, rfl, HS, HE⟩ := hrel
      have cD : wr.cell? ⟨w.heap.size, 1, none⟩ = some v1 := (blk_cell HS.out.1 1).trans rfl
      by_cases hlt : k < q.length
      · have hlt1 := decide_eq_true hlt
        obtain ⟨ad, e1, hcell⟩ := Kd.at_int HC.out (k : Int) (by omega) (by omega)
        cases e1
        simp only [Int.toNat_natCast] at hcell
        rw [add_plain] at hcell
        replace hcell : wr.cell? ⟨b0, k, none⟩ = some (.int .u8 (rd q (k : Int))) := (World.cell?_of_block (w := w2) HE.out).trans hcell
        generalize hy : rd q (k : Int) = y at hcell
        have Y := Aside0.mk hy
        clear hy
        go_wp2_with (at_builtin; refine Kd.R_append (Kd.int .u8) (w0 := w) w.heap.size rfl (.tmp 21) (.tmp 24) 22 5 (.int .u8 0) 1 rfl Tryd.underlying22 readByteInfo rfl (by decide) (by omega) v1 ((q.take k).map figOf) (figOf y) [.int .u8 (figOf y)] (fun k => k ≠ w.heap.size ∧ k ≠ b0) (fun _ => False) rfl rfl rfl (fun _ h => h.elim) (fun k hk => number_fresh HS.out HE.out hb2 k hk) HS.out.2.1 HS.out.2.2 HS.out.2.2.size (by simp; omega) ?_; intro v2 w3 ho hb3 hg3 hat3; obtain ⟨A2, c2, e2⟩ := Kd.R_slice ho; subst e2; have f3 := number_kept HS.out hg3; have c13 : w3.cell? ⟨w.heap.size, 1, none⟩ = some v1 := (blk_cell f3 1).trans rfl; have fr3 := blk_frozen f3 1; have HS3 := Aside0.mk (number_step HS.out hg3 ho hb3); have HE3 := Aside0.mk (number_other HS.out hg3 hb2 HE.out hb1 (.slice A2 ((q.take k).map figOf ++ [figOf y]).length c2)); clear ho hb3 hg3 hat3 f3)
        go_roundg (q.length - (k + 1))
        case measure => omega
        case rel =>
          have hln : ((q.take k).map figOf ++ [figOf y]).length = k + 1 := by simp; omega
          rw [hln] at HS3 HE3
          exact ⟨k + 1, _, by omega, by omega, by go_num, ⟨by rw [take_succ_rdn _ _ hlt, Y.out, List.map_append]; exact HS3.out⟩, HE3⟩
      · have : k = q.length := by omega
        subst this
        have hlt1 := decide_eq_false hlt
        go_wp2
        go_ret
        exact ⟨v1, rfl, by rw [List.take_length] at HS; exact HS.out.ok_ (fun _ _ => trivial)⟩
end Go.Proofs.YtahkamggdbibiaaDoor.PZ
