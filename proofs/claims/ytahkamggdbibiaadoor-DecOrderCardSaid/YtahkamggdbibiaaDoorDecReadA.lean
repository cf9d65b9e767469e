/- dec.Read's reader: has and figures.
   Conditions: the text has at most 2^47 bytes. -/
import Derived.Test.YtahkamggdbibiaaDoorPZx0
import Derived.Test.YtahkamggdbibiaaDoorGl
import Derived.StillTailTactics
namespace Go.Proofs.YtahkamggdbibiaaDoor.PZ
open Go.RowKit Go.Proofs.YtahkamggdbibiaaDoorW.PrintWords Go.Proofs.YtahkamggdbibiaaDoorW.PrintLast

/-! the plain functions -/
theorem bt_nat (s : ByteArray) (a : Nat) : ∀ h : a < s.size, ((s[a]'h).toNat : Int) = bt s (a : Int) := fun h => by simpa using bt_at s (a : Int) (by simpa using h)
def hasB (s : ByteArray) (a : Nat) (c : Int) : Bool := decide (a < s.size) && decide (bt s a = c)
/-- A reader of the call's own. -/
def RSt (ok : Nat → Prop) (w W : World) (neg : Bool) (l : List Int) (e : Int) (s : ByteArray) (a : Nat) (v : Value) : Prop :=
  W.heap[w.heap.size]? = some (.cells #[.bool neg, v, .int .i64 e, .string s, .int .i64 a] 53 (0, 0)) ∧ Kd.R (Kd.int .u8) 5 W w.heap.size (fun k => k ≠ w.heap.size ∧ ok k) v l ∧ Below w.heap.size w W
theorem RSt.at_ {ok : Nat → Prop} {w W : World} {neg : Bool} {l : List Int} {e : Int} {s : ByteArray} {a : Nat} {v : Value} (h : RSt ok w W neg l e s a v) (n : Nat) :
    RSt ok w ((W.drewN n).setCell ⟨w.heap.size, 4, none⟩ (.int .i64 ((a + 1 : Nat) : Int))) neg l e s (a + 1) v := by
  obtain ⟨h1, h2, h3⟩ := h
  refine ⟨blk_put (cs := #[.bool neg, v, .int .i64 e, .string s, .int .i64 a]) h1 4 _ rfl, ?_, Below.setCell (pw_below_drewN h3 n) (by simp) _⟩
  exact Kd.R_far (Kd.R_drewN h2 n) (fun k hk => hk.1) _
theorem RSt.drew_ {ok : Nat → Prop} {w W : World} {neg : Bool} {l : List Int} {e : Int} {s : ByteArray} {a : Nat} {v : Value} (h : RSt ok w W neg l e s a v) (n : Nat) : RSt ok w (W.drewN n) neg l e s a v := by
  obtain ⟨h1, h2, h3⟩ := h
  exact ⟨h1, Kd.R_drewN h2 n, pw_below_drewN h3 n⟩

set_option maxHeartbeats 1000000 in
theorem reader_has (ok : Nat → Prop) (w W : World) (neg : Bool) (l : List Int) (e : Int) (s : ByteArray) (a : Nat) (v : Value) (c : Int) (h : RSt ok w W neg l e s a v) (ha : a ≤ s.size) (hs : s.size ≤ 140737488351232) :
    Calls Tryd.prog 25 #[.pointer (some ⟨w.heap.size, 0, none⟩), .int .u8 c] W fun en W' => en = .returned (.bool (hasB s a c)) ∧ RSt ok w W' neg l e s (if hasB s a c then a + 1 else a) v := by
  have H := Aside0.mk h
  have c3 : W.cell? ⟨w.heap.size, 3, none⟩ = some (.string s) := (blk_cell h.1 3).trans rfl
  have c4 : W.cell? ⟨w.heap.size, 4, none⟩ = some (.int .i64 a) := (blk_cell h.1 4).trans rfl
  have f4 := blk_frozen h.1 4
  clear h
  have hx := bt_nat s a
  have p0 : (0 ≤ (a : Int)) = True := eq_true (by omega)
  by_cases h1 : a < s.size
  · have g1 : decide ((a : Int) < (s.size : Int)) = true := decide_eq_true (by omega)
    have g2 : decide (a < s.size) = true := decide_eq_true h1
    have g3 : ((a : Int) < (s.size : Int)) = True := eq_true (by omega)
    have g4 : (a < s.size) = True := eq_true h1
    by_cases h2 : bt s a = c
    · have e1 : hasB s a c = true := by unfold hasB; simp [h1, h2]
      rw [e1]
      have q1 : (bt s a == c) = true := beq_iff_eq.mpr h2
      simp only [if_true]
      clear e1 h2
      go_enter Tryd.func25, Tryd.ntmps25
      go_wp2
      repeat (go_quiet (fail); try go_wp2)
      go_ret
      exact ⟨rfl, H.out.at_ _⟩
    · have e1 : hasB s a c = false := by unfold hasB; simp [h2]
      rw [e1]
      have q1 : (bt s a == c) = false := beq_eq_false_iff_ne.mpr h2
      simp only [Bool.false_eq_true, if_false]
      clear e1 h2
      go_enter Tryd.func25, Tryd.ntmps25
      go_wp2
      repeat (go_quiet (fail); try go_wp2)
      go_ret
      exact ⟨rfl, H.out.drew_ _⟩
  · have e1 : hasB s a c = false := by unfold hasB; simp [h1]
    have g1 : decide ((a : Int) < (s.size : Int)) = false := decide_eq_false (by omega)
    have g2 : decide (a < s.size) = false := decide_eq_false h1
    rw [e1]
    simp only [Bool.false_eq_true, if_false]
    clear e1
    go_enter Tryd.func25, Tryd.ntmps25
    go_wp2
    repeat (go_quiet (fail); try go_wp2)
    go_ret
    exact ⟨rfl, H.out.drew_ _⟩

/-- Does a figure stand at a place, that may be read on? -/
def figB (s : ByteArray) (fr most a : Nat) : Bool := decide (a < s.size) && decide (a - fr < most) && decide (bt s a ≥ 48) && decide (bt s a ≤ 57) && (decide (a > fr) || decide (bt s a ≠ 48))
/-- Where figures end. -/
def figEnd (s : ByteArray) (fr most : Nat) : Nat → Nat → Nat
  | 0, a => a
  | k + 1, a => if figB s fr most a then figEnd s fr most k (a + 1) else a
theorem figEnd_stop (s : ByteArray) (fr most : Nat) (k a : Nat) (h : figB s fr most a = false) : figEnd s fr most k a = a := by
  cases k with
  | zero => rfl
  | succ k => simp [figEnd, h]
theorem figEnd_ge (s : ByteArray) (fr most : Nat) : ∀ (k a : Nat), a ≤ figEnd s fr most k a
  | 0, a => Nat.le_refl _
  | k + 1, a => by
    unfold figEnd
    split
    · exact Nat.le_trans (Nat.le_succ a) (figEnd_ge s fr most k (a + 1))
    · exact Nat.le_refl _
theorem figEnd_le (s : ByteArray) (fr most : Nat) : ∀ (k a : Nat), a ≤ s.size → figEnd s fr most k a ≤ s.size
  | 0, a, h => h
  | k + 1, a, h => by
    unfold figEnd
    split
    · rename_i hb
      have : a < s.size := by unfold figB at hb; simp at hb; omega
      exact figEnd_le s fr most k (a + 1) this
    · exact h
/-- With enough rounds. -/
theorem figEnd_more (s : ByteArray) (fr most : Nat) : ∀ (k a j : Nat), s.size - a ≤ k → figEnd s fr most (k + j) a = figEnd s fr most k a
  | 0, a, j, h => by
    cases j with
    | zero => rfl
    | succ j =>
      have : figB s fr most a = false := by unfold figB; simp; omega
      simp [figEnd, this]
  | k + 1, a, j, h => by
    rw [show k + 1 + j = (k + j) + 1 by omega]
    unfold figEnd
    split
    · exact figEnd_more s fr most k (a + 1) j (by omega)
    · rfl
theorem figEnd_step (s : ByteArray) (fr most : Nat) (a : Nat) (h : figB s fr most a = true) (ha : a < s.size) : figEnd s fr most s.size a = figEnd s fr most s.size (a + 1) := by
  obtain ⟨k, hk⟩ : ∃ k, s.size = k + 1 := ⟨s.size - 1, by omega⟩
  have h2 := figEnd_more s fr most k (a + 1) 1 (by omega)
  rw [hk, h2]
  simp [figEnd, h]
def figTo (s : ByteArray) (fr most : Nat) : Nat := figEnd s fr most s.size fr
/-- Bytes of a text, from one place to another. -/
def bytesAt (s : ByteArray) (fr to_ : Nat) : List Int := bytesOf (s.extract fr to_)

theorem bytesOf_len (s : ByteArray) : (bytesOf s).length = s.size := bytesOf_length s
theorem RSt.below_ {ok : Nat → Prop} {w W W1 : World} {neg : Bool} {l : List Int} {e : Int} {s : ByteArray} {a : Nat} {v : Value} (h : RSt ok w W neg l e s a v) (hb : Below W.heap.size W W1) : RSt ok w W1 neg l e s a v := by
  obtain ⟨h1, h2, h3⟩ := h
  refine ⟨(hb.block _ (blk_lt h1)).trans h1, Kd.R_below h2 hb, h3.trans (hb.mono h3.size)⟩
theorem bytes_size (s : ByteArray) (a b : Nat) (hb : b ≤ s.size) : (s.extract a b).size = b - a := by
  rw [ByteArray.size_extract, Nat.min_eq_left hb]
theorem bytesAt_len (s : ByteArray) (a b : Nat) (hb : b ≤ s.size) : (bytesAt s a b).length = b - a := (bytesOf_len _).trans (bytes_size s a b hb)
theorem bytes_end {ok : Nat → Prop} {w W : World} {neg : Bool} {l : List Int} {e : Int} {s : ByteArray} {b a : Nat} {v : Value} (h : RSt ok w W neg l e s b v) (hs : s.size ≤ 140737488351232) (hb : b ≤ s.size) :
    Value.slice (some ⟨W.heap.size, 0, none⟩) (b - a) (grownCap W (b - a) 0 5) = .slice (some ⟨W.heap.size, 0, none⟩) (bytesAt s a b).length (grownCap W (b - a) 0 5) ∧ Kd.C (Kd.int .u8) (Lib.bytesWorld W 5 (s.extract a b)) (some ⟨W.heap.size, 0, none⟩) (bytesAt s a b).length (bytesAt s a b) ∧ RSt ok w (Lib.bytesWorld W 5 (s.extract a b)) neg l e s b v := by
  have hz : (s.extract a b).size ≤ 9223372036854775807 := by rw [bytes_size s a b hb]; omega
  refine ⟨by rw [bytesAt_len s a b hb], ?_, h.below_ (bytes_below (Below.refl _ W) (Nat.le_refl _) _ _)⟩
  rw [show (bytesAt s a b).length = (s.extract a b).size from bytesOf_len _]
  exact Kd.C_of_reads (d := (0 : Int)) (h1 := fun _ => rfl) (bytes_reads W 5 _ hz)
set_option maxHeartbeats 2000000 in
set_option maxRecDepth 100000 in
theorem reader_figures (ok : Nat → Prop) (w W : World) (neg : Bool) (l : List Int) (e : Int) (s : ByteArray) (a : Nat) (v : Value) (most : Nat) (h : RSt ok w W neg l e s a v) (ha : a ≤ s.size) (hs : s.size ≤ 140737488351232) :
    Calls Tryd.prog 42 #[.pointer (some ⟨w.heap.size, 0, none⟩), .int .i64 most] W fun en W' => ∃ b0 c, en = .returned (.slice (some ⟨b0, 0, none⟩) (bytesAt s a (figTo s a most)).length c) ∧ Kd.C (Kd.int .u8) W' (some ⟨b0, 0, none⟩) (bytesAt s a (figTo s a most)).length (bytesAt s a (figTo s a most)) ∧ w.heap.size < b0 ∧ b0 < W'.heap.size ∧ RSt ok w W' neg l e s (figTo s a most) v := by
  have H := Aside0.mk h
  have c4 : W.cell? ⟨w.heap.size, 4, none⟩ = some (.int .i64 a) := (blk_cell h.1 4).trans rfl
  clear h
  go_enter Tryd.func42, Tryd.ntmps42
  go_wp2
  clear c4
  go_loopg [73] s.size (fun gg _ wr => ∃ b : Nat, a ≤ b ∧ b ≤ s.size ∧ s.size - b ≤ gg ∧ Aside0 (RSt ok w wr neg l e s b v) ∧ Aside0 (figEnd s a most s.size a = figEnd s a most s.size b))
  case atStart => exact ⟨a, Nat.le_refl _, ha, by omega, H, ⟨rfl⟩⟩
  case round =>
    obtain ⟨b, hab, hb, hg, HS, HE⟩ := hrel
    have c3 : wr.cell? ⟨w.heap.size, 3, none⟩ = some (.string s) := (blk_cell HS.out.1 3).trans rfl
    have c4 : wr.cell? ⟨w.heap.size, 4, none⟩ = some (.int .i64 b) := (blk_cell HS.out.1 4).trans rfl
    have f4 := blk_frozen HS.out.1 4
    have hx := bt_nat s b
    have p0 : (0 ≤ (b : Int)) = True := eq_true (by omega)
    by_cases h1 : b < s.size
    · have g1 : decide ((b : Int) < (s.size : Int)) = true := decide_eq_true (by omega)
      have g2 : decide (b < s.size) = true := decide_eq_true h1
      have g3 : ((b : Int) < (s.size : Int)) = True := eq_true (by omega)
      have g4 : (b < s.size) = True := eq_true h1
      by_cases h2 : b - a < most
      · have i2 : decide ((b : Int) - (a : Int) < (most : Int)) = true := decide_eq_true (by omega)
        by_cases h3 : bt s b ≥ 48
        · have i3 : decide ((48 : Int) ≤ bt s b) = true := decide_eq_true h3
          by_cases h4 : bt s b ≤ 57
          · have i4 : decide (bt s b ≤ (57 : Int)) = true := decide_eq_true h4
            by_cases h5 : b > a
            · have i5 : decide (a < b) = true := decide_eq_true h5
              have i51 : decide ((a : Int) < (b : Int)) = true := decide_eq_true (by omega)
              have FB : Aside0 (figB s a most b = true) := ⟨by unfold figB; simp; omega⟩
              go_wp2
              repeat (go_quiet (fail); try go_wp2)
              go_roundg (s.size - (b + 1))
              case measure => omega
              case rel => exact ⟨b + 1, by omega, by omega, by omega, ⟨HS.out.at_ _⟩, ⟨by rw [HE.out]; exact figEnd_step s a most b FB.out h1⟩⟩
            · have he : b = a := by omega
              have i5 : decide (a < b) = false := decide_eq_false h5
              have i51 : decide ((a : Int) < (b : Int)) = false := decide_eq_false (by omega)
              by_cases h6 : bt s b = 48
              · have i6 : (bt s b != 48) = false := by simp [h6]
                have i61 : (bt s b == 48) = true := by simp [h6]
                have FB : Aside0 (figB s a most b = false) := ⟨by unfold figB; simp [h6]; omega⟩
                clear h6 he
                go_wp2
                go_quiet (fail)
                go_wp2
                refine wp_region_still_tail 10 (by kernel_rfl) (by kernel_rfl) ?_
                simp only [List.take_succ_cons, List.take_zero, List.drop_succ_cons, List.drop_zero]
                change wpStill _ _ ((wr.drewN nq).drew) _ _ _
                repeat still_step
                refine wpStill_nil ?_
                change wpList _ _ _ _ _ ((wr.drewN nq).drew)
                have kb := fun W => print_bytes (P := Tryd.prog) 9 22 5 Tryd.underlying9 Tryd.underlying22 Tryd.underlying5 (s.extract a b) W
                have le1 : decide (a ≤ b) = true := decide_eq_true hab
                have le2 : decide (b ≤ s.size) = true := decide_eq_true hb
                go_wp2
                go_ret
                obtain ⟨z1, z2, z3⟩ := bytes_end (a := a) (HS.out.drew_ (nq + 1)) hs hb
                have zf : figTo s a most = b := by unfold figTo; rw [HE.out]; exact figEnd_stop s a most _ b FB.out
                rw [zf]
                exact ⟨_, _, congrArg Ending.returned z1, z2, blk_lt HS.out.1, by rw [Lib.bytesWorld_size]; exact Nat.lt_succ_self _, z3⟩
              · have i6 : (bt s b != 48) = true := by simp [h6]
                have i61 : (bt s b == 48) = false := by simp [h6]
                have FB : Aside0 (figB s a most b = true) := ⟨by unfold figB; simp [h6]; omega⟩
                clear h6 he
                go_wp2
                repeat (go_quiet (fail); try go_wp2)
                go_roundg (s.size - (b + 1))
                case measure => omega
                case rel => exact ⟨b + 1, by omega, by omega, by omega, ⟨HS.out.at_ _⟩, ⟨by rw [HE.out]; exact figEnd_step s a most b FB.out h1⟩⟩
          · have i4 : decide (bt s b ≤ (57 : Int)) = false := decide_eq_false h4
            have FB : Aside0 (figB s a most b = false) := ⟨by unfold figB; simp; omega⟩
            go_wp2
            go_quiet (fail)
            go_wp2
            refine wp_region_still_tail 10 (by kernel_rfl) (by kernel_rfl) ?_
            simp only [List.take_succ_cons, List.take_zero, List.drop_succ_cons, List.drop_zero]
            change wpStill _ _ ((wr.drewN nq).drew) _ _ _
            repeat still_step
            refine wpStill_nil ?_
            change wpList _ _ _ _ _ ((wr.drewN nq).drew)
            have kb := fun W => print_bytes (P := Tryd.prog) 9 22 5 Tryd.underlying9 Tryd.underlying22 Tryd.underlying5 (s.extract a b) W
            have le1 : decide (a ≤ b) = true := decide_eq_true hab
            have le2 : decide (b ≤ s.size) = true := decide_eq_true hb
            go_wp2
            go_ret
            obtain ⟨z1, z2, z3⟩ := bytes_end (a := a) (HS.out.drew_ (nq + 1)) hs hb
            have zf : figTo s a most = b := by unfold figTo; rw [HE.out]; exact figEnd_stop s a most _ b FB.out
            rw [zf]
            exact ⟨_, _, congrArg Ending.returned z1, z2, blk_lt HS.out.1, by rw [Lib.bytesWorld_size]; exact Nat.lt_succ_self _, z3⟩
        · have i3 : decide ((48 : Int) ≤ bt s b) = false := decide_eq_false h3
          have FB : Aside0 (figB s a most b = false) := ⟨by unfold figB; simp; omega⟩
          go_wp2
          go_quiet (fail)
          go_wp2
          refine wp_region_still_tail 10 (by kernel_rfl) (by kernel_rfl) ?_
          simp only [List.take_succ_cons, List.take_zero, List.drop_succ_cons, List.drop_zero]
          change wpStill _ _ ((wr.drewN nq).drew) _ _ _
          repeat still_step
          refine wpStill_nil ?_
          change wpList _ _ _ _ _ ((wr.drewN nq).drew)
          have kb := fun W => print_bytes (P := Tryd.prog) 9 22 5 Tryd.underlying9 Tryd.underlying22 Tryd.underlying5 (s.extract a b) W
          have le1 : decide (a ≤ b) = true := decide_eq_true hab
          have le2 : decide (b ≤ s.size) = true := decide_eq_true hb
          go_wp2
          go_ret
          obtain ⟨z1, z2, z3⟩ := bytes_end (a := a) (HS.out.drew_ (nq + 1)) hs hb
          have zf : figTo s a most = b := by unfold figTo; rw [HE.out]; exact figEnd_stop s a most _ b FB.out
          rw [zf]
          exact ⟨_, _, congrArg Ending.returned z1, z2, blk_lt HS.out.1, by rw [Lib.bytesWorld_size]; exact Nat.lt_succ_self _, z3⟩
      · have i2 : decide ((b : Int) - (a : Int) < (most : Int)) = false := decide_eq_false (by omega)
        have FB : Aside0 (figB s a most b = false) := ⟨by unfold figB; simp; omega⟩
        go_wp2
        go_quiet (fail)
        go_wp2
        refine wp_region_still_tail 10 (by kernel_rfl) (by kernel_rfl) ?_
        simp only [List.take_succ_cons, List.take_zero, List.drop_succ_cons, List.drop_zero]
        change wpStill _ _ ((wr.drewN nq).drew) _ _ _
        repeat still_step
        refine wpStill_nil ?_
        change wpList _ _ _ _ _ ((wr.drewN nq).drew)
        have kb := fun W => print_bytes (P := Tryd.prog) 9 22 5 Tryd.underlying9 Tryd.underlying22 Tryd.underlying5 (s.extract a b) W
        have le1 : decide (a ≤ b) = true := decide_eq_true hab
        have le2 : decide (b ≤ s.size) = true := decide_eq_true hb
        go_wp2
        go_ret
        obtain ⟨z1, z2, z3⟩ := bytes_end (a := a) (HS.out.drew_ (nq + 1)) hs hb
        have zf : figTo s a most = b := by unfold figTo; rw [HE.out]; exact figEnd_stop s a most _ b FB.out
        rw [zf]
        exact ⟨_, _, congrArg Ending.returned z1, z2, blk_lt HS.out.1, by rw [Lib.bytesWorld_size]; exact Nat.lt_succ_self _, z3⟩
    · have g1 : decide ((b : Int) < (s.size : Int)) = false := decide_eq_false (by omega)
      have g2 : decide (b < s.size) = false := decide_eq_false h1
      have FB : Aside0 (figB s a most b = false) := ⟨by unfold figB; simp; omega⟩
      go_wp2
      go_quiet (fail)
      go_wp2
      refine wp_region_still_tail 10 (by kernel_rfl) (by kernel_rfl) ?_
      simp only [List.take_succ_cons, List.take_zero, List.drop_succ_cons, List.drop_zero]
      change wpStill _ _ ((wr.drewN nq).drew) _ _ _
      repeat still_step
      refine wpStill_nil ?_
      change wpList _ _ _ _ _ ((wr.drewN nq).drew)
      have kb := fun W => print_bytes (P := Tryd.prog) 9 22 5 Tryd.underlying9 Tryd.underlying22 Tryd.underlying5 (s.extract a b) W
      have le1 : decide (a ≤ b) = true := decide_eq_true hab
      have le2 : decide (b ≤ s.size) = true := decide_eq_true hb
      go_wp2
      go_ret
      obtain ⟨z1, z2, z3⟩ := bytes_end (a := a) (HS.out.drew_ (nq + 1)) hs hb
      have zf : figTo s a most = b := by unfold figTo; rw [HE.out]; exact figEnd_stop s a most _ b FB.out
      rw [zf]
      exact ⟨_, _, congrArg Ending.returned z1, z2, blk_lt HS.out.1, by rw [Lib.bytesWorld_size]; exact Nat.lt_succ_self _, z3⟩
end Go.Proofs.YtahkamggdbibiaaDoor.PZ
