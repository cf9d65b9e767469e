/- The reader's methods has, figures, number and power: what they answer, and what they leave.
   Conditions: the text has at most 2^47 - 4096 bytes. -/
import Derived.Test.YtahkamggdbibiaaDoorPZx0
import Derived.Test.YtahkamggdbibiaaDoorGl
import Derived.StillTailTactics
namespace Go.Proofs.YtahkamggdbibiaaDoor.PZ
open Go.RowKit Go.Proofs.YtahkamggdbibiaaDoorW.PrintWords Go.Proofs.YtahkamggdbibiaaDoorW.PrintLast

/-! the plain functions -/
theorem bt_nat (s : ByteArray) (a : Nat) : ∀ h : a < s.size, ((s[a]'h).toNat : Int) = bt s (a : Int) := fun h => by simpa using bt_at s (a : Int) (by simpa using h)
def hasB (s : ByteArray) (a : Nat) (c : Int) : Bool := decide (a < s.size) && decide (bt s a = c)
/-- A reader of the call's own. -/
def RSt (ok : Nat → Prop) (w W : World) (neg : Bool) (l : List Int) (e : Int) (s : ByteArray) (a : Nat) (v : Value) : Prop :=
  W.heap[w.heap.size]? = some (.cells #[.bool neg, v, .int .i64 e, .string s, .int .i64 a] 53 (0, 0)) ∧ Kd.R (Kd.int .u8) 5 W w.heap.size (fun k => k ≠ w.heap.size ∧ ok k) v l ∧ Below w.heap.size w W
theorem RSt.at_ {ok : Nat → Prop} {w W : World} {neg : Bool} {l : List Int} {e : Int} {s : ByteArray} {a : Nat} {v : Value} (h : RSt ok w W neg l e s a v) (n : Nat) :
    RSt ok w ((W.drewN n).setCell ⟨w.heap.size, 4, none⟩ (.int .i64 ((a + 1 : Nat) : Int))) neg l e s (a + 1) v := by
  obtain ⟨h1, h2, h3⟩ := h
  refine ⟨blk_put (cs := #[.bool neg, v, .int .i64 e, .string s, .int .i64 a]) h1 4 _ rfl, ?_, Below.setCell (pw_below_drewN h3 n) (by simp) _⟩
  exact Kd.R_far (Kd.R_drewN h2 n) (fun k hk => hk.1) _
theorem RSt.drew_ {ok : Nat → Prop} {w W : World} {neg : Bool} {l : List Int} {e : Int} {s : ByteArray} {a : Nat} {v : Value} (h : RSt ok w W neg l e s a v) (n : Nat) : RSt ok w (W.drewN n) neg l e s a v := by
  obtain ⟨h1, h2, h3⟩ := h
  exact ⟨h1, Kd.R_drewN h2 n, pw_below_drewN h3 n⟩

set_option maxHeartbeats 1000000 in
theorem reader_has (ok : Nat → Prop) (w W : World) (neg : Bool) (l : List Int) (e : Int) (s : ByteArray) (a : Nat) (v : Value) (c : Int) (h : RSt ok w W neg l e s a v) (ha : a ≤ s.size) (hs : s.size ≤ 140737488351232) :
    Calls Tryd.prog 25 #[.pointer (some ⟨w.heap.size, 0, none⟩), .int .u8 c] W fun en W' => en = .returned (.bool (hasB s a c)) ∧ RSt ok w W' neg l e s (if hasB s a c then a + 1 else a) v := by
  have H := Aside0.mk h
  have c3 : W.cell? ⟨w.heap.size, 3, none⟩ = some (.string s) := (blk_cell h.1 3).trans rfl
  have c4 : W.cell? ⟨w.heap.size, 4, none⟩ = some (.int .i64 a) := (blk_cell h.1 4).trans rfl
  have f4 := blk_frozen h.1 4
  clear h
  have hx := bt_nat s a
  have p0 : (0 ≤ (a : Int)) = True := eq_true (by omega)
  by_cases h1 : a < s.size
  · have g1 : decide ((a : Int) < (s.size : Int)) = true := decide_eq_true (by omega)
    have g2 : decide (a < s.size) = true := decide_eq_true h1
    have g3 : ((a : Int) < (s.size : Int)) = True := eq_true (by omega)
    have g4 : (a < s.size) = True := eq_true h1
    by_cases h2 : bt s a = c
    · have e1 : hasB s a c = true := by unfold hasB; simp [h1, h2]
      rw [e1]
      have q1 : (bt s a == c) = true := beq_iff_eq.mpr h2
      simp only [if_true]
      clear e1 h2
      go_enter Tryd.func25, Tryd.ntmps25
      go_wp2
      repeat (go_quiet (fail); try go_wp2)
      go_ret
      exact ⟨rfl, H.out.at_ _⟩
    · have e1 : hasB s a c = false := by unfold hasB; simp [h2]
      rw [e1]
      have q1 : (bt s a == c) = false := beq_eq_false_iff_ne.mpr h2
      simp only [Bool.false_eq_true, if_false]
      clear e1 h2
      go_enter Tryd.func25, Tryd.ntmps25
      go_wp2
      repeat (go_quiet (fail); try go_wp2)
      go_ret
      exact ⟨rfl, H.out.drew_ _⟩
  · have e1 : hasB s a c = false := by unfold hasB; simp [h1]
    have g1 : decide ((a : Int) < (s.size : Int)) = false := decide_eq_false (by omega)
    have g2 : decide (a < s.size) = false := decide_eq_false h1
    rw [e1]
    simp only [Bool.false_eq_true, if_false]
    clear e1
    go_enter Tryd.func25, Tryd.ntmps25
    go_wp2
    repeat (go_quiet (fail); try go_wp2)
    go_ret
    exact ⟨rfl, H.out.drew_ _⟩

/-- Does a figure stand at a place, that may be read on? -/
def figB (s : ByteArray) (fr most a : Nat) : Bool := decide (a < s.size) && decide (a - fr < most) && decide (bt s a ≥ 48) && decide (bt s a ≤ 57) && (decide (a > fr) || decide (bt s a ≠ 48))
/-- Where figures end. -/
def figEnd (s : ByteArray) (fr most : Nat) : Nat → Nat → Nat
  | 0, a => a
  | k + 1, a => if figB s fr most a then figEnd s fr most k (a + 1) else a
theorem figEnd_stop (s : ByteArray) (fr most : Nat) (k a : Nat) (h : figB s fr most a = false) : figEnd s fr most k a = a := by
  cases k with
  | zero => rfl
  | succ k => simp [figEnd, h]
theorem figEnd_le (s : ByteArray) (fr most : Nat) : ∀ (k a : Nat), a ≤ s.size → figEnd s fr most k a ≤ s.size
  | 0, a, h => h
  | k + 1, a, h => by
    unfold figEnd
    split
    · rename_i hb
      have : a < s.size := by unfold figB at hb; simp at hb; omega
      exact figEnd_le s fr most k (a + 1) this
    · exact h
/-- With enough rounds. -/
theorem figEnd_more (s : ByteArray) (fr most : Nat) : ∀ (k a j : Nat), s.size - a ≤ k → figEnd s fr most (k + j) a = figEnd s fr most k a
  | 0, a, j, h => by
    cases j with
    | zero => rfl
    | succ j =>
      have : figB s fr most a = false := by unfold figB; simp; omega
      simp [figEnd, this]
  | k + 1, a, j, h => by
    rw [show k + 1 + j = (k + j) + 1 by omega]
    unfold figEnd
    split
    · exact figEnd_more s fr most k (a + 1) j (by omega)
    · rfl
theorem figEnd_step (s : ByteArray) (fr most : Nat) (a : Nat) (h : figB s fr most a = true) (ha : a < s.size) : figEnd s fr most s.size a = figEnd s fr most s.size (a + 1) := by
  obtain ⟨k, hk⟩ : ∃ k, s.size = k + 1 := ⟨s.size - 1, by omega⟩
  have h2 := figEnd_more s fr most k (a + 1) 1 (by omega)
  rw [hk, h2]
  simp [figEnd, h]
def figTo (s : ByteArray) (fr most : Nat) : Nat := figEnd s fr most s.size fr
/-- Bytes of a text, from one place to another. -/
def bytesAt (s : ByteArray) (fr to_ : Nat) : List Int := bytesOf (s.extract fr to_)

theorem bytesOf_len (s : ByteArray) : (bytesOf s).length = s.size := bytesOf_length s
theorem RSt.below_ {ok : Nat → Prop} {w W W1 : World} {neg : Bool} {l : List Int} {e : Int} {s : ByteArray} {a : Nat} {v : Value} (h : RSt ok w W neg l e s a v) (hb : Below W.heap.size W W1) : RSt ok w W1 neg l e s a v := by
  obtain ⟨h1, h2, h3⟩ := h
  refine ⟨(hb.block _ (blk_lt h1)).trans h1, Kd.R_below h2 hb, h3.trans (hb.mono h3.size)⟩
theorem bytes_size (s : ByteArray) (a b : Nat) (hb : b ≤ s.size) : (s.extract a b).size = b - a := by
  rw [ByteArray.size_extract, Nat.min_eq_left hb]
theorem bytesAt_len (s : ByteArray) (a b : Nat) (hb : b ≤ s.size) : (bytesAt s a b).length = b - a := (bytesOf_len _).trans (bytes_size s a b hb)
theorem bytes_end {ok : Nat → Prop} {w W : World} {neg : Bool} {l : List Int} {e : Int} {s : ByteArray} {b a : Nat} {v : Value} (h : RSt ok w W neg l e s b v) (hs : s.size ≤ 140737488351232) (hb : b ≤ s.size) :
    Value.slice (some ⟨W.heap.size, 0, none⟩) (b - a) (grownCap W (b - a) 0 5) = .slice (some ⟨W.heap.size, 0, none⟩) (bytesAt s a b).length (grownCap W (b - a) 0 5) ∧ Kd.C (Kd.int .u8) (Lib.bytesWorld W 5 (s.extract a b)) (some ⟨W.heap.size, 0, none⟩) (bytesAt s a b).length (bytesAt s a b) ∧ RSt ok w (Lib.bytesWorld W 5 (s.extract a b)) neg l e s b v := by
  have hz : (s.extract a b).size ≤ 9223372036854775807 := by rw [bytes_size s a b hb]; omega
  refine ⟨by rw [bytesAt_len s a b hb], ?_, h.below_ (bytes_below (Below.refl _ W) (Nat.le_refl _) _ _)⟩
  rw [show (bytesAt s a b).length = (s.extract a b).size from bytesOf_len _]
  exact Kd.C_of_reads (d := (0 : Int)) (h1 := fun _ => rfl) (bytes_reads W 5 _ hz)
set_option maxHeartbeats 2000000 in
set_option maxRecDepth 100000 in
theorem reader_figures (ok : Nat → Prop) (w W : World) (neg : Bool) (l : List Int) (e : Int) (s : ByteArray) (a : Nat) (v : Value) (most : Nat) (h : RSt ok w W neg l e s a v) (ha : a ≤ s.size) (hs : s.size ≤ 140737488351232) :
    Calls Tryd.prog 42 #[.pointer (some ⟨w.heap.size, 0, none⟩), .int .i64 most] W fun en W' => ∃ b0 c, en = .returned (.slice (some ⟨b0, 0, none⟩) (bytesAt s a (figTo s a most)).length c) ∧ Kd.C (Kd.int .u8) W' (some ⟨b0, 0, none⟩) (bytesAt s a (figTo s a most)).length (bytesAt s a (figTo s a most)) ∧ w.heap.size < b0 ∧ b0 < W'.heap.size ∧ RSt ok w W' neg l e s (figTo s a most) v := by
  have H := Aside0.mk h
  have c4 : W.cell? ⟨w.heap.size, 4, none⟩ = some (.int .i64 a) := (blk_cell h.1 4).trans rfl
  clear h
  go_enter Tryd.func42, Tryd.ntmps42
  go_wp2
  clear c4
  go_loopg [73] s.size (fun gg _ wr => ∃ b : Nat, a ≤ b ∧ b ≤ s.size ∧ s.size - b ≤ gg ∧ Aside0 (RSt ok w wr neg l e s b v) ∧ Aside0 (figEnd s a most s.size a = figEnd s a most s.size b))
  case atStart => exact ⟨a, Nat.le_refl _, ha, by omega, H, ⟨rfl⟩⟩
  case round =>
    obtain ⟨b, hab, hb, hg, HS, HE⟩ := hrel
    have c3 : wr.cell? ⟨w.heap.size, 3, none⟩ = some (.string s) := (blk_cell HS.out.1 3).trans rfl
    have c4 : wr.cell? ⟨w.heap.size, 4, none⟩ = some (.int .i64 b) := (blk_cell HS.out.1 4).trans rfl
    have f4 := blk_frozen HS.out.1 4
    have hx := bt_nat s b
    have p0 : (0 ≤ (b : Int)) = True := eq_true (by omega)
    by_cases h1 : b < s.size
    · have g1 : decide ((b : Int) < (s.size : Int)) = true := decide_eq_true (by omega)
      have g2 : decide (b < s.size) = true := decide_eq_true h1
      have g3 : ((b : Int) < (s.size : Int)) = True := eq_true (by omega)
      have g4 : (b < s.size) = True := eq_true h1
      by_cases h2 : b - a < most
      · have i2 : decide ((b : Int) - (a : Int) < (most : Int)) = true := decide_eq_true (by omega)
        by_cases h3 : bt s b ≥ 48
        · have i3 : decide ((48 : Int) ≤ bt s b) = true := decide_eq_true h3
          by_cases h4 : bt s b ≤ 57
          · have i4 : decide (bt s b ≤ (57 : Int)) = true := decide_eq_true h4
            by_cases h5 : b > a
            · have i5 : decide (a < b) = true := decide_eq_true h5
              have i51 : decide ((a : Int) < (b : Int)) = true := decide_eq_true (by omega)
              have FB : Aside0 (figB s a most b = true) := ⟨by unfold figB; simp; omega⟩
              go_wp2
              repeat (go_quiet (fail); try go_wp2)
              go_roundg (s.size - (b + 1))
              case measure => omega
              case rel => exact ⟨b + 1, by omega, by omega, by omega, ⟨HS.out.at_ _⟩, ⟨by rw [HE.out]; exact figEnd_step s a most b FB.out h1⟩⟩
            · have he : b = a := by omega
              have i5 : decide (a < b) = false := decide_eq_false h5
              have i51 : decide ((a : Int) < (b : Int)) = false := decide_eq_false (by omega)
              by_cases h6 : bt s b = 48
              · have i6 : (bt s b != 48) = false := by simp [h6]
                have i61 : (bt s b == 48) = true := by simp [h6]
                have FB : Aside0 (figB s a most b = false) := ⟨by unfold figB; simp [h6]; omega⟩
                clear h6 he
                go_wp2
                go_quiet (fail)
                go_wp2
                refine wp_region_still_tail 10 (by kernel_rfl) (by kernel_rfl) ?_
                simp only [List.take_succ_cons, List.take_zero, List.drop_succ_cons, List.drop_zero]
                change wpStill _ _ ((wr.drewN nq).drew) _ _ _
                repeat still_step
                refine wpStill_nil ?_
                change wpList _ _ _ _ _ ((wr.drewN nq).drew)
                have kb := fun W => print_bytes (P := Tryd.prog) 9 22 5 Tryd.underlying9 Tryd.underlying22 Tryd.underlying5 (s.extract a b) W
                have le1 : decide (a ≤ b) = true := decide_eq_true hab
                have le2 : decide (b ≤ s.size) = true := decide_eq_true hb
                go_wp2
                go_ret
                obtain ⟨z1, z2, z3⟩ := bytes_end (a := a) (HS.out.drew_ (nq + 1)) hs hb
                have zf : figTo s a most = b := by unfold figTo; rw [HE.out]; exact figEnd_stop s a most _ b FB.out
                rw [zf]
                exact ⟨_, _, congrArg Ending.returned z1, z2, blk_lt HS.out.1, by rw [Lib.bytesWorld_size]; exact Nat.lt_succ_self _, z3⟩
              · have i6 : (bt s b != 48) = true := by simp [h6]
                have i61 : (bt s b == 48) = false := by simp [h6]
                have FB : Aside0 (figB s a most b = true) := ⟨by unfold figB; simp [h6]; omega⟩
                clear h6 he
                go_wp2
                repeat (go_quiet (fail); try go_wp2)
                go_roundg (s.size - (b + 1))
                case measure => omega
                case rel => exact ⟨b + 1, by omega, by omega, by omega, ⟨HS.out.at_ _⟩, ⟨by rw [HE.out]; exact figEnd_step s a most b FB.out h1⟩⟩
          · have i4 : decide (bt s b ≤ (57 : Int)) = false := decide_eq_false h4
            have FB : Aside0 (figB s a most b = false) := ⟨by unfold figB; simp; omega⟩
            go_wp2
            go_quiet (fail)
            go_wp2
            refine wp_region_still_tail 10 (by kernel_rfl) (by kernel_rfl) ?_
            simp only [List.take_succ_cons, List.take_zero, List.drop_succ_cons, List.drop_zero]
            change wpStill _ _ ((wr.drewN nq).drew) _ _ _
            repeat still_step
            refine wpStill_nil ?_
            change wpList _ _ _ _ _ ((wr.drewN nq).drew)
            have kb := fun W => print_bytes (P := Tryd.prog) 9 22 5 Tryd.underlying9 Tryd.underlying22 Tryd.underlying5 (s.extract a b) W
            have le1 : decide (a ≤ b) = true := decide_eq_true hab
            have le2 : decide (b ≤ s.size) = true := decide_eq_true hb
            go_wp2
            go_ret
            obtain ⟨z1, z2, z3⟩ := bytes_end (a := a) (HS.out.drew_ (nq + 1)) hs hb
            have zf : figTo s a most = b := by unfold figTo; rw [HE.out]; exact figEnd_stop s a most _ b FB.out
            rw [zf]
            exact ⟨_, _, congrArg Ending.returned z1, z2, blk_lt HS.out.1, by rw [Lib.bytesWorld_size]; exact Nat.lt_succ_self _, z3⟩
        · have i3 : decide ((48 : Int) ≤ bt s b) = false := decide_eq_false h3
          have FB : Aside0 (figB s a most b = false) := ⟨by unfold figB; simp; omega⟩
          go_wp2
          go_quiet (fail)
          go_wp2
          refine wp_region_still_tail 10 (by kernel_rfl) (by kernel_rfl) ?_
          simp only [List.take_succ_cons, List.take_zero, List.drop_succ_cons, List.drop_zero]
          change wpStill _ _ ((wr.drewN nq).drew) _ _ _
          repeat still_step
          refine wpStill_nil ?_
          change wpList _ _ _ _ _ ((wr.drewN nq).drew)
          have kb := fun W => print_bytes (P := Tryd.prog) 9 22 5 Tryd.underlying9 Tryd.underlying22 Tryd.underlying5 (s.extract a b) W
          have le1 : decide (a ≤ b) = true := decide_eq_true hab
          have le2 : decide (b ≤ s.size) = true := decide_eq_true hb
          go_wp2
          go_ret
          obtain ⟨z1, z2, z3⟩ := bytes_end (a := a) (HS.out.drew_ (nq + 1)) hs hb
          have zf : figTo s a most = b := by unfold figTo; rw [HE.out]; exact figEnd_stop s a most _ b FB.out
          rw [zf]
          exact ⟨_, _, congrArg Ending.returned z1, z2, blk_lt HS.out.1, by rw [Lib.bytesWorld_size]; exact Nat.lt_succ_self _, z3⟩
      · have i2 : decide ((b : Int) - (a : Int) < (most : Int)) = false := decide_eq_false (by omega)
        have FB : Aside0 (figB s a most b = false) := ⟨by unfold figB; simp; omega⟩
        go_wp2
        go_quiet (fail)
        go_wp2
        refine wp_region_still_tail 10 (by kernel_rfl) (by kernel_rfl) ?_
        simp only [List.take_succ_cons, List.take_zero, List.drop_succ_cons, List.drop_zero]
        change wpStill _ _ ((wr.drewN nq).drew) _ _ _
        repeat still_step
        refine wpStill_nil ?_
        change wpList _ _ _ _ _ ((wr.drewN nq).drew)
        have kb := fun W => print_bytes (P := Tryd.prog) 9 22 5 Tryd.underlying9 Tryd.underlying22 Tryd.underlying5 (s.extract a b) W
        have le1 : decide (a ≤ b) = true := decide_eq_true hab
        have le2 : decide (b ≤ s.size) = true := decide_eq_true hb
        go_wp2
        go_ret
        obtain ⟨z1, z2, z3⟩ := bytes_end (a := a) (HS.out.drew_ (nq + 1)) hs hb
        have zf : figTo s a most = b := by unfold figTo; rw [HE.out]; exact figEnd_stop s a most _ b FB.out
        rw [zf]
        exact ⟨_, _, congrArg Ending.returned z1, z2, blk_lt HS.out.1, by rw [Lib.bytesWorld_size]; exact Nat.lt_succ_self _, z3⟩
    · have g1 : decide ((b : Int) < (s.size : Int)) = false := decide_eq_false (by omega)
      have g2 : decide (b < s.size) = false := decide_eq_false h1
      have FB : Aside0 (figB s a most b = false) := ⟨by unfold figB; simp; omega⟩
      go_wp2
      go_quiet (fail)
      go_wp2
      refine wp_region_still_tail 10 (by kernel_rfl) (by kernel_rfl) ?_
      simp only [List.take_succ_cons, List.take_zero, List.drop_succ_cons, List.drop_zero]
      change wpStill _ _ ((wr.drewN nq).drew) _ _ _
      repeat still_step
      refine wpStill_nil ?_
      change wpList _ _ _ _ _ ((wr.drewN nq).drew)
      have kb := fun W => print_bytes (P := Tryd.prog) 9 22 5 Tryd.underlying9 Tryd.underlying22 Tryd.underlying5 (s.extract a b) W
      have le1 : decide (a ≤ b) = true := decide_eq_true hab
      have le2 : decide (b ≤ s.size) = true := decide_eq_true hb
      go_wp2
      go_ret
      obtain ⟨z1, z2, z3⟩ := bytes_end (a := a) (HS.out.drew_ (nq + 1)) hs hb
      have zf : figTo s a most = b := by unfold figTo; rw [HE.out]; exact figEnd_stop s a most _ b FB.out
      rw [zf]
      exact ⟨_, _, congrArg Ending.returned z1, z2, blk_lt HS.out.1, by rw [Lib.bytesWorld_size]; exact Nat.lt_succ_self _, z3⟩
end Go.Proofs.YtahkamggdbibiaaDoor.PZ
namespace Go.Proofs.YtahkamggdbibiaaDoor.PZ
open Go.RowKit Go.Proofs.YtahkamggdbibiaaDoorW.PrintWords Go.Proofs.YtahkamggdbibiaaDoorW.PrintLast

theorem readByteInfo : (Tryd.prog.info? 5).map (fun i => (i.zero, i.size, i.bytes)) = some (some (.int .u8 0), 1, 1) := by kernel_rfl
/-- A figure's number. -/
def figOf (c : Int) : Int := (c - 48) % 256
def numB (s : ByteArray) (a : Nat) : Bool := hasB s a 48 || decide (a < figTo s a 1000)
def numD (s : ByteArray) (a : Nat) : List Int := if hasB s a 48 then [] else (bytesAt s a (figTo s a 1000)).map figOf
def numAt (s : ByteArray) (a : Nat) : Nat := if hasB s a 48 then a + 1 else figTo s a 1000

theorem RSt.nil_ok {ok : Nat → Prop} {w W : World} {neg : Bool} {e : Int} {s : ByteArray} {a : Nat} (h : RSt ok w W neg [] e s a (.slice none 0 0)) (ok' : Nat → Prop) : RSt ok' w W neg [] e s a (.slice none 0 0) := ⟨h.1, Kd.R_nil _ _ _ _ _, h.2.2⟩
theorem RSt.ok_ {ok ok' : Nat → Prop} {w W : World} {neg : Bool} {l : List Int} {e : Int} {s : ByteArray} {a : Nat} {v : Value} (h : RSt ok w W neg l e s a v) (hok : ∀ k, ok k → ok' k) : RSt ok' w W neg l e s a v := ⟨h.1, Kd.R_mono h.2.1 (fun k hk => ⟨hk.1, hok k hk.2⟩), h.2.2⟩
theorem take_succ_rdn (l : List Int) (k : Nat) (h : k < l.length) : l.take (k + 1) = l.take k ++ [rd l (k : Int)] := by
  rw [List.take_succ_eq_append_getElem h]
  congr 2
  simp [rd, List.getD_eq_getElem?_getD, List.getElem?_eq_getElem h]
theorem number_fresh {w w2 W : World} {neg : Bool} {l : List Int} {e : Int} {s : ByteArray} {a b0 : Nat} {v : Value} (h : RSt (fun k => k ≠ b0) w W neg l e s a v) (hE : W.heap[b0]? = w2.heap[b0]?) (hb : b0 < w2.heap.size) (k : Nat) (hk : W.heap.size ≤ k) : k ≠ w.heap.size ∧ k ≠ b0 := by
  have h1 := blk_lt h.1
  have h2 : b0 < W.heap.size := by
    rw [Array.getElem?_eq_getElem hb] at hE
    exact (Array.getElem?_eq_some_iff.1 hE).1
  omega
theorem number_kept {w W w3 : World} {neg : Bool} {l : List Int} {e : Int} {s : ByteArray} {a b0 : Nat} {v : Value} (h : RSt (fun k => k ≠ b0) w W neg l e s a v) (hg : W.grownBy w3 v.ownBlock) :
    w3.heap[w.heap.size]? = some (.cells #[.bool neg, v, .int .i64 e, .string s, .int .i64 a] 53 (0, 0)) :=
  (hg.block _ (blk_lt h.1) (fun e => (h.2.1.1 _ e.symm).1 rfl)).trans h.1
theorem number_step {w W w3 : World} {neg : Bool} {l l' : List Int} {e : Int} {s : ByteArray} {a b0 : Nat} {v v2 : Value} (h : RSt (fun k => k ≠ b0) w W neg l e s a v) (hg : W.grownBy w3 v.ownBlock) (ho : Kd.R (Kd.int .u8) 5 w3 w.heap.size (fun k => k ≠ w.heap.size ∧ k ≠ b0) v2 l') (hb : Below w.heap.size w w3) :
    RSt (fun k => k ≠ b0) w (w3.setCell ⟨w.heap.size, 1, none⟩ v2) neg l' e s a v2 :=
  ⟨blk_put (cs := #[.bool neg, v, .int .i64 e, .string s, .int .i64 a]) (number_kept h hg) 1 _ rfl, Kd.R_far ho (fun k hk => hk.1) _, Below.setCell hb (by simp) _⟩
theorem number_other {w W w2 w3 : World} {neg : Bool} {l : List Int} {e : Int} {s : ByteArray} {a b0 : Nat} {v : Value} (h : RSt (fun k => k ≠ b0) w W neg l e s a v) (hg : W.grownBy w3 v.ownBlock) (hb : b0 < w2.heap.size) (hE : W.heap[b0]? = w2.heap[b0]?) (h1 : w.heap.size < b0) (v2 : Value) :
    (w3.setCell ⟨w.heap.size, 1, none⟩ v2).heap[b0]? = w2.heap[b0]? := by
  have h2 : b0 < W.heap.size := by
    have hE' := hE
    rw [Array.getElem?_eq_getElem hb] at hE'
    exact (Array.getElem?_eq_some_iff.1 hE').1
  rw [Below.heap_setCell _ _ _ _ (by simp; omega), hg.block _ h2 (fun e => (h.2.1.1 _ e.symm).2 rfl)]
  exact hE
set_option maxHeartbeats 2000000 in
set_option maxRecDepth 100000 in
theorem reader_number (w W : World) (neg : Bool) (e : Int) (s : ByteArray) (a : Nat) (h : RSt (fun _ => True) w W neg [] e s a (.slice none 0 0)) (ha : a ≤ s.size) (hs : s.size ≤ 140737488351232) :
    Calls Tryd.prog 26 #[.pointer (some ⟨w.heap.size, 0, none⟩)] W fun en W' => ∃ v1, en = .returned (.bool (numB s a)) ∧ RSt (fun _ => True) w W' neg (numD s a) e s (numAt s a) v1 := by
  by_cases h0 : hasB s a 48 = true
  · have hc := reader_has (fun _ => True) w W neg [] e s a _ 48 h ha hs
    rw [h0] at hc
    have e1 : numB s a = true := by unfold numB; simp [h0]
    have e2 : numD s a = [] := by unfold numD; simp [h0]
    have e3 : numAt s a = a + 1 := by unfold numAt; simp [h0]
    rw [e1, e2, e3]
    simp only [if_true] at hc
    clear h e1 e2 e3 h0
    go_enter Tryd.func26, Tryd.ntmps26
    go_wp2_with (go_at_call 25; refine hc.mono ?_; rintro en w1 ⟨rfl, h1⟩; have H1 := Aside0.mk h1; clear h1)
    go_ret
    exact ⟨_, rfl, H1.out⟩
  · have h0' : hasB s a 48 = false := by simpa using h0
    have hc := reader_has (fun _ => True) w W neg [] e s a _ 48 h ha hs
    rw [h0'] at hc
    have e1 : numB s a = decide (a < figTo s a 1000) := by unfold numB; simp [h0']
    have e2 : numD s a = (bytesAt s a (figTo s a 1000)).map figOf := by unfold numD; simp [h0']
    have e3 : numAt s a = figTo s a 1000 := by unfold numAt; simp [h0']
    obtain ⟨q, hq⟩ : ∃ q, q = bytesAt s a (figTo s a 1000) := ⟨_, rfl⟩
    have hql : q.length = figTo s a 1000 - a := by rw [hq]; exact bytesAt_len s a _ (figEnd_le s a 1000 _ a ha)
    have hqm : q.length ≤ 140737488351232 := by rw [hql]; have := figEnd_le s a 1000 s.size a ha; unfold figTo; omega
    have hqd : decide (a < figTo s a 1000) = decide (0 < q.length) := by rw [hql]; congr 1; simp only [eq_iff_iff]; omega
    have hf : ∀ W1, RSt (fun _ => True) w W1 neg [] e s a (.slice none 0 0) → Calls Tryd.prog 42 #[.pointer (some ⟨w.heap.size, 0, none⟩), .int .i64 1000] W1 fun en W' => ∃ b0 c, en = .returned (.slice (some ⟨b0, 0, none⟩) q.length c) ∧ Kd.C (Kd.int .u8) W' (some ⟨b0, 0, none⟩) q.length q ∧ w.heap.size < b0 ∧ b0 < W'.heap.size ∧ RSt (fun _ => True) w W' neg [] e s (figTo s a 1000) (.slice none 0 0) := by
      intro W1 h1
      rw [hq]
      exact reader_figures (fun _ => True) w W1 neg [] e s a _ 1000 h1 ha hs
    rw [e1, e2, e3, hqd, ← hq]
    simp only [Bool.false_eq_true, if_false] at hc
    have HQ := Aside0.mk hql
    clear h e1 e2 e3 h0 h0' hq hql hqd
    generalize hto : figTo s a 1000 = to_ at hf HQ ⊢
    have HTO := Aside0.mk hto
    clear hto
    go_enter Tryd.func26, Tryd.ntmps26
    go_wp2_with (first
      | (go_at_call 25; refine hc.mono ?_; rintro en w1 ⟨rfl, h1⟩; have H1 := Aside0.mk h1; clear h1)
      | (go_at_call 42; refine (hf _ H1.out).mono ?_; rintro en w2 ⟨b0, c0, rfl, hC, hb1, hb2, h2⟩; have HC := Aside0.mk hC; have H2 := Aside0.mk (h2.nil_ok (fun k => k ≠ b0)); clear hC h2))
    clear hc H1 hf
    go_loopg [12] q.length (fun gg s12 wr => ∃ k : Nat, ∃ v1, k ≤ q.length ∧ q.length - k ≤ gg ∧ s12 = .int .i64 k ∧ Aside0 (RSt (fun k => k ≠ b0) w wr neg ((q.take k).map figOf) e s (to_) v1) ∧ Aside0 (wr.heap[b0]? = w2.heap[b0]?))
    case atStart => exact ⟨0, _, Nat.zero_le _, by omega, rfl, H2, ⟨rfl⟩⟩
    case round =>
      obtain ⟨k, v1, hk, hg, rfl, HS, HE⟩ := hrel
      have cD : wr.cell? ⟨w.heap.size, 1, none⟩ = some v1 := (blk_cell HS.out.1 1).trans rfl
      by_cases hlt : k < q.length
      · have hlt1 := decide_eq_true hlt
        obtain ⟨ad, e1, hcell⟩ := Kd.at_int HC.out (k : Int) (by omega) (by omega)
        cases e1
        simp only [Int.toNat_natCast] at hcell
        rw [add_plain] at hcell
        replace hcell : wr.cell? ⟨b0, k, none⟩ = some (.int .u8 (rd q (k : Int))) := (World.cell?_of_block (w := w2) HE.out).trans hcell
        generalize hy : rd q (k : Int) = y at hcell
        have Y := Aside0.mk hy
        clear hy
        go_wp2_with (at_builtin; refine Kd.R_append (Kd.int .u8) (w0 := w) w.heap.size rfl (.tmp 21) (.tmp 24) 22 5 (.int .u8 0) 1 rfl Tryd.underlying22 readByteInfo rfl (by decide) (by omega) v1 ((q.take k).map figOf) (figOf y) [.int .u8 (figOf y)] (fun k => k ≠ w.heap.size ∧ k ≠ b0) (fun _ => False) rfl rfl rfl (fun _ h => h.elim) (fun k hk => number_fresh HS.out HE.out hb2 k hk) HS.out.2.1 HS.out.2.2 HS.out.2.2.size (by simp; omega) ?_; intro v2 w3 ho hb3 hg3 hat3; obtain ⟨A2, c2, e2⟩ := Kd.R_slice ho; subst e2; have f3 := number_kept HS.out hg3; have c13 : w3.cell? ⟨w.heap.size, 1, none⟩ = some v1 := (blk_cell f3 1).trans rfl; have fr3 := blk_frozen f3 1; have HS3 := Aside0.mk (number_step HS.out hg3 ho hb3); have HE3 := Aside0.mk (number_other HS.out hg3 hb2 HE.out hb1 (.slice A2 ((q.take k).map figOf ++ [figOf y]).length c2)); clear ho hb3 hg3 hat3 f3)
        go_roundg (q.length - (k + 1))
        case measure => omega
        case rel =>
          have hln : ((q.take k).map figOf ++ [figOf y]).length = k + 1 := by simp; omega
          rw [hln] at HS3 HE3
          exact ⟨k + 1, _, by omega, by omega, by go_num, ⟨by rw [take_succ_rdn _ _ hlt, Y.out, List.map_append]; exact HS3.out⟩, HE3⟩
      · have : k = q.length := by omega
        subst this
        have hlt1 := decide_eq_false hlt
        go_wp2
        go_ret
        exact ⟨v1, rfl, by rw [List.take_length] at HS; exact HS.out.ok_ (fun _ _ => trivial)⟩
end Go.Proofs.YtahkamggdbibiaaDoor.PZ
namespace Go.Proofs.YtahkamggdbibiaaDoor.PZ
open Go.RowKit Go.Proofs.YtahkamggdbibiaaDoorW.PrintWords Go.Proofs.YtahkamggdbibiaaDoorW.PrintLast

/-- A power's figures, one behind the other; yes: it was too far. -/
def powLoop : List Int → Int → Int × Bool
  | [], e => (e, false)
  | c :: q, e => if e * 10 + figOf c > 1000 then (e, true) else powLoop q (e * 10 + figOf c)
def powFr (s : ByteArray) (a : Nat) : Nat := if hasB s a 45 then a + 1 else a
def powQ (s : ByteArray) (a : Nat) : Int × Bool := powLoop (bytesAt s (powFr s a) (figTo s (powFr s a) 4)) 0
def powE (s : ByteArray) (a : Nat) : Int := if hasB s a 45 then -(powQ s a).1 else (powQ s a).1
def powAt (s : ByteArray) (a : Nat) : Nat := if (powQ s a).2 then powFr s a + 3 else figTo s (powFr s a) 4
theorem RSt.e_ {ok : Nat → Prop} {w W : World} {neg : Bool} {l : List Int} {e : Int} {s : ByteArray} {a : Nat} {v : Value} (h : RSt ok w W neg l e s a v) (x : Int) :
    RSt ok w (W.setCell ⟨w.heap.size, 2, none⟩ (.int .i64 x)) neg l x s a v :=
  ⟨blk_put (cs := #[.bool neg, v, .int .i64 e, .string s, .int .i64 a]) h.1 2 _ rfl, Kd.R_far h.2.1 (fun k hk => hk.1) _, Below.setCell h.2.2 (by simp) _⟩
theorem RSt.a_ {ok : Nat → Prop} {w W : World} {neg : Bool} {l : List Int} {e : Int} {s : ByteArray} {a : Nat} {v : Value} (h : RSt ok w W neg l e s a v) (x : Nat) :
    RSt ok w (W.setCell ⟨w.heap.size, 4, none⟩ (.int .i64 (x : Int))) neg l e s x v :=
  ⟨blk_put (cs := #[.bool neg, v, .int .i64 e, .string s, .int .i64 a]) h.1 4 _ rfl, Kd.R_far h.2.1 (fun k hk => hk.1) _, Below.setCell h.2.2 (by simp) _⟩
theorem RSt.n_ {ok : Nat → Prop} {w W : World} {neg : Bool} {l : List Int} {e : Int} {s : ByteArray} {a : Nat} {v : Value} (h : RSt ok w W neg l e s a v) (x : Bool) :
    RSt ok w (W.setCell ⟨w.heap.size, 0, none⟩ (.bool x)) x l e s a v :=
  ⟨blk_put (cs := #[.bool neg, v, .int .i64 e, .string s, .int .i64 a]) h.1 0 _ rfl, Kd.R_far h.2.1 (fun k hk => hk.1) _, Below.setCell h.2.2 (by simp) _⟩

set_option maxHeartbeats 2000000 in
set_option maxRecDepth 100000 in
/-- Nought: just a 0. -/
theorem reader_power_nought (ok : Nat → Prop) (w W : World) (neg : Bool) (l : List Int) (s : ByteArray) (a : Nat) (A : Option Addr) (c : Nat) (h : RSt ok w W neg l 0 s a (.slice A l.length c)) (ha : a ≤ s.size) (hs : s.size ≤ 140737488351232) (h0 : l.length = 0 ∨ hasB s a 48 = true) :
    Calls Tryd.prog 27 #[.pointer (some ⟨w.heap.size, 0, none⟩)] W fun en W' => en = .returned (.bool (hasB s a 48)) ∧ RSt ok w W' neg l 0 s (if hasB s a 48 then a + 1 else a) (.slice A l.length c) := by
  have H := Aside0.mk h
  have c1 : W.cell? ⟨w.heap.size, 1, none⟩ = some (.slice A l.length c) := (blk_cell h.1 1).trans rfl
  have c3 : W.cell? ⟨w.heap.size, 3, none⟩ = some (.string s) := (blk_cell h.1 3).trans rfl
  have c4 : W.cell? ⟨w.heap.size, 4, none⟩ = some (.int .i64 a) := (blk_cell h.1 4).trans rfl
  have hc := fun n => reader_has ok w (W.drewN n) neg l 0 s a _ 48 (h.drew_ n) ha hs
  clear h
  have hx := bt_nat s a
  have p0 : (0 ≤ (a : Int)) = True := eq_true (by omega)
  by_cases h1 : l.length = 0
  · have g1 : ((l.length : Int) == 0) = true := by simp [h1]
    have g11 : (l.length == 0) = true := by simp [h1]
    clear h0 h1
    generalize (if hasB s a 48 = true then a + 1 else a) = a2 at hc ⊢
    generalize hasB s a 48 = bb at hc ⊢
    go_enter Tryd.func27, Tryd.ntmps27
    go_wp2
    go_quiet (fail)
    go_wp2_with (go_at_call 25; refine (hc _).mono ?_; rintro en w1 ⟨rfl, h1⟩; have H1 := Aside0.mk h1; clear h1)
    go_ret
    exact ⟨rfl, H1.out⟩
  · have h2 : hasB s a 48 = true := h0.resolve_left h1
    have h3 : a < s.size ∧ bt s a = 48 := by unfold hasB at h2; simpa using h2
    obtain ⟨h4, h5⟩ := h3
    have g1 : ((l.length : Int) == 0) = false := by simpa using h1
    have g11 : (l.length == 0) = false := by simpa using h1
    have g2 : decide ((a : Int) < (s.size : Int)) = true := decide_eq_true (by omega)
    have g3 : decide (a < s.size) = true := decide_eq_true h4
    have g4 : (a < s.size) = True := eq_true h4
    have g41 : ((a : Int) < (s.size : Int)) = True := eq_true (by omega)
    have g5 : (bt s a == 48) = true := by simp [h5]
    clear h0 h1 h2 h5
    generalize (if hasB s a 48 = true then a + 1 else a) = a2 at hc ⊢
    generalize hasB s a 48 = bb at hc ⊢
    go_enter Tryd.func27, Tryd.ntmps27
    go_wp2
    go_quiet (fail)
    go_wp2_with (go_at_call 25; refine (hc _).mono ?_; rintro en w1 ⟨rfl, h1⟩; have H1 := Aside0.mk h1; clear h1)
    go_ret
    exact ⟨rfl, H1.out⟩

theorem bne_dec (e : Int) : (e != 0) = decide (e ≠ 0) := by by_cases h : e = 0 <;> simp [h]
theorem rd_drop_cons2 (l : List Int) (k : Nat) (hk : k < l.length) : l.drop k = rd l (k : Int) :: l.drop (k + 1) := by
  rw [List.drop_eq_getElem_cons hk]
  congr 1
  simp [rd, List.getD_eq_getElem?_getD, List.getElem?_eq_getElem hk]
/-- Where a power's loop stands: k figures on. -/
def PowInv (ok : Nat → Prop) (w : World) (neg : Bool) (l : List Int) (s : ByteArray) (to_ : Nat) (v : Value) (q : List Int) (W2 : World) (b0 : Nat) (k : Nat) (e : Int) (wr : World) : Prop :=
  RSt ok w wr neg l e s to_ v ∧ 0 ≤ e ∧ e ≤ 1000 ∧ powLoop q 0 = powLoop (q.drop k) e ∧ wr.heap[b0]? = W2.heap[b0]?
set_option maxHeartbeats 4000000 in
set_option maxRecDepth 100000 in
theorem reader_power_some (ok : Nat → Prop) (w W : World) (neg : Bool) (l : List Int) (s : ByteArray) (a : Nat) (A : Option Addr) (c : Nat) (h : RSt ok w W neg l 0 s a (.slice A l.length c)) (ha : a ≤ s.size) (hs : s.size ≤ 140737488351232) (h0 : l.length ≠ 0) (h1 : hasB s a 48 = false) :
    Calls Tryd.prog 27 #[.pointer (some ⟨w.heap.size, 0, none⟩)] W fun en W' => en = .returned (.bool (decide (powE s a ≠ 0))) ∧ RSt ok w W' neg l (powE s a) s (powAt s a) (.slice A l.length c) := by
  have H := Aside0.mk h
  have c1 : W.cell? ⟨w.heap.size, 1, none⟩ = some (.slice A l.length c) := (blk_cell h.1 1).trans rfl
  have c3 : W.cell? ⟨w.heap.size, 3, none⟩ = some (.string s) := (blk_cell h.1 3).trans rfl
  have c4 : W.cell? ⟨w.heap.size, 4, none⟩ = some (.int .i64 a) := (blk_cell h.1 4).trans rfl
  have hc := fun n => reader_has ok w (W.drewN n) neg l 0 s a _ 45 (h.drew_ n) ha hs
  clear h
  have hx := bt_nat s a
  have p0 : (0 ≤ (a : Int)) = True := eq_true (by omega)
  have g1 : ((l.length : Int) == 0) = false := by simpa using h0
  have g11 : (l.length == 0) = false := by simpa using h0
  clear h0
  obtain ⟨fr, hfr⟩ : ∃ fr, fr = powFr s a := ⟨_, rfl⟩
  have hfs : fr ≤ s.size := by
    rw [hfr]; unfold powFr hasB
    split
    · rename_i z; simp at z; omega
    · exact ha
  obtain ⟨q, hq⟩ : ∃ q, q = bytesAt s fr (figTo s fr 4) := ⟨_, rfl⟩
  have hql : q.length = figTo s fr 4 - fr := by rw [hq]; exact bytesAt_len s fr _ (figEnd_le s fr 4 _ fr hfs)
  have hts : figTo s fr 4 ≤ s.size := figEnd_le s fr 4 _ fr hfs
  obtain ⟨to_, hto⟩ : ∃ t, t = figTo s fr 4 := ⟨_, rfl⟩
  have hf : ∀ W1, RSt ok w W1 neg l 0 s fr (.slice A l.length c) → Calls Tryd.prog 42 #[.pointer (some ⟨w.heap.size, 0, none⟩), .int .i64 4] W1 fun en W' => ∃ b0 c0, en = .returned (.slice (some ⟨b0, 0, none⟩) q.length c0) ∧ Kd.C (Kd.int .u8) W' (some ⟨b0, 0, none⟩) q.length q ∧ w.heap.size < b0 ∧ b0 < W'.heap.size ∧ RSt ok w W' neg l 0 s to_ (.slice A l.length c) := by
    intro W1 h1
    rw [hq, hto]
    exact reader_figures ok w W1 neg l 0 s fr _ 4 h1 hfs hs
  obtain ⟨nb, hnb⟩ : ∃ b, b = hasB s a 45 := ⟨_, rfl⟩
  have hc2 : ∀ n, Calls Tryd.prog 25 #[.pointer (some ⟨w.heap.size, 0, none⟩), .int .u8 45] (W.drewN n) fun en W' => en = .returned (.bool nb) ∧ RSt ok w W' neg l 0 s fr (.slice A l.length c) := by
    intro n
    rw [hnb, hfr]
    exact hc n
  have hPQ : powQ s a = powLoop q 0 := by unfold powQ; rw [hq, hfr]
  have hPE : powE s a = if nb then -(powLoop q 0).1 else (powLoop q 0).1 := by unfold powE; rw [hPQ, hnb]
  have hPA : powAt s a = if (powLoop q 0).2 then fr + 3 else to_ := by unfold powAt; rw [hPQ, hto, hfr]
  rw [← hto] at hql hts
  have hfm : fr ≤ 140737488351232 := by omega
  have hqm : q.length ≤ 140737488351232 := by omega
  have G : (decide (a < s.size) = true ∧ (bt s a == 48) = false) ∨ decide (a < s.size) = false := by
    by_cases z : a < s.size
    · refine .inl ⟨decide_eq_true z, ?_⟩
      unfold hasB at h1
      simpa [z] using h1
    · exact .inr (decide_eq_false z)
  generalize powE s a = PE at hPE ⊢
  generalize powAt s a = PA at hPA ⊢
  have HPE := Aside0.mk hPE
  have HPA := Aside0.mk hPA
  clear hPE hPA hPQ hc hfr hq hto hnb h1 hql hts hfs
  have fin : ∀ (e : Int) (bk : Bool) (wr : World) (at_ : Nat), powLoop q 0 = (e, bk) → at_ = (if bk then fr + 3 else to_) → 0 ≤ e → RSt ok w wr neg l (if nb then -e else e) s at_ (.slice A l.length c) → RSt ok w wr neg l PE s PA (.slice A l.length c) ∧ PE = (if nb then -e else e) := by
    intro e bk wr at_ h2 h3 _ h4
    rw [HPE.out, HPA.out, h2]
    exact ⟨by rw [← h3]; exact h4, rfl⟩
  have FIN := Aside0.mk fin
  clear fin HPE HPA
  have stop : ∀ (k : Nat) (e y : Int), powLoop q 0 = powLoop (q.drop k) e → k < q.length → rd q (k : Int) = y → e * 10 + figOf y > 1000 → powLoop q 0 = (e, true) := by
    intro k e y h2 h3 h4 h5
    rw [h2, rd_drop_cons2 q k h3, h4]
    simp only [powLoop]
    rw [if_pos h5]
  have go : ∀ (k : Nat) (e y : Int), powLoop q 0 = powLoop (q.drop k) e → k < q.length → rd q (k : Int) = y → ¬ e * 10 + figOf y > 1000 → powLoop q 0 = powLoop (q.drop (k + 1)) (e * 10 + figOf y) := by
    intro k e y h2 h3 h4 h5
    rw [h2, rd_drop_cons2 q k h3, h4]
    rw [powLoop, if_neg h5]
  have STOP := Aside0.mk stop
  have GO := Aside0.mk go
  clear stop go
  rcases G with ⟨G1, G2⟩ | G1
  · have g3 : decide ((a : Int) < (s.size : Int)) = true := decide_eq_true (by have := of_decide_eq_true G1; omega)
    have g4 : (a < s.size) = True := eq_true (of_decide_eq_true G1)
    have g41 : ((a : Int) < (s.size : Int)) = True := eq_true (by have := of_decide_eq_true G1; omega)
    go_enter Tryd.func27, Tryd.ntmps27
    go_wp2
    go_quiet (fail)
    clear G1 G2 g3 g4 g41 hx p0 g1 g11 c1 c3 c4
    go_wp2_with (first
      | (go_at_call 25; refine (hc2 _).mono ?_; rintro en w1 ⟨rfl, h1⟩; have H1 := Aside0.mk h1; have d4 : w1.cell? ⟨w.heap.size, 4, none⟩ = some (.int .i64 fr) := (blk_cell h1.1 4).trans rfl; clear h1)
      | (go_at_call 42; refine (hf _ H1.out).mono ?_; rintro en w2 ⟨b0, c0, rfl, hC, hb1, hb2, h2⟩; have HC := Aside0.mk hC; have H2 := Aside0.mk h2; clear hC h2 d4 hf hc2 H1))
    go_loopg [50] q.length (fun gg s50 wr => ∃ (k : Nat) (e : Int), k ≤ q.length ∧ q.length - k ≤ gg ∧ s50 = .int .i64 k ∧ Aside0 (PowInv ok w neg l s to_ (.slice A l.length c) q w2 b0 k e wr))
    case atStart => exact ⟨0, 0, Nat.zero_le _, by omega, rfl, ⟨⟨H2.out, by omega, by omega, rfl, rfl⟩⟩⟩
    case round =>
      obtain ⟨k, e, hk, hg, rfl, HI⟩ := hrel
      have he1 := HI.out.2.1
      have he2 := HI.out.2.2.1
      have c2 : wr.cell? ⟨w.heap.size, 2, none⟩ = some (.int .i64 e) := (blk_cell HI.out.1.1 2).trans rfl
      have c4 : wr.cell? ⟨w.heap.size, 4, none⟩ = some (.int .i64 to_) := (blk_cell HI.out.1.1 4).trans rfl
      have f2 := blk_frozen HI.out.1.1 2
      have f4 := blk_frozen HI.out.1.1 4
      by_cases hlt : k < q.length
      · have hlt1 := decide_eq_true hlt
        obtain ⟨ad, e1, hcell⟩ := Kd.at_int HC.out (k : Int) (by omega) (by omega)
        cases e1
        simp only [Int.toNat_natCast] at hcell
        rw [add_plain] at hcell
        replace hcell : wr.cell? ⟨b0, k, none⟩ = some (.int .u8 (rd q (k : Int))) := (World.cell?_of_block (w := w2) HI.out.2.2.2.2).trans hcell
        generalize hy : rd q (k : Int) = y at hcell
        have Y := Aside0.mk hy
        clear hy
        have hf0 : 0 ≤ figOf y := by unfold figOf; omega
        have hf1 : figOf y ≤ 255 := by unfold figOf; omega
        by_cases hn : e * 10 + figOf y > 1000
        · have ST := Aside0.mk (STOP.out k e y HI.out.2.2.2.1 hlt Y.out hn)
          have hn1 : decide ((1000 : Int) < e * 10 + (y - 48) % 256) = true := decide_eq_true hn
          clear hn hf0 hf1
          have ez : (fr : Int) + 4 - 1 = ((fr + 3 : Nat) : Int) := by omega
          have EZ := Aside0.mk ez
          clear ez
          cases nb
          · go_wp2
            go_ret
            have z := FIN.out e true _ (fr + 3) ST.out rfl he1 (HI.out.1.a_ (fr + 3))
            rw [← EZ.out] at z
            exact ⟨by rw [z.2]; exact congrArg (fun b => Ending.returned (.bool b)) (bne_dec e), z.1⟩
          · go_wp2
            go_ret
            have z := FIN.out e true _ (fr + 3) ST.out rfl he1 ((HI.out.1.a_ (fr + 3)).e_ (-e))
            rw [← EZ.out] at z
            exact ⟨by rw [z.2]; show Ending.returned (.bool (-e != 0)) = _; rw [bne_dec]; simp, z.1⟩
        · have hn1 : decide ((1000 : Int) < e * 10 + (y - 48) % 256) = false := decide_eq_false hn
          have ST := Aside0.mk (GO.out k e y HI.out.2.2.2.1 hlt Y.out (by omega))
          have B1 : Aside0 (0 ≤ e * 10 + figOf y ∧ e * 10 + figOf y ≤ 1000) := ⟨by omega, by omega⟩
          clear hn hf0 hf1
          go_wp2
          go_roundg (q.length - (k + 1))
          case measure => omega
          case rel => exact ⟨k + 1, e * 10 + figOf y, by omega, by omega, by go_num, ⟨HI.out.1.e_ _, B1.out.1, B1.out.2, ST.out, (Below.heap_setCell _ _ _ _ (by simp; omega)).trans HI.out.2.2.2.2⟩⟩
      · have : k = q.length := by omega
        subst this
        have hlt1 := decide_eq_false hlt
        have ST : Aside0 (powLoop q 0 = (e, false)) := ⟨by rw [HI.out.2.2.2.1, List.drop_length]; rfl⟩
        cases nb
        · go_wp2
          go_ret
          have z := FIN.out e false _ to_ ST.out rfl he1 HI.out.1
          exact ⟨by rw [z.2]; exact congrArg (fun b => Ending.returned (.bool b)) (bne_dec e), z.1⟩
        · go_wp2
          go_ret
          have z := FIN.out e false _ to_ ST.out rfl he1 (HI.out.1.e_ (-e))
          exact ⟨by rw [z.2]; show Ending.returned (.bool (-e != 0)) = _; rw [bne_dec]; simp, z.1⟩
  · have g3 : decide ((a : Int) < (s.size : Int)) = false := decide_eq_false (by have := of_decide_eq_false G1; omega)
    go_enter Tryd.func27, Tryd.ntmps27
    go_wp2
    go_quiet (fail)
    clear G1 g3 hx p0 g1 g11 c1 c3 c4
    go_wp2_with (first
      | (go_at_call 25; refine (hc2 _).mono ?_; rintro en w1 ⟨rfl, h1⟩; have H1 := Aside0.mk h1; have d4 : w1.cell? ⟨w.heap.size, 4, none⟩ = some (.int .i64 fr) := (blk_cell h1.1 4).trans rfl; clear h1)
      | (go_at_call 42; refine (hf _ H1.out).mono ?_; rintro en w2 ⟨b0, c0, rfl, hC, hb1, hb2, h2⟩; have HC := Aside0.mk hC; have H2 := Aside0.mk h2; clear hC h2 d4 hf hc2 H1))
    go_loopg [50] q.length (fun gg s50 wr => ∃ (k : Nat) (e : Int), k ≤ q.length ∧ q.length - k ≤ gg ∧ s50 = .int .i64 k ∧ Aside0 (PowInv ok w neg l s to_ (.slice A l.length c) q w2 b0 k e wr))
    case atStart => exact ⟨0, 0, Nat.zero_le _, by omega, rfl, ⟨⟨H2.out, by omega, by omega, rfl, rfl⟩⟩⟩
    case round =>
      obtain ⟨k, e, hk, hg, rfl, HI⟩ := hrel
      have he1 := HI.out.2.1
      have he2 := HI.out.2.2.1
      have c2 : wr.cell? ⟨w.heap.size, 2, none⟩ = some (.int .i64 e) := (blk_cell HI.out.1.1 2).trans rfl
      have c4 : wr.cell? ⟨w.heap.size, 4, none⟩ = some (.int .i64 to_) := (blk_cell HI.out.1.1 4).trans rfl
      have f2 := blk_frozen HI.out.1.1 2
      have f4 := blk_frozen HI.out.1.1 4
      by_cases hlt : k < q.length
      · have hlt1 := decide_eq_true hlt
        obtain ⟨ad, e1, hcell⟩ := Kd.at_int HC.out (k : Int) (by omega) (by omega)
        cases e1
        simp only [Int.toNat_natCast] at hcell
        rw [add_plain] at hcell
        replace hcell : wr.cell? ⟨b0, k, none⟩ = some (.int .u8 (rd q (k : Int))) := (World.cell?_of_block (w := w2) HI.out.2.2.2.2).trans hcell
        generalize hy : rd q (k : Int) = y at hcell
        have Y := Aside0.mk hy
        clear hy
        have hf0 : 0 ≤ figOf y := by unfold figOf; omega
        have hf1 : figOf y ≤ 255 := by unfold figOf; omega
        by_cases hn : e * 10 + figOf y > 1000
        · have ST := Aside0.mk (STOP.out k e y HI.out.2.2.2.1 hlt Y.out hn)
          have hn1 : decide ((1000 : Int) < e * 10 + (y - 48) % 256) = true := decide_eq_true hn
          clear hn hf0 hf1
          have ez : (fr : Int) + 4 - 1 = ((fr + 3 : Nat) : Int) := by omega
          have EZ := Aside0.mk ez
          clear ez
          cases nb
          · go_wp2
            go_ret
            have z := FIN.out e true _ (fr + 3) ST.out rfl he1 (HI.out.1.a_ (fr + 3))
            rw [← EZ.out] at z
            exact ⟨by rw [z.2]; exact congrArg (fun b => Ending.returned (.bool b)) (bne_dec e), z.1⟩
          · go_wp2
            go_ret
            have z := FIN.out e true _ (fr + 3) ST.out rfl he1 ((HI.out.1.a_ (fr + 3)).e_ (-e))
            rw [← EZ.out] at z
            exact ⟨by rw [z.2]; show Ending.returned (.bool (-e != 0)) = _; rw [bne_dec]; simp, z.1⟩
        · have hn1 : decide ((1000 : Int) < e * 10 + (y - 48) % 256) = false := decide_eq_false hn
          have ST := Aside0.mk (GO.out k e y HI.out.2.2.2.1 hlt Y.out (by omega))
          have B1 : Aside0 (0 ≤ e * 10 + figOf y ∧ e * 10 + figOf y ≤ 1000) := ⟨by omega, by omega⟩
          clear hn hf0 hf1
          go_wp2
          go_roundg (q.length - (k + 1))
          case measure => omega
          case rel => exact ⟨k + 1, e * 10 + figOf y, by omega, by omega, by go_num, ⟨HI.out.1.e_ _, B1.out.1, B1.out.2, ST.out, (Below.heap_setCell _ _ _ _ (by simp; omega)).trans HI.out.2.2.2.2⟩⟩
      · have : k = q.length := by omega
        subst this
        have hlt1 := decide_eq_false hlt
        have ST : Aside0 (powLoop q 0 = (e, false)) := ⟨by rw [HI.out.2.2.2.1, List.drop_length]; rfl⟩
        cases nb
        · go_wp2
          go_ret
          have z := FIN.out e false _ to_ ST.out rfl he1 HI.out.1
          exact ⟨by rw [z.2]; exact congrArg (fun b => Ending.returned (.bool b)) (bne_dec e), z.1⟩
        · go_wp2
          go_ret
          have z := FIN.out e false _ to_ ST.out rfl he1 (HI.out.1.e_ (-e))
          exact ⟨by rw [z.2]; show Ending.returned (.bool (-e != 0)) = _; rw [bne_dec]; simp, z.1⟩
end Go.Proofs.YtahkamggdbibiaaDoor.PZ
