/- dec.Text: the text that it answers.
   Conditions: at most a million figures; the laid table of powers of ten reads. -/
import Derived.Test.YtahkamggdbibiaaDoorPZx0
import Derived.Test.YtahkamggdbibiaaDoorBuilder
import Derived.Lib.ItoaLen
import Derived.Lib.AppendIntMem
namespace Go.Proofs.YtahkamggdbibiaaDoor.PZ
open Go.RowKit Go.Proofs.YtahkamggdbibiaaDoorW.PrintWords Go.Proofs.YtahkamggdbibiaaDoorW.PrintLast

/-- A figure's sign. -/
def figByte (c : Int) : UInt8 := UInt8.ofNat ((48 + c) % 256).toNat
theorem figByte_cell (c : Int) : Value.int .u8 ((figByte c).toNat : Int) = Value.int .u8 ((48 + c) % 256) := by
  unfold figByte
  congr 1
  have h1 : 0 ≤ (48 + c) % 256 := by omega
  have h2 : (48 + c) % 256 < 256 := by omega
  have : ((48 + c) % 256).toNat < 256 := by omega
  simp [UInt8.toNat_ofNat']
  omega
/-- The bytes of a number's text. -/
def decText (neg : Bool) (l : List Int) (e : Int) : List UInt8 :=
  (((if neg then [45] else []) ++ l.map figByte) ++ (if l.length = 0 then [48] else [])) ++ ([101] ++ Lib.itoa e)
def dec_Text.f (a0 : Bool) (l1 : List Int) (a2 : Int) : Option ByteArray := if l1.length ≤ 1000000 ∧ -9223372036854775808 ≤ a2 ∧ a2 ≤ 9223372036854775807 then some ⟨(decText a0 l1 a2).toArray⟩ else none
/-- A builder of the call's own that holds these bytes; elder blocks are as they were. -/
def TextSt (w : World) (W0 W : World) (l : List UInt8) : Prop :=
  Lib.IsBuilder 60 5 (w.heap.size + 1) (w.heap.size + 1) (Lib.byteCells l) W ∧ Below (w.heap.size + 1) W0 W ∧ w.heap.size + 2 ≤ W.heap.size
theorem textByte {w W0 W : World} {l : List UInt8} (h : TextSt w W0 W l) (c : Int) (x : UInt8) (hx : Value.int .u8 (x.toNat : Int) = Value.int .u8 c) (hl : l.length ≤ 2000000) :
    Calls Tryd.prog 30 #[.pointer (some ⟨w.heap.size + 1, 0, none⟩), .int .u8 c] W fun e w' => e = .returned .nilIface ∧ TextSt w W0 w' (l ++ [x]) := by
  obtain ⟨h1, h2, h3⟩ := h
  refine (builder_WriteByte _ _ _ c W h1 (by rw [Lib.byteCells_length]; omega) (by omega)).mono ?_
  rintro e w' ⟨rfl, h4, h5⟩
  refine ⟨rfl, .inr ?_, h2.trans h5, Nat.le_trans h3 h5.size⟩
  rw [Lib.byteCells_append]
  simpa [Lib.byteCells, ← hx] using h4
theorem textString {w W0 W : World} {l : List UInt8} (h : TextSt w W0 W l) (s : ByteArray) (hl : l.length ≤ 2000000) (hs : s.size ≤ 1000) :
    Calls Tryd.prog 31 #[.pointer (some ⟨w.heap.size + 1, 0, none⟩), .string s] W fun e w' => e = .returned (.tuple #[.int .i64 s.size, .nilIface]) ∧ TextSt w W0 w' (l ++ s.data.toList) := by
  obtain ⟨h1, h2, h3⟩ := h
  refine (builder_WriteString _ _ _ s W h1 (by rw [Lib.byteCells_length]; omega) (by omega)).mono ?_
  rintro e w' ⟨rfl, h4, h5⟩
  refine ⟨rfl, .inr ?_, h2.trans h5, Nat.le_trans h3 h5.size⟩
  rw [Lib.byteCells_append, ← Lib.strCells_eq]
  exact h4
theorem textStart (w : World) (o : Obj) : TextSt w ((w.alloc o).alloc (.cells #[.pointer none, .slice none 0 0] 60)) ((w.alloc o).alloc (.cells #[.pointer none, .slice none 0 0] 60)) [] := by
  refine ⟨.inl ⟨Nat.le_refl _, .slice none 0 0, ?_, own_nil _ _ _ _, by simp [Value.ownBlock]⟩, Below.refl _ _, by simp⟩
  have := heap_alloc_new (w.alloc o) (.cells #[.pointer none, .slice none 0 0] 60)
  simpa using this

theorem textBox {w W : World} {cs : Array Value} {T T2 : TypeId} {cs2 : Array Value} {l : List UInt8} (h : TextSt w ((w.alloc (.cells cs T)).alloc (.cells cs2 T2)) W l) : W.heap[w.heap.size]? = some (.cells cs T (0, 0)) := by
  rw [h.2.1.block _ (by omega), Below.heap_alloc _ _ _ (by simp)]
  exact heap_alloc_new w _
theorem textBelow {w W : World} {o o2 : Obj} {l : List UInt8} (h : TextSt w ((w.alloc o).alloc o2) W l) : Below w.heap.size w W :=
  (((Below.refl _ w).alloc (Nat.le_refl _) _).alloc (by simp) _).trans (h.2.1.mono (by omega))
theorem textMove {w W0 W W1 : World} {l : List UInt8} (h : TextSt w W0 W l) (hb : Below W.heap.size W W1) : TextSt w W0 W1 l := by
  obtain ⟨h1, h2, h3⟩ := h
  refine ⟨?_, h2.trans (hb.mono (by omega)), Nat.le_trans h3 hb.size⟩
  have mv : ∀ p, Lib.BuilderAt 60 5 (w.heap.size + 1) (w.heap.size + 1) p (Lib.byteCells l) W → Lib.BuilderAt 60 5 (w.heap.size + 1) (w.heap.size + 1) p (Lib.byteCells l) W1 := by
    rintro p ⟨hB, v, hbk, hown, hne⟩
    exact ⟨hB, v, (hb.block _ (by omega)).trans hbk, pw_own_below hown hb, hne⟩
  exact h1.imp (mv _) (mv _)
theorem textItoa {w W0 W : World} {l : List UInt8} (h : TextSt w W0 W l) (hG : GL W) (n : Int) (h0 : -9223372036854775808 ≤ n) (h1 : n ≤ 9223372036854775807) :
    Calls Tryd.prog 32 #[.int .i64 n] W fun e w' => e = .returned (.string ⟨(Lib.itoa n).toArray⟩) ∧ TextSt w W0 w' l := by
  refine (Tryd.strconv_Itoa n h0 h1 W hG).mono ?_
  rintro e w' ⟨rfl, k, os, rfl⟩
  exact ⟨rfl, textMove h (Lib.below_grow _ W (Nat.le_refl _) k os)⟩
theorem textEnd {w W0 W : World} {l : List UInt8} (h : TextSt w W0 W l) (h0 : l ≠ []) :
    Calls Tryd.prog 33 #[.pointer (some ⟨w.heap.size + 1, 0, none⟩)] W fun e w' => e = .returned (.string ⟨l.toArray⟩) ∧ Below (w.heap.size + 1) W0 w' := by
  refine (Tryd.Builder_String _ _ l W h.1 h0).mono ?_
  rintro e w' ⟨rfl, h4⟩
  exact ⟨rfl, h.2.1.trans h4⟩

theorem take_succ_rd (l : List Int) (k : Nat) (h : k < l.length) : l.take (k + 1) = l.take k ++ [rd l (k : Int)] := by
  rw [List.take_succ_eq_append_getElem h]
  congr 2
  simp [rd, List.getD_eq_getElem?_getD, List.getElem?_eq_getElem h]

set_option maxHeartbeats 1000000 in
theorem dec_Text.calls (a0_0 : Bool) (A0_1 : Option Addr) (c0_1 : Nat) (l0_1 : List Int) (a0_2 : Int) (r : ByteArray) (w : World) (hG : GL w) (hr0_1 : Kd.C (Kd.int .u8) w A0_1 l0_1.length l0_1) (_hc0_1 : l0_1.length ≤ c0_1) (h : dec_Text.f a0_0 l0_1 a0_2 = some r) :
    Calls Tryd.prog 15 #[.agg #[.bool a0_0, .slice A0_1 l0_1.length c0_1, .int .i64 a0_2]] w fun e w' => e = .returned (.string r) ∧ Below w.heap.size w w' := by
  simp only [dec_Text.f] at h
  by_cases hh : l0_1.length ≤ 1000000 ∧ -9223372036854775808 ≤ a0_2 ∧ a0_2 ≤ 9223372036854775807
  · rw [if_pos hh] at h
    obtain rfl := Option.some.inj h
    obtain ⟨hl, he1, he2⟩ := hh
    clear h _hc0_1
    have HR := Aside0.mk hr0_1
    have HG := Aside0.mk hG
    clear hr0_1 hG
    have ST := Aside0.mk (textStart w (.cells #[.bool a0_0, .slice A0_1 l0_1.length c0_1, .int .i64 a0_2] 24))
    cases a0_0
    · go_enter Tryd.func15, Tryd.ntmps15
      go_wp2
      go_loopw [12] (fun i wr => ∃ k : Nat, k ≤ l0_1.length ∧ i = .int .i64 k ∧ Aside0 (TextSt w ((w.alloc (.cells #[.bool false, .slice A0_1 l0_1.length c0_1, .int .i64 a0_2] 24)).alloc (.cells #[.pointer none, .slice none 0 0] 60)) wr ([] ++ (l0_1.take k).map figByte))) (fun i _ => l0_1.length - (intOf i).toNat)
      case atStart => exact ⟨0, Nat.zero_le _, rfl, ST⟩
      case round =>
        obtain ⟨k, hk, rfl, HS⟩ := hrel
        by_cases hlt : k < l0_1.length
        · have hlt1 := decide_eq_true hlt
          obtain ⟨ad, e1, hcell⟩ := Kd.at_int HR.out (k : Int) (by omega) (by omega)
          cases e1
          simp only [Int.toNat_natCast] at hcell
          have hbl := World.block_lt_of_cell? w _ hcell
          have hcw : wr.cell? (ad.add k) = some (.int .u8 (rd l0_1 (k : Int))) := by
            exact ((textBelow HS.out).cell hbl).trans hcell
          clear hcell
          have hc1 : wr.cell? ⟨w.heap.size, 1, none⟩ = some (.slice (some ad) l0_1.length c0_1) := (blk_cell (textBox HS.out) 1).trans rfl
          generalize hy : rd l0_1 (k : Int) = y at hcw
          have Y := Aside0.mk hy
          clear hy
          go_wp2_with (go_at_call 30; refine (textByte HS.out _ (figByte y) (figByte_cell y) (by simp; omega)).mono ?_; rintro e w2 ⟨rfl, hs2⟩; have HS2 := Aside0.mk hs2; clear hs2)
          go_roundw
          case rel => exact ⟨k + 1, by omega, by go_num, ⟨by rw [take_succ_rd _ _ hlt, Y.out, List.map_append, ← List.append_assoc]; exact HS2.out⟩⟩
          case measure => simp [intOf]; omega
        · have : k = l0_1.length := by omega
          subst this
          have hlt1 := decide_eq_false hlt
          have hc1 : wr.cell? ⟨w.heap.size, 1, none⟩ = some (.slice A0_1 l0_1.length c0_1) := (blk_cell (textBox HS.out) 1).trans rfl
          have hc2 : wr.cell? ⟨w.heap.size, 2, none⟩ = some (.int .i64 a0_2) := (blk_cell (textBox HS.out) 2).trans rfl
          rw [List.take_length] at HS
          have hil := Lib.itoa_length_le a0_2 he1 he2
          by_cases h0 : l0_1.length = 0
          · have h01 : ((l0_1.length : Int) == 0) = true := by simp [h0]
            have L0 := Aside0.mk h0
            clear h0
            go_wp2_with (first
              | (go_at_call 30; refine (textByte HS.out _ 48 rfl (by simp; omega)).mono ?_; rintro e w2 ⟨rfl, hs2⟩; clear HS; have HS := Aside0.mk hs2; clear hs2; clear hc2; have hc2 : w2.cell? ⟨w.heap.size, 2, none⟩ = some (.int .i64 a0_2) := (blk_cell (textBox HS.out) 2).trans rfl)
              | (go_at_call 32; refine (textItoa HS.out (GL.below HG.out (textBelow HS.out)) _ (by omega) (by omega)).mono ?_; rintro e w3 ⟨rfl, hs2⟩; clear HS; have HS := Aside0.mk hs2; clear hs2)
              | (go_at_call 31; refine (textString HS.out _ (by simp; omega) (by simp [ByteArray.size]; omega)).mono ?_; rintro e w4 ⟨rfl, hs2⟩; clear HS; have HS := Aside0.mk hs2; clear hs2)
              | (go_at_call 33; refine (textEnd HS.out (by simp)).mono ?_; rintro e w5 ⟨rfl, hb5⟩))
            go_ret
            refine ⟨?_, (((Below.refl _ w).alloc (Nat.le_refl _) _).alloc (by simp) _).trans (hb5.mono (by omega))⟩
            simp [decText, L0.out]
          · have h01 : ((l0_1.length : Int) == 0) = false := by simpa using h0
            have L0 := Aside0.mk h0
            clear h0
            go_wp2_with (first
              | (go_at_call 30; refine (textByte HS.out _ 48 rfl (by simp; omega)).mono ?_; rintro e w2 ⟨rfl, hs2⟩; clear HS; have HS := Aside0.mk hs2; clear hs2; clear hc2; have hc2 : w2.cell? ⟨w.heap.size, 2, none⟩ = some (.int .i64 a0_2) := (blk_cell (textBox HS.out) 2).trans rfl)
              | (go_at_call 32; refine (textItoa HS.out (GL.below HG.out (textBelow HS.out)) _ (by omega) (by omega)).mono ?_; rintro e w3 ⟨rfl, hs2⟩; clear HS; have HS := Aside0.mk hs2; clear hs2)
              | (go_at_call 31; refine (textString HS.out _ (by simp; omega) (by simp [ByteArray.size]; omega)).mono ?_; rintro e w4 ⟨rfl, hs2⟩; clear HS; have HS := Aside0.mk hs2; clear hs2)
              | (go_at_call 33; refine (textEnd HS.out (by simp)).mono ?_; rintro e w5 ⟨rfl, hb5⟩))
            go_ret
            refine ⟨?_, (((Below.refl _ w).alloc (Nat.le_refl _) _).alloc (by simp) _).trans (hb5.mono (by omega))⟩
            simp [decText, L0.out]
    · go_enter Tryd.func15, Tryd.ntmps15
      have hc0 : ((w.alloc (.cells #[.bool true, .slice A0_1 l0_1.length c0_1, .int .i64 a0_2] 24)).alloc (.cells #[.pointer none, .slice none 0 0] 60)).cell? ⟨w.heap.size, 0, none⟩ = some (.bool true) := (blk_cell (textBox ST.out) 0).trans rfl
      go_wp2_with (go_at_call 30; refine (textByte ST.out _ 45 rfl (by simp)).mono ?_; rintro e w1 ⟨rfl, hs2⟩; clear ST; have ST := Aside0.mk hs2; clear hs2; have hc01 : w1.cell? ⟨w.heap.size, 1, none⟩ = some (.slice A0_1 l0_1.length c0_1) := (blk_cell (textBox ST.out) 1).trans rfl)
      go_loopw [12] (fun i wr => ∃ k : Nat, k ≤ l0_1.length ∧ i = .int .i64 k ∧ Aside0 (TextSt w ((w.alloc (.cells #[.bool true, .slice A0_1 l0_1.length c0_1, .int .i64 a0_2] 24)).alloc (.cells #[.pointer none, .slice none 0 0] 60)) wr ([45] ++ (l0_1.take k).map figByte))) (fun i _ => l0_1.length - (intOf i).toNat)
      case atStart => exact ⟨0, Nat.zero_le _, rfl, ST⟩
      case round =>
        obtain ⟨k, hk, rfl, HS⟩ := hrel
        by_cases hlt : k < l0_1.length
        · have hlt1 := decide_eq_true hlt
          obtain ⟨ad, e1, hcell⟩ := Kd.at_int HR.out (k : Int) (by omega) (by omega)
          cases e1
          simp only [Int.toNat_natCast] at hcell
          have hbl := World.block_lt_of_cell? w _ hcell
          have hcw : wr.cell? (ad.add k) = some (.int .u8 (rd l0_1 (k : Int))) := by
            exact ((textBelow HS.out).cell hbl).trans hcell
          clear hcell
          have hc1 : wr.cell? ⟨w.heap.size, 1, none⟩ = some (.slice (some ad) l0_1.length c0_1) := (blk_cell (textBox HS.out) 1).trans rfl
          generalize hy : rd l0_1 (k : Int) = y at hcw
          have Y := Aside0.mk hy
          clear hy
          go_wp2_with (go_at_call 30; refine (textByte HS.out _ (figByte y) (figByte_cell y) (by simp; omega)).mono ?_; rintro e w2 ⟨rfl, hs2⟩; have HS2 := Aside0.mk hs2; clear hs2)
          go_roundw
          case rel => exact ⟨k + 1, by omega, by go_num, ⟨by rw [take_succ_rd _ _ hlt, Y.out, List.map_append, ← List.append_assoc]; exact HS2.out⟩⟩
          case measure => simp [intOf]; omega
        · have : k = l0_1.length := by omega
          subst this
          have hlt1 := decide_eq_false hlt
          have hc1 : wr.cell? ⟨w.heap.size, 1, none⟩ = some (.slice A0_1 l0_1.length c0_1) := (blk_cell (textBox HS.out) 1).trans rfl
          have hc2 : wr.cell? ⟨w.heap.size, 2, none⟩ = some (.int .i64 a0_2) := (blk_cell (textBox HS.out) 2).trans rfl
          rw [List.take_length] at HS
          have hil := Lib.itoa_length_le a0_2 he1 he2
          by_cases h0 : l0_1.length = 0
          · have h01 : ((l0_1.length : Int) == 0) = true := by simp [h0]
            have L0 := Aside0.mk h0
            clear h0
            go_wp2_with (first
              | (go_at_call 30; refine (textByte HS.out _ 48 rfl (by simp; omega)).mono ?_; rintro e w2 ⟨rfl, hs2⟩; clear HS; have HS := Aside0.mk hs2; clear hs2; clear hc2; have hc2 : w2.cell? ⟨w.heap.size, 2, none⟩ = some (.int .i64 a0_2) := (blk_cell (textBox HS.out) 2).trans rfl)
              | (go_at_call 32; refine (textItoa HS.out (GL.below HG.out (textBelow HS.out)) _ (by omega) (by omega)).mono ?_; rintro e w3 ⟨rfl, hs2⟩; clear HS; have HS := Aside0.mk hs2; clear hs2)
              | (go_at_call 31; refine (textString HS.out _ (by simp; omega) (by simp [ByteArray.size]; omega)).mono ?_; rintro e w4 ⟨rfl, hs2⟩; clear HS; have HS := Aside0.mk hs2; clear hs2)
              | (go_at_call 33; refine (textEnd HS.out (by simp)).mono ?_; rintro e w5 ⟨rfl, hb5⟩))
            go_ret
            refine ⟨?_, (((Below.refl _ w).alloc (Nat.le_refl _) _).alloc (by simp) _).trans (hb5.mono (by omega))⟩
            simp [decText, L0.out]
          · have h01 : ((l0_1.length : Int) == 0) = false := by simpa using h0
            have L0 := Aside0.mk h0
            clear h0
            go_wp2_with (first
              | (go_at_call 30; refine (textByte HS.out _ 48 rfl (by simp; omega)).mono ?_; rintro e w2 ⟨rfl, hs2⟩; clear HS; have HS := Aside0.mk hs2; clear hs2; clear hc2; have hc2 : w2.cell? ⟨w.heap.size, 2, none⟩ = some (.int .i64 a0_2) := (blk_cell (textBox HS.out) 2).trans rfl)
              | (go_at_call 32; refine (textItoa HS.out (GL.below HG.out (textBelow HS.out)) _ (by omega) (by omega)).mono ?_; rintro e w3 ⟨rfl, hs2⟩; clear HS; have HS := Aside0.mk hs2; clear hs2)
              | (go_at_call 31; refine (textString HS.out _ (by simp; omega) (by simp [ByteArray.size]; omega)).mono ?_; rintro e w4 ⟨rfl, hs2⟩; clear HS; have HS := Aside0.mk hs2; clear hs2)
              | (go_at_call 33; refine (textEnd HS.out (by simp)).mono ?_; rintro e w5 ⟨rfl, hb5⟩))
            go_ret
            refine ⟨?_, (((Below.refl _ w).alloc (Nat.le_refl _) _).alloc (by simp) _).trans (hb5.mono (by omega))⟩
            simp [decText, L0.out]
  · rw [if_neg hh] at h
    cases h
end Go.Proofs.YtahkamggdbibiaaDoor.PZ
