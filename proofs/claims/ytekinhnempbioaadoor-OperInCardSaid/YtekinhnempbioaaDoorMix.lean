/- The bytes of a number's text, less those of a nought: the row while it is turned.
   Conditions: none. -/
import Derived.Test.YtekinhnempbioaaDoorItoa
set_option linter.unusedSimpArgs false
set_option linter.unusedVariables false
namespace Go.Proofs.YtekinhnempbioaaDoor.PZ
open Go.RowKit Go.Proofs.YtekinhnempbioaaDoorW.PrintWords Go.Proofs.YtekinhnempbioaaDoorW.PrintLast
/-- The bytes of a text less those of '0'. -/
def lessB (c : Int) : Int := (c - 48) % 256
def numText (n : Int) : ByteArray := ⟨(Lib.itoa n).toArray⟩
theorem numText_size (n : Int) (h0 : -9223372036854775808 ≤ n) (h1 : n ≤ 9223372036854775807) : (numText n).size ≤ 21 := by
  have := Lib.itoa_length_le n h0 h1
  show (Lib.itoa n).toArray.size ≤ 21
  simpa using this
/-- The row after k rounds: its cells read, and may be written. -/
def MixSt (g : Nat) (L : List Int) (k : Nat) (W : World) : Prop := g < W.heap.size ∧ ∀ j, j < L.length → W.cell? ⟨g, j, none⟩ = some (.int .u8 (if j < k then lessB (rd L j) else rd L j)) ∧ W.frozen? ⟨g, j, none⟩ = false
theorem MixSt.put {g : Nat} {L : List Int} {k : Nat} {W : World} (h : MixSt g L k W) (hk : k < L.length) : MixSt g L (k + 1) (W.setCell ⟨g, k, none⟩ (.int .u8 (lessB (rd L k)))) := by
  refine ⟨by simpa using h.1, fun j hj => ?_⟩
  obtain ⟨h1, h2⟩ := h.2 j hj
  by_cases e : j = k
  · subst e
    rw [if_pos (by omega)]
    exact ⟨World.cell?_setCell_same _ _ _ h1, by rw [World.frozen?_setCell]; exact h2⟩
  · rw [World.cell?_setCell_other _ _ _ _ (by intro z; injection z with _ z2; omega), h1, World.frozen?_setCell]
    refine ⟨?_, h2⟩
    by_cases hj2 : j < k
    · rw [if_pos hj2, if_pos (by omega)]
    · rw [if_neg hj2, if_neg (by omega)]
theorem MixSt.done {g : Nat} {L : List Int} {W : World} (h : MixSt g L L.length W) (base : Nat) (hb : base ≤ g) (c : Nat) (hc : L.length ≤ c) (hl : L.length ≤ 100) : Kd.V (Kd.int .u8) 5 W base (fun k_ => base ≤ k_) (.slice (some ⟨g, 0, none⟩) L.length c) (L.map lessB) := by
  have hF : Kd.F (Kd.int .u8) W (fun k_ => base ≤ k_) (some ⟨g, 0, none⟩) (L.map lessB).length (L.map lessB) := by
    intro W' hW
    have hg := hW g hb h.1
    refine Kd.C_of_reads (d := (0 : Int)) (h1 := fun _ => rfl) ⟨rfl, by rw [List.length_map]; omega, fun _ => ⟨_, rfl, fun j hj => ?_⟩⟩
    rw [List.length_map] at hj
    rw [add_plain, World.cell?_of_block (w := W) hg, (h.2 j hj).1, if_pos hj]
    simp [rd, List.getD_eq_getElem?_getD, List.getElem?_eq_getElem hj]
  have := Kd.V_mk (e := 5) (base := base) (by rw [List.length_map]; exact hc) hF
  rwa [List.length_map] at this
theorem bytes_frozen (W : World) (s : ByteArray) (j : Nat) (hj : j < s.size) : (Lib.bytesWorld W 5 s).frozen? ⟨W.heap.size, j, none⟩ = false := by
  have h1 := Lib.bytesWorld_at_new W 5 s
  have h2 := Lib.bytesWorld_cell W 5 s j hj
  have h3 : j < (Lib.bytesCells W 5 s).size := by
    have h4 : (Lib.bytesWorld W 5 s).cell? ⟨W.heap.size, j, none⟩ = (Lib.bytesCells W 5 s)[j]? := cell_of_row _ _ _ _ _ _ h1
    rw [h4] at h2
    exact (Array.getElem?_eq_some_iff.1 h2).1
  unfold World.frozen?
  simp only [h1]
  simp
  omega
theorem MixSt.start (W : World) (s : ByteArray) : MixSt W.heap.size (bytesOf s) 0 (Lib.bytesWorld W 5 s) := by
  refine ⟨by rw [Lib.bytesWorld_size]; omega, fun j hj => ?_⟩
  rw [bytesOf_length] at hj
  rw [if_neg (by omega), Lib.bytesWorld_cell W 5 s j hj, rd_bytesOf]
  refine ⟨?_, bytes_frozen W s j hj⟩
  simp [bt, hj, List.getD_eq_getElem?_getD]
  rfl
end Go.Proofs.YtekinhnempbioaaDoor.PZ
