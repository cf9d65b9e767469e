/- How a law's arguments are read: out of the row's condition the flat cells and what the rows hold; and the laid table out of the row's list.
   Conditions: none. -/
import Derived.Test.YtekinhnempbioaaDoorRows
import Derived.Test.YtekinhnempbioaaDoorGl
import Derived.WalkKit
import Derived.ProofKit
import Derived.OpenShut
import Derived.LaidMore
import Derived.Lib.LaidTab
import Derived.ChangeSlices
import Derived.Test.YtekinhnempbioaaDoorWWords
set_option linter.unusedVariables false
namespace Go.Proofs.YtekinhnempbioaaDoor.PZ
open Go.ChangeShapes Go.WideShapes Go.ChangeAt Go.RowKit Go.Proofs.YtekinhnempbioaaDoorW.PrintWords
theorem open_t5 {H : Type} {enc : TypeId × Value → H} {W : World} {fuel : Nat} {cs : List Value} {y : DataW H × List MemPlace} (h : DataW.trod enc Tryd.prog W 0 (fun _ => true) true fuel 5 cs = some y) (hz : ∀ n ∈ y.1.weights Tryd.prog 5, n ≤ reachBytes) :
    ∃ (x : Int), cs = [.int .u8 x] ∧ (Lit.int .u8 x).wf = true := by
  obtain ⟨b, e, _, w⟩ := DataW.trod_int Tryd.underlying5 h
  exact ⟨b, e, w⟩

theorem open_t22 {H : Type} {enc : TypeId × Value → H} {W : World} {fuel : Nat} {cs : List Value} {y : DataW H × List MemPlace} (h : DataW.trod enc Tryd.prog W 0 (fun _ => true) true fuel 22 cs = some y) (hz : ∀ n ∈ y.1.weights Tryd.prog 22, n ≤ reachBytes) :
    ∃ (Ax : Option Addr) (x : List Int) (cx : Nat), cs = [.slice Ax x.length cx] ∧ Kd.C (Kd.int .u8) W Ax x.length x ∧ x.length ≤ cx ∧ x.length ≤ maxLen ∧ x.length * 1 ≤ 140737488351232 ∧ (∀ b_ ∈ x, (Lit.int .u8 b_).wf = true) := by
  have z : ∃ (a : Option Addr) (len cap : Nat) (zs : List Int), cs = [.slice a len cap] ∧ ((a = none ∧ len = 0 ∧ cap = 0 ∧ zs = []) ∨ ∃ x, a = some x ∧ len ≤ cap ∧ cap ≤ maxLen ∧ zs.length = cap ∧ (∀ i, i < zs.length → W.cell? (x.add i) = some (.int .u8 (zs.getD i 0))) ∧ ∀ n ∈ zs, (Lit.int .u8 n).wf = true) ∧ len * 1 ≤ 140737488351232 := by
    rcases open_ints Tryd.underlying22 Tryd.underlying5 (by kernel_rfl) h with ⟨hcs, _⟩ | ⟨x, l, c, zs, hcs, _, hl, hm, hz', hx, hcell, hwz⟩
    · exact ⟨_, _, _, [], hcs, .inl ⟨rfl, rfl, rfl, rfl⟩, by simp⟩
    · refine ⟨_, _, _, zs, hcs, .inr ⟨_, rfl, hl, hm, by simpa using hz', hcell, hwz⟩, ?_⟩
      have hzc : zs.length = c := by simpa using hz'
      have hb : (Tryd.prog.bytesOf 5) = 1 := by kernel_rfl
      have hk := hz ((zs.take l).length * 1 + (zs.drop l).length * 1) (by rw [hx]; simp [DataW.weights, Tryd.underlying22, hb, lits])
      have hr : reachBytes = 140737488351232 := rfl
      rw [hr, List.length_take, List.length_drop] at hk
      have : min l zs.length = l := by omega
      rw [this] at hk
      omega
  obtain ⟨a, len, cap, zs, hcs, hz, hzb⟩ := z
  obtain ⟨l, rfl, hr, hm, hw, hc⟩ := ReadsInt.ofRowC hz
  exact ⟨a, l, cap, hcs, Kd.C_of_reads (d := (0 : Int)) (h1 := fun _ => rfl) hr, hc, hm, hzb, hw⟩

theorem open_t3 {H : Type} {enc : TypeId × Value → H} {W : World} {fuel : Nat} {cs : List Value} {y : DataW H × List MemPlace} (h : DataW.trod enc Tryd.prog W 0 (fun _ => true) true fuel 3 cs = some y) (hz : ∀ n ∈ y.1.weights Tryd.prog 3, n ≤ reachBytes) :
    ∃ (x : Int), cs = [.int .i64 x] ∧ (Lit.int .i64 x).wf = true := by
  obtain ⟨b, e, _, w⟩ := DataW.trod_int Tryd.underlying3 h
  exact ⟨b, e, w⟩

theorem open_t46 {H : Type} {enc : TypeId × Value → H} {W : World} {fuel : Nat} {cs : List Value} {y : DataW H × List MemPlace} (h : DataW.trod enc Tryd.prog W 0 (fun _ => true) true fuel 46 cs = some y) (hz : ∀ n ∈ y.1.weights Tryd.prog 46, n ≤ reachBytes) :
    ∃ (Ax_0 : Option Addr) (x_0 : List Int) (cx_0 : Nat) (x_1 : Int) (x_2 : Int) (x_3 : Int), cs = [.slice Ax_0 x_0.length cx_0, .int .i64 x_1, .int .i64 x_2, .int .i64 x_3] ∧ Kd.C (Kd.int .u8) W Ax_0 x_0.length x_0 ∧ x_0.length ≤ cx_0 ∧ x_0.length ≤ maxLen ∧ x_0.length * 1 ≤ 140737488351232 ∧ (∀ b_ ∈ x_0, (Lit.int .u8 b_).wf = true) ∧ (Lit.int .i64 x_1).wf = true ∧ (Lit.int .i64 x_2).wf = true ∧ (Lit.int .i64 x_3).wf = true := by
  obtain ⟨ys, n, _, hy, hl, hlen, hf⟩ := DataW.trod_struct Tryd.underlying46 h
  have hl' : cs.length = 4 := hl.trans (by kernel_rfl)
  clear hl
  match cs, hl' with
  | [v0, v1, v2, v3], _ =>
    have h0 : DataW.trod enc Tryd.prog W 0 (fun _ => true) true n 22 (([v0, v1, v2, v3].drop 0).take (Tryd.prog.cellsOf 22)) = ys[0]? := hf 0 _ rfl
    have s0 : ∃ z, ys[0]? = some z := by
      have e : ys.length = 4 := hlen
      exact ⟨_, List.getElem?_eq_getElem (by omega)⟩
    obtain ⟨z0, hz0⟩ := s0
    rw [hz0] at h0
    have e0 : Tryd.prog.cellsOf 22 = 1 := by kernel_rfl
    rw [e0] at h0
    have g0 : DataW.trod enc Tryd.prog W 0 (fun _ => true) true n 22 [v0] = some z0 := h0
    have w0 : ∀ n ∈ z0.1.weights Tryd.prog 22, n ≤ reachBytes := fun n hn => hz n (by
      rw [hy]
      simp only [DataW.weights, Tryd.underlying46]
      exact DataW.weights_mem_each (j := 0) (t := 22) (d := z0.1) rfl (by rw [List.getElem?_map, hz0]; rfl) n hn)
    obtain ⟨Ax_0, x_0, cx_0, q0, rx_0, qx_0, mx_0, zx_0, wx_0⟩ := open_t22 g0 w0
    have h1 : DataW.trod enc Tryd.prog W 0 (fun _ => true) true n 3 (([v0, v1, v2, v3].drop 1).take (Tryd.prog.cellsOf 3)) = ys[1]? := hf 1 _ rfl
    have s1 : ∃ z, ys[1]? = some z := by
      have e : ys.length = 4 := hlen
      exact ⟨_, List.getElem?_eq_getElem (by omega)⟩
    obtain ⟨z1, hz1⟩ := s1
    rw [hz1] at h1
    have e1 : Tryd.prog.cellsOf 3 = 1 := by kernel_rfl
    rw [e1] at h1
    have g1 : DataW.trod enc Tryd.prog W 0 (fun _ => true) true n 3 [v1] = some z1 := h1
    have w1 : ∀ n ∈ z1.1.weights Tryd.prog 3, n ≤ reachBytes := fun n hn => hz n (by
      rw [hy]
      simp only [DataW.weights, Tryd.underlying46]
      exact DataW.weights_mem_each (j := 1) (t := 3) (d := z1.1) rfl (by rw [List.getElem?_map, hz1]; rfl) n hn)
    obtain ⟨x_1, q1, wx_1⟩ := open_t3 g1 w1
    have h2 : DataW.trod enc Tryd.prog W 0 (fun _ => true) true n 3 (([v0, v1, v2, v3].drop 2).take (Tryd.prog.cellsOf 3)) = ys[2]? := hf 2 _ rfl
    have s2 : ∃ z, ys[2]? = some z := by
      have e : ys.length = 4 := hlen
      exact ⟨_, List.getElem?_eq_getElem (by omega)⟩
    obtain ⟨z2, hz2⟩ := s2
    rw [hz2] at h2
    have e2 : Tryd.prog.cellsOf 3 = 1 := by kernel_rfl
    rw [e2] at h2
    have g2 : DataW.trod enc Tryd.prog W 0 (fun _ => true) true n 3 [v2] = some z2 := h2
    have w2 : ∀ n ∈ z2.1.weights Tryd.prog 3, n ≤ reachBytes := fun n hn => hz n (by
      rw [hy]
      simp only [DataW.weights, Tryd.underlying46]
      exact DataW.weights_mem_each (j := 2) (t := 3) (d := z2.1) rfl (by rw [List.getElem?_map, hz2]; rfl) n hn)
    obtain ⟨x_2, q2, wx_2⟩ := open_t3 g2 w2
    have h3 : DataW.trod enc Tryd.prog W 0 (fun _ => true) true n 3 (([v0, v1, v2, v3].drop 3).take (Tryd.prog.cellsOf 3)) = ys[3]? := hf 3 _ rfl
    have s3 : ∃ z, ys[3]? = some z := by
      have e : ys.length = 4 := hlen
      exact ⟨_, List.getElem?_eq_getElem (by omega)⟩
    obtain ⟨z3, hz3⟩ := s3
    rw [hz3] at h3
    have e3 : Tryd.prog.cellsOf 3 = 1 := by kernel_rfl
    rw [e3] at h3
    have g3 : DataW.trod enc Tryd.prog W 0 (fun _ => true) true n 3 [v3] = some z3 := h3
    have w3 : ∀ n ∈ z3.1.weights Tryd.prog 3, n ≤ reachBytes := fun n hn => hz n (by
      rw [hy]
      simp only [DataW.weights, Tryd.underlying46]
      exact DataW.weights_mem_each (j := 3) (t := 3) (d := z3.1) rfl (by rw [List.getElem?_map, hz3]; rfl) n hn)
    obtain ⟨x_3, q3, wx_3⟩ := open_t3 g3 w3
    refine ⟨Ax_0, x_0, cx_0, x_1, x_2, x_3, ?_, rx_0, qx_0, mx_0, zx_0, wx_0, wx_1, wx_2, wx_3⟩
    simp only [List.cons.injEq, and_true] at q0 q1 q2 q3
    simp [q0, q1, q2, q3]

theorem gl_of_laid {W : World} (h : laidMetH Tryd.prog [("math/bits.deBruijn32tab", Rows.laid_math_bits_deBruijn32tab), ("math/bits.deBruijn64tab", Rows.laid_math_bits_deBruijn64tab), ("internal/strconv.uint64pow10", Rows.laid_internal_strconv_uint64pow10), ("unicode/utf8.acceptRanges", Rows.laid_unicode_utf8_acceptRanges), ("unicode/utf8.first", Rows.laid_unicode_utf8_first)] W) : GL W := by
  rw [MakeChecks.laidMetH_plain _ _ _ (by kernel_rfl)] at h
  obtain ⟨ps, ⟨g0, t0, cs0, f0, p0, q0, _, _, _, _, ⟨g1, t1, cs1, f1, p1, q1, _, _, _, _, hL, _⟩, _⟩, _, _⟩ := h
  have e : (Rows.laid_internal_strconv_uint64pow10 : DataW Unit) = Lib.tabData .u64 Lib.pow10Tab := by kernel_rfl
  rw [e] at hL
  obtain ⟨g', t', cs, fuel, p, q, hg', ht', hvar, hd, _, _⟩ := hL
  obtain rfl := Option.some.inj ((show Tryd.prog.globalNamed "internal/strconv.uint64pow10" = some 3 by kernel_rfl).symm.trans hg')
  obtain rfl := Option.some.inj ((show (Tryd.prog.globals[3]?).map (·.type) = some 90 by kernel_rfl).symm.trans ht')
  unfold GL Lib.TabIs
  rw [hvar, ← Lib.cells_of_tab Tryd.underlying90 Tryd.underlying56 (by kernel_rfl) (by kernel_rfl) hd]
end Go.Proofs.YtekinhnempbioaaDoor.PZ
