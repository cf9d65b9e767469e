/- How a law's arguments are read: out of the row's condition the flat cells and what the rows hold; and the laid table out of the row's list.
   Conditions: none. -/
import Derived.Test.YtahkamggdbibiaaDoorRows
import Derived.Test.YtahkamggdbibiaaDoorGl
import Derived.WalkKit
import Derived.ProofKit
import Derived.OpenShut
import Derived.LaidMore
import Derived.Lib.LaidTab
import Derived.ChangeSlices
import Derived.Test.YtahkamggdbibiaaDoorWWords
set_option linter.unusedVariables false
namespace Go.Proofs.YtahkamggdbibiaaDoor.PZ
open Go.ChangeShapes Go.WideShapes Go.ChangeAt Go.RowKit Go.Proofs.YtahkamggdbibiaaDoorW.PrintWords
theorem open_t4 {H : Type} {enc : TypeId × Value → H} {W : World} {fuel : Nat} {cs : List Value} {y : DataW H × List MemPlace} (h : DataW.trod enc Tryd.prog W 0 (fun _ => true) true fuel 4 cs = some y) (hz : ∀ n ∈ y.1.weights Tryd.prog 4, n ≤ reachBytes) :
    ∃ (x : Bool), cs = [.bool x] := by
  obtain ⟨b, e, _⟩ := DataW.trod_bool Tryd.underlying4 h
  exact ⟨b, e⟩

theorem open_t22 {H : Type} {enc : TypeId × Value → H} {W : World} {fuel : Nat} {cs : List Value} {y : DataW H × List MemPlace} (h : DataW.trod enc Tryd.prog W 0 (fun _ => true) true fuel 22 cs = some y) (hz : ∀ n ∈ y.1.weights Tryd.prog 22, n ≤ reachBytes) :
    ∃ (Ax : Option Addr) (x : List Int) (cx : Nat), cs = [.slice Ax x.length cx] ∧ Kd.C (Kd.int .u8) W Ax x.length x ∧ x.length ≤ cx ∧ x.length ≤ maxLen ∧ x.length * 1 ≤ 140737488351232 ∧ (∀ b_ ∈ x, (Lit.int .u8 b_).wf = true) := by
  have z : ∃ (a : Option Addr) (len cap : Nat) (zs : List Int), cs = [.slice a len cap] ∧ ((a = none ∧ len = 0 ∧ cap = 0 ∧ zs = []) ∨ ∃ x, a = some x ∧ len ≤ cap ∧ cap ≤ maxLen ∧ zs.length = cap ∧ (∀ i, i < zs.length → W.cell? (x.add i) = some (.int .u8 (zs.getD i 0))) ∧ ∀ n ∈ zs, (Lit.int .u8 n).wf = true) ∧ len * 1 ≤ 140737488351232 := by
    rcases open_ints Tryd.underlying22 Tryd.underlying5 (by kernel_rfl) h with ⟨hcs, _⟩ | ⟨x, l, c, zs, hcs, _, hl, hm, hz', hx, hcell, hwz⟩
    · exact ⟨_, _, _, [], hcs, .inl ⟨rfl, rfl, rfl, rfl⟩, by simp⟩
    · refine ⟨_, _, _, zs, hcs, .inr ⟨_, rfl, hl, hm, by simpa using hz', hcell, hwz⟩, ?_⟩
      have hzc : zs.length = c := by simpa using hz'
      have hb : (Tryd.prog.bytesOf 5) = 1 := by kernel_rfl
      have hk := hz ((zs.take l).length * 1 + (zs.drop l).length * 1) (by rw [hx]; simp [DataW.weights, Tryd.underlying22, hb, lits])
      have hr : reachBytes = 140737488351232 := rfl
      rw [hr, List.length_take, List.length_drop] at hk
      have : min l zs.length = l := by omega
      rw [this] at hk
      omega
  obtain ⟨a, len, cap, zs, hcs, hz, hzb⟩ := z
  obtain ⟨l, rfl, hr, hm, hw, hc⟩ := ReadsInt.ofRowC hz
  exact ⟨a, l, cap, hcs, Kd.C_of_reads (d := (0 : Int)) (h1 := fun _ => rfl) hr, hc, hm, hzb, hw⟩

theorem open_t3 {H : Type} {enc : TypeId × Value → H} {W : World} {fuel : Nat} {cs : List Value} {y : DataW H × List MemPlace} (h : DataW.trod enc Tryd.prog W 0 (fun _ => true) true fuel 3 cs = some y) (hz : ∀ n ∈ y.1.weights Tryd.prog 3, n ≤ reachBytes) :
    ∃ (x : Int), cs = [.int .i64 x] ∧ (Lit.int .i64 x).wf = true := by
  obtain ⟨b, e, _, w⟩ := DataW.trod_int Tryd.underlying3 h
  exact ⟨b, e, w⟩

theorem open_t24 {H : Type} {enc : TypeId × Value → H} {W : World} {fuel : Nat} {cs : List Value} {y : DataW H × List MemPlace} (h : DataW.trod enc Tryd.prog W 0 (fun _ => true) true fuel 24 cs = some y) (hz : ∀ n ∈ y.1.weights Tryd.prog 24, n ≤ reachBytes) :
    ∃ (x_0 : Bool) (Ax_1 : Option Addr) (x_1 : List Int) (cx_1 : Nat) (x_2 : Int), cs = [.bool x_0, .slice Ax_1 x_1.length cx_1, .int .i64 x_2] ∧ Kd.C (Kd.int .u8) W Ax_1 x_1.length x_1 ∧ x_1.length ≤ cx_1 ∧ x_1.length ≤ maxLen ∧ x_1.length * 1 ≤ 140737488351232 ∧ (∀ b_ ∈ x_1, (Lit.int .u8 b_).wf = true) ∧ (Lit.int .i64 x_2).wf = true := by
  obtain ⟨ys, n, _, hy, hl, hlen, hf⟩ := DataW.trod_struct Tryd.underlying24 h
  have hl' : cs.length = 3 := hl.trans (by kernel_rfl)
  clear hl
  match cs, hl' with
  | [v0, v1, v2], _ =>
    have h0 : DataW.trod enc Tryd.prog W 0 (fun _ => true) true n 4 (([v0, v1, v2].drop 0).take (Tryd.prog.cellsOf 4)) = ys[0]? := hf 0 _ rfl
    have s0 : ∃ z, ys[0]? = some z := by
      have e : ys.length = 3 := hlen
      exact ⟨_, List.getElem?_eq_getElem (by omega)⟩
    obtain ⟨z0, hz0⟩ := s0
    rw [hz0] at h0
    have e0 : Tryd.prog.cellsOf 4 = 1 := by kernel_rfl
    rw [e0] at h0
    have g0 : DataW.trod enc Tryd.prog W 0 (fun _ => true) true n 4 [v0] = some z0 := h0
    have w0 : ∀ n ∈ z0.1.weights Tryd.prog 4, n ≤ reachBytes := fun n hn => hz n (by
      rw [hy]
      simp only [DataW.weights, Tryd.underlying24]
      exact DataW.weights_mem_each (j := 0) (t := 4) (d := z0.1) rfl (by rw [List.getElem?_map, hz0]; rfl) n hn)
    obtain ⟨x_0, q0⟩ := open_t4 g0 w0
    have h1 : DataW.trod enc Tryd.prog W 0 (fun _ => true) true n 22 (([v0, v1, v2].drop 1).take (Tryd.prog.cellsOf 22)) = ys[1]? := hf 1 _ rfl
    have s1 : ∃ z, ys[1]? = some z := by
      have e : ys.length = 3 := hlen
      exact ⟨_, List.getElem?_eq_getElem (by omega)⟩
    obtain ⟨z1, hz1⟩ := s1
    rw [hz1] at h1
    have e1 : Tryd.prog.cellsOf 22 = 1 := by kernel_rfl
    rw [e1] at h1
    have g1 : DataW.trod enc Tryd.prog W 0 (fun _ => true) true n 22 [v1] = some z1 := h1
    have w1 : ∀ n ∈ z1.1.weights Tryd.prog 22, n ≤ reachBytes := fun n hn => hz n (by
      rw [hy]
      simp only [DataW.weights, Tryd.underlying24]
      exact DataW.weights_mem_each (j := 1) (t := 22) (d := z1.1) rfl (by rw [List.getElem?_map, hz1]; rfl) n hn)
    obtain ⟨Ax_1, x_1, cx_1, q1, rx_1, qx_1, mx_1, zx_1, wx_1⟩ := open_t22 g1 w1
    have h2 : DataW.trod enc Tryd.prog W 0 (fun _ => true) true n 3 (([v0, v1, v2].drop 2).take (Tryd.prog.cellsOf 3)) = ys[2]? := hf 2 _ rfl
    have s2 : ∃ z, ys[2]? = some z := by
      have e : ys.length = 3 := hlen
      exact ⟨_, List.getElem?_eq_getElem (by omega)⟩
    obtain ⟨z2, hz2⟩ := s2
    rw [hz2] at h2
    have e2 : Tryd.prog.cellsOf 3 = 1 := by kernel_rfl
    rw [e2] at h2
    have g2 : DataW.trod enc Tryd.prog W 0 (fun _ => true) true n 3 [v2] = some z2 := h2
    have w2 : ∀ n ∈ z2.1.weights Tryd.prog 3, n ≤ reachBytes := fun n hn => hz n (by
      rw [hy]
      simp only [DataW.weights, Tryd.underlying24]
      exact DataW.weights_mem_each (j := 2) (t := 3) (d := z2.1) rfl (by rw [List.getElem?_map, hz2]; rfl) n hn)
    obtain ⟨x_2, q2, wx_2⟩ := open_t3 g2 w2
    refine ⟨x_0, Ax_1, x_1, cx_1, x_2, ?_, rx_1, qx_1, mx_1, zx_1, wx_1, wx_2⟩
    simp only [List.cons.injEq, and_true] at q0 q1 q2
    simp [q0, q1, q2]

theorem gl_of_laid {W : World} (h : laidMetH Tryd.prog [("math/bits.deBruijn32tab", Rows.laid_math_bits_deBruijn32tab), ("math/bits.deBruijn64tab", Rows.laid_math_bits_deBruijn64tab), ("internal/strconv.uint64pow10", Rows.laid_internal_strconv_uint64pow10)] W) : GL W := by
  rw [MakeChecks.laidMetH_plain _ _ _ (by kernel_rfl)] at h
  obtain ⟨ps, ⟨g0, t0, cs0, f0, p0, q0, _, _, _, _, ⟨g1, t1, cs1, f1, p1, q1, _, _, _, _, hL, _⟩, _⟩, _, _⟩ := h
  have e : (Rows.laid_internal_strconv_uint64pow10 : DataW Unit) = Lib.tabData .u64 Lib.pow10Tab := by kernel_rfl
  rw [e] at hL
  obtain ⟨g', t', cs, fuel, p, q, hg', ht', hvar, hd, _, _⟩ := hL
  obtain rfl := Option.some.inj ((show Tryd.prog.globalNamed "internal/strconv.uint64pow10" = some 0 by kernel_rfl).symm.trans hg')
  obtain rfl := Option.some.inj ((show (Tryd.prog.globals[0]?).map (·.type) = some 86 by kernel_rfl).symm.trans ht')
  unfold GL Lib.TabIs
  rw [hvar, ← Lib.cells_of_tab Tryd.underlying86 Tryd.underlying79 (by kernel_rfl) (by kernel_rfl) hd]
end Go.Proofs.YtahkamggdbibiaaDoor.PZ
