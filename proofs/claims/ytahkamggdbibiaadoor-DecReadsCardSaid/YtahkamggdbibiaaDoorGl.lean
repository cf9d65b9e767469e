/- The table of powers of ten of the library's number formatting reads as it is laid: handed on from world to world.
   Conditions: none. -/
import Derived.Test.YtahkamggdbibiaaDoorProg
import Derived.Lib.LaidTab
import Derived.Shelf.Strconv.Itoa3
import Derived.WalkSmall
namespace Go.Proofs.YtahkamggdbibiaaDoor.PZ
open Go.RowKit

/-- The laid table reads in w. -/
def GL (w : World) : Prop := Lib.TabIs Tryd.prog w "internal/strconv.uint64pow10" .u64 Lib.pow10Tab
theorem GL.below {w w' : World} (h : GL w) (hb : Below w.heap.size w w') : GL w' := by
  unfold GL Lib.TabIs World.var? at h ⊢
  cases hg : Tryd.prog.globalNamed "internal/strconv.uint64pow10" with
  | none => rw [hg] at h; simp at h
  | some g =>
    rw [hg] at h
    simp only [Option.bind_some] at h ⊢
    have hlt : g < w.heap.size := by
      cases hh : w.heap[g]? with
      | none => rw [hh] at h; simp at h
      | some o => exact (Array.getElem?_eq_some_iff.1 hh).1
    rw [hb.block g hlt]
    exact h
end Go.Proofs.YtahkamggdbibiaaDoor.PZ
