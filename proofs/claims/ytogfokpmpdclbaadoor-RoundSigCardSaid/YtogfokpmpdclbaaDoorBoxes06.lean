/- Decs in boxes: the worlds in which layer 6's statements are walked.
   Conditions: none. -/
import Derived.Lib.QuietBelow
import Derived.Test.YtogfokpmpdclbaaDoorDivided
set_option linter.unusedVariables false
set_option linter.unusedSimpArgs false
namespace Go.Proofs.YtogfokpmpdclbaaDoor.PZ
open Go.RowKit Go.Sort Go.Proofs.YtogfokpmpdclbaaDoorW.PrintWords Go.Proofs.YtogfokpmpdclbaaDoorW.PrintLast
/-- A Dec in a box. -/
def DBox (B : Nat) (g : Bool) (A : Option Addr) (n c : Nat) (e : Int) (W : World) : Prop := W.heap[B]? = some (.cells #[.bool g, .slice A n c, .int .i64 e] 24 (0, 0))
theorem DBox.below {B : Nat} {g : Bool} {A : Option Addr} {n c : Nat} {e : Int} {W W' : World} (h : DBox B g A n c e W) (hb : Below W.heap.size W W') : DBox B g A n c e W' := (hb.block _ (Array.getElem?_eq_some_iff.1 h).1).trans h
theorem DBox.cells {B : Nat} {g : Bool} {A : Option Addr} {n c : Nat} {e : Int} {W : World} (h : DBox B g A n c e W) : W.cell? ⟨B, 0, none⟩ = some (.bool g) ∧ W.cell? ⟨B, 1, none⟩ = some (.slice A n c) ∧ W.cell? ⟨B, 2, none⟩ = some (.int .i64 e) := (blk3 h).1
/-- A row that reads, of a number. -/
structure DRow (W : World) (A : Option Addr) (l : List Int) (c : Nat) : Prop where
  read : Kd.C (Kd.int .u8) W A l.length l
  cap : l.length ≤ c
theorem DRow.below {W W' : World} {A : Option Addr} {l : List Int} {c : Nat} (h : DRow W A l c) (hb : Below W.heap.size W W') : DRow W' A l c := ⟨Kd.C_below h.read hb, h.cap⟩
theorem DRow.V {W W' : World} {A : Option Addr} {l : List Int} {c : Nat} (h : DRow W A l c) (hb : Below W.heap.size W W') : Kd.V (Kd.int .u8) 5 W' W'.heap.size (fun k => k < W.heap.size) (.slice A l.length c) l := Kd.V_mk h.cap (Kd.F_below (Kd.C_F (Kd.heap_int .u8) h.read) hb)
/-- What Inc leaves. -/
def IncP (W : World) (g : Bool) (l : List Int) (e : Int) (x : Ending) (W' : World) : Prop := ∃ A c, x = .returned (.tuple #[.agg #[.bool g, .slice A l.length c, .int .i64 e], .int .i64 0]) ∧ DRow W' A l c ∧ Below W.heap.size W W'
/-- Decs in boxes, all that have been made so far. -/
structure DB where
  b : Nat
  g : Bool
  A : Option Addr
  l : List Int
  c : Nat
  e : Int
def Boxes (L : List DB) (w W : World) : Prop := (∀ x ∈ L, DBox x.b x.g x.A x.l.length x.c x.e W ∧ DRow W x.A x.l x.c) ∧ Below w.heap.size w W
def CellsAll : List DB → World → Prop
  | [], _ => True
  | x :: L, W => (W.cell? ⟨x.b, 0, none⟩ = some (.bool x.g) ∧ W.cell? ⟨x.b, 1, none⟩ = some (.slice x.A x.l.length x.c) ∧ W.cell? ⟨x.b, 2, none⟩ = some (.int .i64 x.e) ∧ x.b < W.heap.size) ∧ CellsAll L W
theorem cellsAll_of {W : World} : ∀ {L : List DB}, (∀ x ∈ L, DBox x.b x.g x.A x.l.length x.c x.e W ∧ DRow W x.A x.l x.c) → CellsAll L W
  | [], _ => trivial
  | x :: L, h => ⟨⟨(h x List.mem_cons_self).1.cells.1, (h x List.mem_cons_self).1.cells.2.1, (h x List.mem_cons_self).1.cells.2.2, (Array.getElem?_eq_some_iff.1 (h x List.mem_cons_self).1).1⟩, cellsAll_of (fun y hy => h y (List.mem_cons_of_mem _ hy))⟩
section
variable {L : List DB} {w W W' : World} {g gb : Bool} {A Ab : Option Addr} {l lb : List Int} {c cb : Nat} {e eb k place mode : Int}
theorem Boxes.cells (h : Boxes L w W) : CellsAll L W := cellsAll_of h.1
theorem Boxes.below (h : Boxes L w W) (hb : Below W.heap.size W W') : Boxes L w W' := ⟨fun x hx => ⟨(h.1 x hx).1.below hb, (h.1 x hx).2.below hb⟩, h.2.trans (hb.mono h.2.size)⟩
theorem Boxes.push (h : Boxes L w W) (g : Bool) (e : Int) (hr : DRow W A l c) : Boxes (L ++ [⟨W.heap.size, g, A, l, c, e⟩]) w (W.alloc (.cells #[.bool g, .slice A l.length c, .int .i64 e] 24)) := by
  have h2 := h.below ((Below.refl _ W).alloc (Nat.le_refl _) (.cells #[.bool g, .slice A l.length c, .int .i64 e] 24))
  refine ⟨fun x hx => ?_, h2.2⟩
  rcases List.mem_append.1 hx with hx | hx
  · exact h2.1 x hx
  · obtain rfl : x = _ := List.mem_singleton.1 hx
    exact ⟨heap_alloc_new _ _, hr.below ((Below.refl _ W).alloc (Nat.le_refl _) _)⟩
theorem Boxes.row (h : Boxes L w W) {i : Nat} {b : Nat} (hx : L[i]? = some ⟨b, g, A, l, c, e⟩) : DRow W A l c := (h.1 _ (List.mem_of_getElem? hx)).2
end
end Go.Proofs.YtogfokpmpdclbaaDoor.PZ
