/- A map with whole numbers for keys that the call makes itself: what a store of a new key, and a look, come to.
   Conditions: none. -/
import Derived.Test.YtekinhnempbioaaDoorPZx0
import Derived.MapKept
set_option linter.unusedSimpArgs false
set_option linter.unusedVariables false
namespace Go.Proofs.YtekinhnempbioaaDoor.PZ
open Go.RowKit Go.Proofs.YtekinhnempbioaaDoorW.PrintWords Go.Proofs.YtekinhnempbioaaDoorW.PrintLast
theorem alloc_set (W : World) (o o' : Obj) : ({ W.alloc o with heap := (W.alloc o).heap.setIfInBounds W.heap.size o' } : World) = W.alloc o' := by
  have e : (W.alloc o).heap = W.heap.push o := rfl
  have e2 : (W.heap.push o).setIfInBounds W.heap.size o' = W.heap.push o' := by
    apply Array.ext_getElem?
    intro i
    rw [Array.getElem?_setIfInBounds, Array.getElem?_push, Array.getElem?_push]
    by_cases h : i = W.heap.size
    · subst h; simp
    · rw [if_neg h, if_neg h, if_neg (fun z => h z.symm)]
  rw [e, e2]
  rfl
theorem map_at (W : World) (es : Array MapEntry) (clk : Nat) : (W.alloc (.map es clk)).heap[W.heap.size]? = some (.map es clk) := by
  have e : (W.alloc (.map es clk)).heap = W.heap.push (.map es clk) := rfl
  rw [e]; simp
theorem run_insert_int {P : Program} (W : World) {mty kt et : TypeId} {ik : IntKind} (hm : P.underlying mty = some (.map kt et)) (hk : P.underlying kt = some (.int ik)) (g : Nat) (hg : W.heap.size = g) (es : Array MapEntry) (clk : Nat) (k : Int) (x : Value)
    (hf : Instr.findNow (.int ik) (.int ik k) es.toList 0 = some none) :
    (Instr.mapUpdate mty (.map (some g)) (.int ik k) x).run P (W.alloc (.map es clk)) = .ok () (W.alloc (.map (es.push { key := .int ik k, val := x, born := clk }) (clk + 1))) := by
  subst hg
  have hb := map_at W es clk
  have hc : (Instr.checkKey false 10000 kt (.int ik k)).run P (W.alloc (.map es clk)) = .ok () (W.alloc (.map es clk)) := MapKept.run_checkKey (k := .int ik k) hk (by simp [MapKept.IsKey]) false 9999
  simp only [Instr.mapUpdate, Sem.run_bind, run_underlying hm, MapKept.run_getObj_map hb, hc, MapKept.run_findKey hk hf, MapKept.run_setObj_map _ hb, Result.andThen]
  rw [alloc_set]
theorem run_look_int {P : Program} (W : World) {mty kt et : TypeId} {ik : IntKind} (hm : P.underlying mty = some (.map kt et)) (hk : P.underlying kt = some (.int ik)) (g : Nat) (hg : W.heap.size = g) (es : Array MapEntry) (clk : Nat) (k : Int) (i : Nat) (v : Value) (ok : Bool)
    (hf : Instr.findNow (.int ik) (.int ik k) es.toList 0 = some (some (i, v))) :
    (Instr.lookup mty (.map (some g)) (.int ik k) ok).run P (W.alloc (.map es clk)) = .ok (if ok then .tuple #[v, .bool true] else v) (W.alloc (.map es clk)) := by
  subst hg
  have hb := map_at W es clk
  have hc : (Instr.checkKey es.isEmpty 10000 kt (.int ik k)).run P (W.alloc (.map es clk)) = .ok () (W.alloc (.map es clk)) := MapKept.run_checkKey (k := .int ik k) hk (by simp [MapKept.IsKey]) _ 9999
  simp only [Instr.lookup, Sem.run_bind, Sem.run_pure, run_underlying hm, MapKept.run_getObj_map hb, hc, MapKept.run_findKey hk hf, Result.andThen]
theorem run_look_none {P : Program} (W : World) {mty kt et : TypeId} {ik : IntKind} (hm : P.underlying mty = some (.map kt et)) (hk : P.underlying kt = some (.int ik)) (g : Nat) (hg : W.heap.size = g) (es : Array MapEntry) (clk : Nat) (k : Int) (z : Value) (ok : Bool)
    (hz : ∀ w : World, (zeroValue et).run P w = .ok z w) (hf : Instr.findNow (.int ik) (.int ik k) es.toList 0 = some none) :
    (Instr.lookup mty (.map (some g)) (.int ik k) ok).run P (W.alloc (.map es clk)) = .ok (if ok then .tuple #[z, .bool false] else z) (W.alloc (.map es clk)) := by
  subst hg
  have hb := map_at W es clk
  have hc : (Instr.checkKey es.isEmpty 10000 kt (.int ik k)).run P (W.alloc (.map es clk)) = .ok () (W.alloc (.map es clk)) := MapKept.run_checkKey (k := .int ik k) hk (by simp [MapKept.IsKey]) _ 9999
  simp only [Instr.lookup, Sem.run_bind, Sem.run_pure, run_underlying hm, MapKept.run_getObj_map hb, hc, MapKept.run_findKey hk hf, hz, Result.andThen]
end Go.Proofs.YtekinhnempbioaaDoor.PZ
