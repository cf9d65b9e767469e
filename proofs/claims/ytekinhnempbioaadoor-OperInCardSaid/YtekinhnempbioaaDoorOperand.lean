/- oper.Operand: an operand's figures, and whether it is whole.
   Conditions: the laid table of powers of ten reads. -/
import Derived.Test.YtekinhnempbioaaDoorPZx7
import Derived.Test.YtekinhnempbioaaDoorPZx8
import Derived.Test.YtekinhnempbioaaDoorMapRun
import Derived.Carry
namespace Go.Proofs.YtekinhnempbioaaDoor.PZ
open Go.RowKit Go.Proofs.YtekinhnempbioaaDoorW.PrintWords Go.Proofs.YtekinhnempbioaaDoorW.PrintLast
def wholeO (t : Option (List Int)) : Option (List Int × Bool) := t.bind fun l => some (l, true)
def oper_Operand.f (l0 : List Int) (l1 : List Int) (a2 a3 : Int) (name : Int) : Option (List Int × Bool) :=
  if name = 110 then (if a2 > 0 then some ([], false) else wholeO (oper_told_i.f l0 l1 a2 a3))
  else if name = 105 then wholeO (oper_told_i.f l0 l1 a2 a3)
  else if name = 118 then wholeO (oper_told_v.f l0 l1 a2 a3)
  else if name = 119 then wholeO (oper_told_w.f l0 l1 a2 a3)
  else if name = 102 then wholeO (oper_told_f.f l0 l1 a2 a3)
  else if name = 116 then wholeO (oper_told_t.f l0 l1 a2 a3)
  else if name = 99 then wholeO (oper_told_c.f l0 l1 a2 a3)
  else if name = 101 then wholeO (oper_told_c.f l0 l1 a2 a3)
  else some ([], false)
/-- The map of operands, with its first so many entries. -/
def opEs (r : Value) : List MapEntry := [
  { key := .int .u8 110, val := .func (.func 32) #[r] #[], born := 0 }, { key := .int .u8 105, val := .func (.func 32) #[r] #[], born := 1 },
  { key := .int .u8 118, val := .func (.func 33) #[r] #[], born := 2 }, { key := .int .u8 119, val := .func (.func 34) #[r] #[], born := 3 },
  { key := .int .u8 102, val := .func (.func 35) #[r] #[], born := 4 }, { key := .int .u8 116, val := .func (.func 36) #[r] #[], born := 5 },
  { key := .int .u8 99, val := .func (.func 37) #[r] #[], born := 6 }, { key := .int .u8 101, val := .func (.func 37) #[r] #[], born := 7 }]
def opM (r : Value) (i : Nat) : Obj := .map ((opEs r).take i).toArray i
theorem opM_zero (r : Value) : Obj.map #[] 0 = opM r 0 := rfl
theorem op_insert (W : World) (g : Nat) (hg : W.heap.size = g) (r : Value) (i : Nat) (k : Int) (x : Value) (h : ((opEs r).take (i + 1)) = (opEs r).take i ++ [{ key := .int .u8 k, val := x, born := i }]) (hf : Instr.findNow (.int .u8) (.int .u8 k) ((opEs r).take i) 0 = some none) :
    (Instr.mapUpdate 60 (.map (some g)) (.int .u8 k) x).run Tryd.prog (W.alloc (opM r i)) = .ok () (W.alloc (opM r (i + 1))) := by
  unfold opM
  rw [run_insert_int W Tryd.underlying60 Tryd.underlying5 g hg _ i k x (by simpa using hf), h]
  congr 3
  simp
/-! the walks -/
section
variable {P0 P1 : Nat → Prop} {A0 A1 : Option Addr} {c0 c1 : Nat} {l0 l1 : List Int} {a2 a3 : Int} {w : World}
/-- The world ahead of the inserts. -/
def opW (w : World) (cs : Array Value) : World := (w.alloc (.cells cs 32)).alloc (.cells cs 58)
theorem opW_size (w : World) (cs : Array Value) : (opW w cs).heap.size = w.heap.size + 1 + 1 := by simp [opW]
theorem opW_below (w : World) (cs : Array Value) (o : Obj) : Below w.heap.size w ((opW w cs).alloc o) := (((Below.refl _ _).alloc (Nat.le_refl _) _).alloc (by simp) _).alloc (by simp; omega) _
/-- What an operand's own function leaves, told of the world at the begin. -/
def OpEnd (w : World) (P0 P1 : Nat → Prop) (r : List Int) (v : Value) (w' : World) : Prop := Kd.V (Kd.int .u8) 5 w' w.heap.size (fun k_ => ((P0 k_ ∨ P1 k_) ∨ w.heap.size ≤ k_)) v r ∧ Below w.heap.size w w'
theorem OpEnd.of {W1 w2 : World} {Q : Nat → Prop} {r : List Int} {v : Value} (hb : Below w.heap.size w W1) (hQ : ∀ k, Q k → (P0 k ∨ P1 k) ∨ w.heap.size ≤ k) (hv : Kd.V (Kd.int .u8) 5 w2 W1.heap.size (fun k_ => Q k_) v r) (hb2 : Below W1.heap.size W1 w2) : OpEnd w P0 P1 r v w2 :=
  ⟨Kd.V_lower (Kd.V_mono hv hQ) hb.size, below_then hb hb.size hb2⟩
/-- What the call's end says. -/
def OpPost (w : World) (P0 P1 : Nat → Prop) (r : List Int) (ok : Bool) (e : Ending) (w' : World) : Prop := ∃ v, e = .returned (.tuple #[v, .bool ok]) ∧ OpEnd w P0 P1 r v w'
end
/-- The cells of an Oper. -/
def opCs (A0 : Option Addr) (n0 c0 : Nat) (A1 : Option Addr) (n1 c1 : Nat) (a2 a3 : Int) : Array Value := #[.slice A0 n0 c0, .slice A1 n1 c1, .int .i64 a2, .int .i64 a3]
theorem opI0 (w : World) (A0 : Option Addr) (n0 c0 : Nat) (A1 : Option Addr) (n1 c1 : Nat) (a2 a3 : Int) : (Instr.mapUpdate 60 (.map (some (w.heap.size + 1 + 1))) (.int .u8 110) (.func (.func 32) #[.agg #[.slice A0 n0 c0, .slice A1 n1 c1, .int .i64 a2, .int .i64 a3]] #[])).run Tryd.prog (((w.alloc (.cells #[.slice A0 n0 c0, .slice A1 n1 c1, .int .i64 a2, .int .i64 a3] 32)).alloc (.cells #[.slice A0 n0 c0, .slice A1 n1 c1, .int .i64 a2, .int .i64 a3] 58)).alloc (.map #[] 0)) = .ok () (((w.alloc (.cells #[.slice A0 n0 c0, .slice A1 n1 c1, .int .i64 a2, .int .i64 a3] 32)).alloc (.cells #[.slice A0 n0 c0, .slice A1 n1 c1, .int .i64 a2, .int .i64 a3] 58)).alloc (opM (.agg #[.slice A0 n0 c0, .slice A1 n1 c1, .int .i64 a2, .int .i64 a3]) 1)) := op_insert (opW w #[.slice A0 n0 c0, .slice A1 n1 c1, .int .i64 a2, .int .i64 a3]) _ (opW_size w _) (.agg #[.slice A0 n0 c0, .slice A1 n1 c1, .int .i64 a2, .int .i64 a3]) 0 _ _ rfl rfl
theorem opI1 (w : World) (A0 : Option Addr) (n0 c0 : Nat) (A1 : Option Addr) (n1 c1 : Nat) (a2 a3 : Int) : (Instr.mapUpdate 60 (.map (some (w.heap.size + 1 + 1))) (.int .u8 105) (.func (.func 32) #[.agg #[.slice A0 n0 c0, .slice A1 n1 c1, .int .i64 a2, .int .i64 a3]] #[])).run Tryd.prog (((w.alloc (.cells #[.slice A0 n0 c0, .slice A1 n1 c1, .int .i64 a2, .int .i64 a3] 32)).alloc (.cells #[.slice A0 n0 c0, .slice A1 n1 c1, .int .i64 a2, .int .i64 a3] 58)).alloc (opM (.agg #[.slice A0 n0 c0, .slice A1 n1 c1, .int .i64 a2, .int .i64 a3]) 1)) = .ok () (((w.alloc (.cells #[.slice A0 n0 c0, .slice A1 n1 c1, .int .i64 a2, .int .i64 a3] 32)).alloc (.cells #[.slice A0 n0 c0, .slice A1 n1 c1, .int .i64 a2, .int .i64 a3] 58)).alloc (opM (.agg #[.slice A0 n0 c0, .slice A1 n1 c1, .int .i64 a2, .int .i64 a3]) 2)) := op_insert (opW w #[.slice A0 n0 c0, .slice A1 n1 c1, .int .i64 a2, .int .i64 a3]) _ (opW_size w _) (.agg #[.slice A0 n0 c0, .slice A1 n1 c1, .int .i64 a2, .int .i64 a3]) 1 _ _ rfl rfl
theorem opI2 (w : World) (A0 : Option Addr) (n0 c0 : Nat) (A1 : Option Addr) (n1 c1 : Nat) (a2 a3 : Int) : (Instr.mapUpdate 60 (.map (some (w.heap.size + 1 + 1))) (.int .u8 118) (.func (.func 33) #[.agg #[.slice A0 n0 c0, .slice A1 n1 c1, .int .i64 a2, .int .i64 a3]] #[])).run Tryd.prog (((w.alloc (.cells #[.slice A0 n0 c0, .slice A1 n1 c1, .int .i64 a2, .int .i64 a3] 32)).alloc (.cells #[.slice A0 n0 c0, .slice A1 n1 c1, .int .i64 a2, .int .i64 a3] 58)).alloc (opM (.agg #[.slice A0 n0 c0, .slice A1 n1 c1, .int .i64 a2, .int .i64 a3]) 2)) = .ok () (((w.alloc (.cells #[.slice A0 n0 c0, .slice A1 n1 c1, .int .i64 a2, .int .i64 a3] 32)).alloc (.cells #[.slice A0 n0 c0, .slice A1 n1 c1, .int .i64 a2, .int .i64 a3] 58)).alloc (opM (.agg #[.slice A0 n0 c0, .slice A1 n1 c1, .int .i64 a2, .int .i64 a3]) 3)) := op_insert (opW w #[.slice A0 n0 c0, .slice A1 n1 c1, .int .i64 a2, .int .i64 a3]) _ (opW_size w _) (.agg #[.slice A0 n0 c0, .slice A1 n1 c1, .int .i64 a2, .int .i64 a3]) 2 _ _ rfl rfl
theorem opI3 (w : World) (A0 : Option Addr) (n0 c0 : Nat) (A1 : Option Addr) (n1 c1 : Nat) (a2 a3 : Int) : (Instr.mapUpdate 60 (.map (some (w.heap.size + 1 + 1))) (.int .u8 119) (.func (.func 34) #[.agg #[.slice A0 n0 c0, .slice A1 n1 c1, .int .i64 a2, .int .i64 a3]] #[])).run Tryd.prog (((w.alloc (.cells #[.slice A0 n0 c0, .slice A1 n1 c1, .int .i64 a2, .int .i64 a3] 32)).alloc (.cells #[.slice A0 n0 c0, .slice A1 n1 c1, .int .i64 a2, .int .i64 a3] 58)).alloc (opM (.agg #[.slice A0 n0 c0, .slice A1 n1 c1, .int .i64 a2, .int .i64 a3]) 3)) = .ok () (((w.alloc (.cells #[.slice A0 n0 c0, .slice A1 n1 c1, .int .i64 a2, .int .i64 a3] 32)).alloc (.cells #[.slice A0 n0 c0, .slice A1 n1 c1, .int .i64 a2, .int .i64 a3] 58)).alloc (opM (.agg #[.slice A0 n0 c0, .slice A1 n1 c1, .int .i64 a2, .int .i64 a3]) 4)) := op_insert (opW w #[.slice A0 n0 c0, .slice A1 n1 c1, .int .i64 a2, .int .i64 a3]) _ (opW_size w _) (.agg #[.slice A0 n0 c0, .slice A1 n1 c1, .int .i64 a2, .int .i64 a3]) 3 _ _ rfl rfl
theorem opI4 (w : World) (A0 : Option Addr) (n0 c0 : Nat) (A1 : Option Addr) (n1 c1 : Nat) (a2 a3 : Int) : (Instr.mapUpdate 60 (.map (some (w.heap.size + 1 + 1))) (.int .u8 102) (.func (.func 35) #[.agg #[.slice A0 n0 c0, .slice A1 n1 c1, .int .i64 a2, .int .i64 a3]] #[])).run Tryd.prog (((w.alloc (.cells #[.slice A0 n0 c0, .slice A1 n1 c1, .int .i64 a2, .int .i64 a3] 32)).alloc (.cells #[.slice A0 n0 c0, .slice A1 n1 c1, .int .i64 a2, .int .i64 a3] 58)).alloc (opM (.agg #[.slice A0 n0 c0, .slice A1 n1 c1, .int .i64 a2, .int .i64 a3]) 4)) = .ok () (((w.alloc (.cells #[.slice A0 n0 c0, .slice A1 n1 c1, .int .i64 a2, .int .i64 a3] 32)).alloc (.cells #[.slice A0 n0 c0, .slice A1 n1 c1, .int .i64 a2, .int .i64 a3] 58)).alloc (opM (.agg #[.slice A0 n0 c0, .slice A1 n1 c1, .int .i64 a2, .int .i64 a3]) 5)) := op_insert (opW w #[.slice A0 n0 c0, .slice A1 n1 c1, .int .i64 a2, .int .i64 a3]) _ (opW_size w _) (.agg #[.slice A0 n0 c0, .slice A1 n1 c1, .int .i64 a2, .int .i64 a3]) 4 _ _ rfl rfl
theorem opI5 (w : World) (A0 : Option Addr) (n0 c0 : Nat) (A1 : Option Addr) (n1 c1 : Nat) (a2 a3 : Int) : (Instr.mapUpdate 60 (.map (some (w.heap.size + 1 + 1))) (.int .u8 116) (.func (.func 36) #[.agg #[.slice A0 n0 c0, .slice A1 n1 c1, .int .i64 a2, .int .i64 a3]] #[])).run Tryd.prog (((w.alloc (.cells #[.slice A0 n0 c0, .slice A1 n1 c1, .int .i64 a2, .int .i64 a3] 32)).alloc (.cells #[.slice A0 n0 c0, .slice A1 n1 c1, .int .i64 a2, .int .i64 a3] 58)).alloc (opM (.agg #[.slice A0 n0 c0, .slice A1 n1 c1, .int .i64 a2, .int .i64 a3]) 5)) = .ok () (((w.alloc (.cells #[.slice A0 n0 c0, .slice A1 n1 c1, .int .i64 a2, .int .i64 a3] 32)).alloc (.cells #[.slice A0 n0 c0, .slice A1 n1 c1, .int .i64 a2, .int .i64 a3] 58)).alloc (opM (.agg #[.slice A0 n0 c0, .slice A1 n1 c1, .int .i64 a2, .int .i64 a3]) 6)) := op_insert (opW w #[.slice A0 n0 c0, .slice A1 n1 c1, .int .i64 a2, .int .i64 a3]) _ (opW_size w _) (.agg #[.slice A0 n0 c0, .slice A1 n1 c1, .int .i64 a2, .int .i64 a3]) 5 _ _ rfl rfl
theorem opI6 (w : World) (A0 : Option Addr) (n0 c0 : Nat) (A1 : Option Addr) (n1 c1 : Nat) (a2 a3 : Int) : (Instr.mapUpdate 60 (.map (some (w.heap.size + 1 + 1))) (.int .u8 99) (.func (.func 37) #[.agg #[.slice A0 n0 c0, .slice A1 n1 c1, .int .i64 a2, .int .i64 a3]] #[])).run Tryd.prog (((w.alloc (.cells #[.slice A0 n0 c0, .slice A1 n1 c1, .int .i64 a2, .int .i64 a3] 32)).alloc (.cells #[.slice A0 n0 c0, .slice A1 n1 c1, .int .i64 a2, .int .i64 a3] 58)).alloc (opM (.agg #[.slice A0 n0 c0, .slice A1 n1 c1, .int .i64 a2, .int .i64 a3]) 6)) = .ok () (((w.alloc (.cells #[.slice A0 n0 c0, .slice A1 n1 c1, .int .i64 a2, .int .i64 a3] 32)).alloc (.cells #[.slice A0 n0 c0, .slice A1 n1 c1, .int .i64 a2, .int .i64 a3] 58)).alloc (opM (.agg #[.slice A0 n0 c0, .slice A1 n1 c1, .int .i64 a2, .int .i64 a3]) 7)) := op_insert (opW w #[.slice A0 n0 c0, .slice A1 n1 c1, .int .i64 a2, .int .i64 a3]) _ (opW_size w _) (.agg #[.slice A0 n0 c0, .slice A1 n1 c1, .int .i64 a2, .int .i64 a3]) 6 _ _ rfl rfl
theorem opI7 (w : World) (A0 : Option Addr) (n0 c0 : Nat) (A1 : Option Addr) (n1 c1 : Nat) (a2 a3 : Int) : (Instr.mapUpdate 60 (.map (some (w.heap.size + 1 + 1))) (.int .u8 101) (.func (.func 37) #[.agg #[.slice A0 n0 c0, .slice A1 n1 c1, .int .i64 a2, .int .i64 a3]] #[])).run Tryd.prog (((w.alloc (.cells #[.slice A0 n0 c0, .slice A1 n1 c1, .int .i64 a2, .int .i64 a3] 32)).alloc (.cells #[.slice A0 n0 c0, .slice A1 n1 c1, .int .i64 a2, .int .i64 a3] 58)).alloc (opM (.agg #[.slice A0 n0 c0, .slice A1 n1 c1, .int .i64 a2, .int .i64 a3]) 7)) = .ok () (((w.alloc (.cells #[.slice A0 n0 c0, .slice A1 n1 c1, .int .i64 a2, .int .i64 a3] 32)).alloc (.cells #[.slice A0 n0 c0, .slice A1 n1 c1, .int .i64 a2, .int .i64 a3] 58)).alloc (opM (.agg #[.slice A0 n0 c0, .slice A1 n1 c1, .int .i64 a2, .int .i64 a3]) 8)) := op_insert (opW w #[.slice A0 n0 c0, .slice A1 n1 c1, .int .i64 a2, .int .i64 a3]) _ (opW_size w _) (.agg #[.slice A0 n0 c0, .slice A1 n1 c1, .int .i64 a2, .int .i64 a3]) 7 _ _ rfl rfl
theorem opL110 (w : World) (A0 : Option Addr) (n0 c0 : Nat) (A1 : Option Addr) (n1 c1 : Nat) (a2 a3 : Int) : (Instr.lookup 60 (.map (some (w.heap.size + 1 + 1))) (.int .u8 110) true).run Tryd.prog (((w.alloc (.cells #[.slice A0 n0 c0, .slice A1 n1 c1, .int .i64 a2, .int .i64 a3] 32)).alloc (.cells #[.slice A0 n0 c0, .slice A1 n1 c1, .int .i64 a2, .int .i64 a3] 58)).alloc (opM (.agg #[.slice A0 n0 c0, .slice A1 n1 c1, .int .i64 a2, .int .i64 a3]) 8)) = .ok (.tuple #[.func (.func 32) #[.agg #[.slice A0 n0 c0, .slice A1 n1 c1, .int .i64 a2, .int .i64 a3]] #[], .bool true]) (((w.alloc (.cells #[.slice A0 n0 c0, .slice A1 n1 c1, .int .i64 a2, .int .i64 a3] 32)).alloc (.cells #[.slice A0 n0 c0, .slice A1 n1 c1, .int .i64 a2, .int .i64 a3] 58)).alloc (opM (.agg #[.slice A0 n0 c0, .slice A1 n1 c1, .int .i64 a2, .int .i64 a3]) 8)) := run_look_int (opW w #[.slice A0 n0 c0, .slice A1 n1 c1, .int .i64 a2, .int .i64 a3]) Tryd.underlying60 Tryd.underlying5 _ (opW_size w _) _ 8 110 0 (.func (.func 32) #[.agg #[.slice A0 n0 c0, .slice A1 n1 c1, .int .i64 a2, .int .i64 a3]] #[]) true rfl
theorem opL105 (w : World) (A0 : Option Addr) (n0 c0 : Nat) (A1 : Option Addr) (n1 c1 : Nat) (a2 a3 : Int) : (Instr.lookup 60 (.map (some (w.heap.size + 1 + 1))) (.int .u8 105) true).run Tryd.prog (((w.alloc (.cells #[.slice A0 n0 c0, .slice A1 n1 c1, .int .i64 a2, .int .i64 a3] 32)).alloc (.cells #[.slice A0 n0 c0, .slice A1 n1 c1, .int .i64 a2, .int .i64 a3] 58)).alloc (opM (.agg #[.slice A0 n0 c0, .slice A1 n1 c1, .int .i64 a2, .int .i64 a3]) 8)) = .ok (.tuple #[.func (.func 32) #[.agg #[.slice A0 n0 c0, .slice A1 n1 c1, .int .i64 a2, .int .i64 a3]] #[], .bool true]) (((w.alloc (.cells #[.slice A0 n0 c0, .slice A1 n1 c1, .int .i64 a2, .int .i64 a3] 32)).alloc (.cells #[.slice A0 n0 c0, .slice A1 n1 c1, .int .i64 a2, .int .i64 a3] 58)).alloc (opM (.agg #[.slice A0 n0 c0, .slice A1 n1 c1, .int .i64 a2, .int .i64 a3]) 8)) := run_look_int (opW w #[.slice A0 n0 c0, .slice A1 n1 c1, .int .i64 a2, .int .i64 a3]) Tryd.underlying60 Tryd.underlying5 _ (opW_size w _) _ 8 105 1 (.func (.func 32) #[.agg #[.slice A0 n0 c0, .slice A1 n1 c1, .int .i64 a2, .int .i64 a3]] #[]) true rfl
theorem opL118 (w : World) (A0 : Option Addr) (n0 c0 : Nat) (A1 : Option Addr) (n1 c1 : Nat) (a2 a3 : Int) : (Instr.lookup 60 (.map (some (w.heap.size + 1 + 1))) (.int .u8 118) true).run Tryd.prog (((w.alloc (.cells #[.slice A0 n0 c0, .slice A1 n1 c1, .int .i64 a2, .int .i64 a3] 32)).alloc (.cells #[.slice A0 n0 c0, .slice A1 n1 c1, .int .i64 a2, .int .i64 a3] 58)).alloc (opM (.agg #[.slice A0 n0 c0, .slice A1 n1 c1, .int .i64 a2, .int .i64 a3]) 8)) = .ok (.tuple #[.func (.func 33) #[.agg #[.slice A0 n0 c0, .slice A1 n1 c1, .int .i64 a2, .int .i64 a3]] #[], .bool true]) (((w.alloc (.cells #[.slice A0 n0 c0, .slice A1 n1 c1, .int .i64 a2, .int .i64 a3] 32)).alloc (.cells #[.slice A0 n0 c0, .slice A1 n1 c1, .int .i64 a2, .int .i64 a3] 58)).alloc (opM (.agg #[.slice A0 n0 c0, .slice A1 n1 c1, .int .i64 a2, .int .i64 a3]) 8)) := run_look_int (opW w #[.slice A0 n0 c0, .slice A1 n1 c1, .int .i64 a2, .int .i64 a3]) Tryd.underlying60 Tryd.underlying5 _ (opW_size w _) _ 8 118 2 (.func (.func 33) #[.agg #[.slice A0 n0 c0, .slice A1 n1 c1, .int .i64 a2, .int .i64 a3]] #[]) true rfl
theorem opL119 (w : World) (A0 : Option Addr) (n0 c0 : Nat) (A1 : Option Addr) (n1 c1 : Nat) (a2 a3 : Int) : (Instr.lookup 60 (.map (some (w.heap.size + 1 + 1))) (.int .u8 119) true).run Tryd.prog (((w.alloc (.cells #[.slice A0 n0 c0, .slice A1 n1 c1, .int .i64 a2, .int .i64 a3] 32)).alloc (.cells #[.slice A0 n0 c0, .slice A1 n1 c1, .int .i64 a2, .int .i64 a3] 58)).alloc (opM (.agg #[.slice A0 n0 c0, .slice A1 n1 c1, .int .i64 a2, .int .i64 a3]) 8)) = .ok (.tuple #[.func (.func 34) #[.agg #[.slice A0 n0 c0, .slice A1 n1 c1, .int .i64 a2, .int .i64 a3]] #[], .bool true]) (((w.alloc (.cells #[.slice A0 n0 c0, .slice A1 n1 c1, .int .i64 a2, .int .i64 a3] 32)).alloc (.cells #[.slice A0 n0 c0, .slice A1 n1 c1, .int .i64 a2, .int .i64 a3] 58)).alloc (opM (.agg #[.slice A0 n0 c0, .slice A1 n1 c1, .int .i64 a2, .int .i64 a3]) 8)) := run_look_int (opW w #[.slice A0 n0 c0, .slice A1 n1 c1, .int .i64 a2, .int .i64 a3]) Tryd.underlying60 Tryd.underlying5 _ (opW_size w _) _ 8 119 3 (.func (.func 34) #[.agg #[.slice A0 n0 c0, .slice A1 n1 c1, .int .i64 a2, .int .i64 a3]] #[]) true rfl
theorem opL102 (w : World) (A0 : Option Addr) (n0 c0 : Nat) (A1 : Option Addr) (n1 c1 : Nat) (a2 a3 : Int) : (Instr.lookup 60 (.map (some (w.heap.size + 1 + 1))) (.int .u8 102) true).run Tryd.prog (((w.alloc (.cells #[.slice A0 n0 c0, .slice A1 n1 c1, .int .i64 a2, .int .i64 a3] 32)).alloc (.cells #[.slice A0 n0 c0, .slice A1 n1 c1, .int .i64 a2, .int .i64 a3] 58)).alloc (opM (.agg #[.slice A0 n0 c0, .slice A1 n1 c1, .int .i64 a2, .int .i64 a3]) 8)) = .ok (.tuple #[.func (.func 35) #[.agg #[.slice A0 n0 c0, .slice A1 n1 c1, .int .i64 a2, .int .i64 a3]] #[], .bool true]) (((w.alloc (.cells #[.slice A0 n0 c0, .slice A1 n1 c1, .int .i64 a2, .int .i64 a3] 32)).alloc (.cells #[.slice A0 n0 c0, .slice A1 n1 c1, .int .i64 a2, .int .i64 a3] 58)).alloc (opM (.agg #[.slice A0 n0 c0, .slice A1 n1 c1, .int .i64 a2, .int .i64 a3]) 8)) := run_look_int (opW w #[.slice A0 n0 c0, .slice A1 n1 c1, .int .i64 a2, .int .i64 a3]) Tryd.underlying60 Tryd.underlying5 _ (opW_size w _) _ 8 102 4 (.func (.func 35) #[.agg #[.slice A0 n0 c0, .slice A1 n1 c1, .int .i64 a2, .int .i64 a3]] #[]) true rfl
theorem opL116 (w : World) (A0 : Option Addr) (n0 c0 : Nat) (A1 : Option Addr) (n1 c1 : Nat) (a2 a3 : Int) : (Instr.lookup 60 (.map (some (w.heap.size + 1 + 1))) (.int .u8 116) true).run Tryd.prog (((w.alloc (.cells #[.slice A0 n0 c0, .slice A1 n1 c1, .int .i64 a2, .int .i64 a3] 32)).alloc (.cells #[.slice A0 n0 c0, .slice A1 n1 c1, .int .i64 a2, .int .i64 a3] 58)).alloc (opM (.agg #[.slice A0 n0 c0, .slice A1 n1 c1, .int .i64 a2, .int .i64 a3]) 8)) = .ok (.tuple #[.func (.func 36) #[.agg #[.slice A0 n0 c0, .slice A1 n1 c1, .int .i64 a2, .int .i64 a3]] #[], .bool true]) (((w.alloc (.cells #[.slice A0 n0 c0, .slice A1 n1 c1, .int .i64 a2, .int .i64 a3] 32)).alloc (.cells #[.slice A0 n0 c0, .slice A1 n1 c1, .int .i64 a2, .int .i64 a3] 58)).alloc (opM (.agg #[.slice A0 n0 c0, .slice A1 n1 c1, .int .i64 a2, .int .i64 a3]) 8)) := run_look_int (opW w #[.slice A0 n0 c0, .slice A1 n1 c1, .int .i64 a2, .int .i64 a3]) Tryd.underlying60 Tryd.underlying5 _ (opW_size w _) _ 8 116 5 (.func (.func 36) #[.agg #[.slice A0 n0 c0, .slice A1 n1 c1, .int .i64 a2, .int .i64 a3]] #[]) true rfl
theorem opL99 (w : World) (A0 : Option Addr) (n0 c0 : Nat) (A1 : Option Addr) (n1 c1 : Nat) (a2 a3 : Int) : (Instr.lookup 60 (.map (some (w.heap.size + 1 + 1))) (.int .u8 99) true).run Tryd.prog (((w.alloc (.cells #[.slice A0 n0 c0, .slice A1 n1 c1, .int .i64 a2, .int .i64 a3] 32)).alloc (.cells #[.slice A0 n0 c0, .slice A1 n1 c1, .int .i64 a2, .int .i64 a3] 58)).alloc (opM (.agg #[.slice A0 n0 c0, .slice A1 n1 c1, .int .i64 a2, .int .i64 a3]) 8)) = .ok (.tuple #[.func (.func 37) #[.agg #[.slice A0 n0 c0, .slice A1 n1 c1, .int .i64 a2, .int .i64 a3]] #[], .bool true]) (((w.alloc (.cells #[.slice A0 n0 c0, .slice A1 n1 c1, .int .i64 a2, .int .i64 a3] 32)).alloc (.cells #[.slice A0 n0 c0, .slice A1 n1 c1, .int .i64 a2, .int .i64 a3] 58)).alloc (opM (.agg #[.slice A0 n0 c0, .slice A1 n1 c1, .int .i64 a2, .int .i64 a3]) 8)) := run_look_int (opW w #[.slice A0 n0 c0, .slice A1 n1 c1, .int .i64 a2, .int .i64 a3]) Tryd.underlying60 Tryd.underlying5 _ (opW_size w _) _ 8 99 6 (.func (.func 37) #[.agg #[.slice A0 n0 c0, .slice A1 n1 c1, .int .i64 a2, .int .i64 a3]] #[]) true rfl
theorem opL101 (w : World) (A0 : Option Addr) (n0 c0 : Nat) (A1 : Option Addr) (n1 c1 : Nat) (a2 a3 : Int) : (Instr.lookup 60 (.map (some (w.heap.size + 1 + 1))) (.int .u8 101) true).run Tryd.prog (((w.alloc (.cells #[.slice A0 n0 c0, .slice A1 n1 c1, .int .i64 a2, .int .i64 a3] 32)).alloc (.cells #[.slice A0 n0 c0, .slice A1 n1 c1, .int .i64 a2, .int .i64 a3] 58)).alloc (opM (.agg #[.slice A0 n0 c0, .slice A1 n1 c1, .int .i64 a2, .int .i64 a3]) 8)) = .ok (.tuple #[.func (.func 37) #[.agg #[.slice A0 n0 c0, .slice A1 n1 c1, .int .i64 a2, .int .i64 a3]] #[], .bool true]) (((w.alloc (.cells #[.slice A0 n0 c0, .slice A1 n1 c1, .int .i64 a2, .int .i64 a3] 32)).alloc (.cells #[.slice A0 n0 c0, .slice A1 n1 c1, .int .i64 a2, .int .i64 a3] 58)).alloc (opM (.agg #[.slice A0 n0 c0, .slice A1 n1 c1, .int .i64 a2, .int .i64 a3]) 8)) := run_look_int (opW w #[.slice A0 n0 c0, .slice A1 n1 c1, .int .i64 a2, .int .i64 a3]) Tryd.underlying60 Tryd.underlying5 _ (opW_size w _) _ 8 101 7 (.func (.func 37) #[.agg #[.slice A0 n0 c0, .slice A1 n1 c1, .int .i64 a2, .int .i64 a3]] #[]) true rfl
set_option maxHeartbeats 1000000 in
set_option maxRecDepth 100000 in
theorem operand_110 (P0 P1 : Nat → Prop) (A0 : Option Addr) (c0 : Nat) (l0 : List Int) (A1 : Option Addr) (c1 : Nat) (l1 : List Int) (a2 a3 : Int) (r : List Int) (w : World) (hw : ¬ 0 < a2) (hs0 : Kd.V (Kd.int .u8) 5 w w.heap.size (fun k_ => P0 k_) (.slice A0 l0.length c0) l0) (hs1 : Kd.V (Kd.int .u8) 5 w w.heap.size (fun k_ => P1 k_) (.slice A1 l1.length c1) l1) (h : oper_told_i.f l0 l1 a2 a3 = some r) :
    Calls Tryd.prog 19 #[.agg #[.slice A0 l0.length c0, .slice A1 l1.length c1, .int .i64 a2, .int .i64 a3], .int .u8 110] w (OpPost w P0 P1 r true) := by
  have hc := Aside0.mk (oper_told_i.calls P0 _ _ l0 _ _ l1 a2 a3 r (((w.alloc (.cells #[.slice A0 l0.length c0, .slice A1 l1.length c1, .int .i64 a2, .int .i64 a3] 32)).alloc (.cells #[.slice A0 l0.length c0, .slice A1 l1.length c1, .int .i64 a2, .int .i64 a3] 58)).alloc (opM (.agg #[.slice A0 l0.length c0, .slice A1 l1.length c1, .int .i64 a2, .int .i64 a3]) 8)) (Kd.V_below hs0 (opW_below w _ _)) (Kd.V_reads' (Kd.V_below hs1 (opW_below w _ _))).2.2 (Kd.V_reads' hs1).2.1 h)
  have hb := Aside0.mk (opW_below w #[.slice A0 l0.length c0, .slice A1 l1.length c1, .int .i64 a2, .int .i64 a3] (opM (.agg #[.slice A0 l0.length c0, .slice A1 l1.length c1, .int .i64 a2, .int .i64 a3]) 8))
  have hq : Aside0 (∀ k, (fun k_ => (P0 k_ ∨ (((w.alloc (.cells #[.slice A0 l0.length c0, .slice A1 l1.length c1, .int .i64 a2, .int .i64 a3] 32)).alloc (.cells #[.slice A0 l0.length c0, .slice A1 l1.length c1, .int .i64 a2, .int .i64 a3] 58)).alloc (opM (.agg #[.slice A0 l0.length c0, .slice A1 l1.length c1, .int .i64 a2, .int .i64 a3]) 8)).heap.size ≤ k_)) k → (P0 k ∨ P1 k) ∨ w.heap.size ≤ k) := ⟨fun k hk => by rcases hk with h | h; exact .inl (.inl h); exact .inr (Nat.le_trans hb.out.size h)⟩
  clear hs0 hs1 h
  have hmm := @run_makeMap Tryd.prog
  have hi0 := opI0 w A0 l0.length c0 A1 l1.length c1 a2 a3
  have hi1 := opI1 w A0 l0.length c0 A1 l1.length c1 a2 a3
  have hi2 := opI2 w A0 l0.length c0 A1 l1.length c1 a2 a3
  have hi3 := opI3 w A0 l0.length c0 A1 l1.length c1 a2 a3
  have hi4 := opI4 w A0 l0.length c0 A1 l1.length c1 a2 a3
  have hi5 := opI5 w A0 l0.length c0 A1 l1.length c1 a2 a3
  have hi6 := opI6 w A0 l0.length c0 A1 l1.length c1 a2 a3
  have hi7 := opI7 w A0 l0.length c0 A1 l1.length c1 a2 a3
  have hl := opL110 w A0 l0.length c0 A1 l1.length c1 a2 a3
  go_enter Tryd.func19, Tryd.ntmps19
  go_wp2_with (go_at_call 32; refine hc.out.mono ?_; rintro e w2 ⟨v, rfl, ho, hb2⟩; have HO := Aside0.mk ho; have HB2 := Aside0.mk hb2; clear ho hb2)
  go_ret2
  exact ⟨_, rfl, OpEnd.of hb.out hq.out HO.out HB2.out⟩
set_option maxHeartbeats 1000000 in
set_option maxRecDepth 100000 in
theorem operand_105 (P0 P1 : Nat → Prop) (A0 : Option Addr) (c0 : Nat) (l0 : List Int) (A1 : Option Addr) (c1 : Nat) (l1 : List Int) (a2 a3 : Int) (r : List Int) (w : World) (hs0 : Kd.V (Kd.int .u8) 5 w w.heap.size (fun k_ => P0 k_) (.slice A0 l0.length c0) l0) (hs1 : Kd.V (Kd.int .u8) 5 w w.heap.size (fun k_ => P1 k_) (.slice A1 l1.length c1) l1) (h : oper_told_i.f l0 l1 a2 a3 = some r) :
    Calls Tryd.prog 19 #[.agg #[.slice A0 l0.length c0, .slice A1 l1.length c1, .int .i64 a2, .int .i64 a3], .int .u8 105] w (OpPost w P0 P1 r true) := by
  have hc := Aside0.mk (oper_told_i.calls P0 _ _ l0 _ _ l1 a2 a3 r (((w.alloc (.cells #[.slice A0 l0.length c0, .slice A1 l1.length c1, .int .i64 a2, .int .i64 a3] 32)).alloc (.cells #[.slice A0 l0.length c0, .slice A1 l1.length c1, .int .i64 a2, .int .i64 a3] 58)).alloc (opM (.agg #[.slice A0 l0.length c0, .slice A1 l1.length c1, .int .i64 a2, .int .i64 a3]) 8)) (Kd.V_below hs0 (opW_below w _ _)) (Kd.V_reads' (Kd.V_below hs1 (opW_below w _ _))).2.2 (Kd.V_reads' hs1).2.1 h)
  have hb := Aside0.mk (opW_below w #[.slice A0 l0.length c0, .slice A1 l1.length c1, .int .i64 a2, .int .i64 a3] (opM (.agg #[.slice A0 l0.length c0, .slice A1 l1.length c1, .int .i64 a2, .int .i64 a3]) 8))
  have hq : Aside0 (∀ k, (fun k_ => (P0 k_ ∨ (((w.alloc (.cells #[.slice A0 l0.length c0, .slice A1 l1.length c1, .int .i64 a2, .int .i64 a3] 32)).alloc (.cells #[.slice A0 l0.length c0, .slice A1 l1.length c1, .int .i64 a2, .int .i64 a3] 58)).alloc (opM (.agg #[.slice A0 l0.length c0, .slice A1 l1.length c1, .int .i64 a2, .int .i64 a3]) 8)).heap.size ≤ k_)) k → (P0 k ∨ P1 k) ∨ w.heap.size ≤ k) := ⟨fun k hk => by rcases hk with h | h; exact .inl (.inl h); exact .inr (Nat.le_trans hb.out.size h)⟩
  clear hs0 hs1 h
  have hmm := @run_makeMap Tryd.prog
  have hi0 := opI0 w A0 l0.length c0 A1 l1.length c1 a2 a3
  have hi1 := opI1 w A0 l0.length c0 A1 l1.length c1 a2 a3
  have hi2 := opI2 w A0 l0.length c0 A1 l1.length c1 a2 a3
  have hi3 := opI3 w A0 l0.length c0 A1 l1.length c1 a2 a3
  have hi4 := opI4 w A0 l0.length c0 A1 l1.length c1 a2 a3
  have hi5 := opI5 w A0 l0.length c0 A1 l1.length c1 a2 a3
  have hi6 := opI6 w A0 l0.length c0 A1 l1.length c1 a2 a3
  have hi7 := opI7 w A0 l0.length c0 A1 l1.length c1 a2 a3
  have hl := opL105 w A0 l0.length c0 A1 l1.length c1 a2 a3
  go_enter Tryd.func19, Tryd.ntmps19
  go_wp2_with (go_at_call 32; refine hc.out.mono ?_; rintro e w2 ⟨v, rfl, ho, hb2⟩; have HO := Aside0.mk ho; have HB2 := Aside0.mk hb2; clear ho hb2)
  go_ret2
  exact ⟨_, rfl, OpEnd.of hb.out hq.out HO.out HB2.out⟩
set_option maxHeartbeats 1000000 in
set_option maxRecDepth 100000 in
theorem operand_118 (P0 P1 : Nat → Prop) (A0 : Option Addr) (c0 : Nat) (l0 : List Int) (A1 : Option Addr) (c1 : Nat) (l1 : List Int) (a2 a3 : Int) (r : List Int) (w : World) (hG : GL w) (hs0 : Kd.V (Kd.int .u8) 5 w w.heap.size (fun k_ => P0 k_) (.slice A0 l0.length c0) l0) (hs1 : Kd.V (Kd.int .u8) 5 w w.heap.size (fun k_ => P1 k_) (.slice A1 l1.length c1) l1) (h : oper_told_v.f l0 l1 a2 a3 = some r) :
    Calls Tryd.prog 19 #[.agg #[.slice A0 l0.length c0, .slice A1 l1.length c1, .int .i64 a2, .int .i64 a3], .int .u8 118] w (OpPost w P0 P1 r true) := by
  have hc := Aside0.mk (oper_told_v.calls  _ _ l0 _ _ l1 a2 a3 r (((w.alloc (.cells #[.slice A0 l0.length c0, .slice A1 l1.length c1, .int .i64 a2, .int .i64 a3] 32)).alloc (.cells #[.slice A0 l0.length c0, .slice A1 l1.length c1, .int .i64 a2, .int .i64 a3] 58)).alloc (opM (.agg #[.slice A0 l0.length c0, .slice A1 l1.length c1, .int .i64 a2, .int .i64 a3]) 8)) (hG.below (opW_below w _ _)) (Kd.V_reads' (Kd.V_below hs0 (opW_below w _ _))).2.2 (Kd.V_reads' hs0).2.1 (Kd.V_reads' (Kd.V_below hs1 (opW_below w _ _))).2.2 (Kd.V_reads' hs1).2.1 h)
  have hb := Aside0.mk (opW_below w #[.slice A0 l0.length c0, .slice A1 l1.length c1, .int .i64 a2, .int .i64 a3] (opM (.agg #[.slice A0 l0.length c0, .slice A1 l1.length c1, .int .i64 a2, .int .i64 a3]) 8))
  have hq : Aside0 (∀ k, (fun k_ => ((((w.alloc (.cells #[.slice A0 l0.length c0, .slice A1 l1.length c1, .int .i64 a2, .int .i64 a3] 32)).alloc (.cells #[.slice A0 l0.length c0, .slice A1 l1.length c1, .int .i64 a2, .int .i64 a3] 58)).alloc (opM (.agg #[.slice A0 l0.length c0, .slice A1 l1.length c1, .int .i64 a2, .int .i64 a3]) 8)).heap.size ≤ k_)) k → (P0 k ∨ P1 k) ∨ w.heap.size ≤ k) := ⟨fun k hk => by exact .inr (Nat.le_trans hb.out.size hk)⟩
  clear hs0 hs1 h hG
  have hmm := @run_makeMap Tryd.prog
  have hi0 := opI0 w A0 l0.length c0 A1 l1.length c1 a2 a3
  have hi1 := opI1 w A0 l0.length c0 A1 l1.length c1 a2 a3
  have hi2 := opI2 w A0 l0.length c0 A1 l1.length c1 a2 a3
  have hi3 := opI3 w A0 l0.length c0 A1 l1.length c1 a2 a3
  have hi4 := opI4 w A0 l0.length c0 A1 l1.length c1 a2 a3
  have hi5 := opI5 w A0 l0.length c0 A1 l1.length c1 a2 a3
  have hi6 := opI6 w A0 l0.length c0 A1 l1.length c1 a2 a3
  have hi7 := opI7 w A0 l0.length c0 A1 l1.length c1 a2 a3
  have hl := opL118 w A0 l0.length c0 A1 l1.length c1 a2 a3
  go_enter Tryd.func19, Tryd.ntmps19
  go_wp2_with (go_at_call 33; refine hc.out.mono ?_; rintro e w2 ⟨v, rfl, ho, hb2⟩; have HO := Aside0.mk ho; have HB2 := Aside0.mk hb2; clear ho hb2)
  go_ret2
  exact ⟨_, rfl, OpEnd.of hb.out hq.out HO.out HB2.out⟩
set_option maxHeartbeats 1000000 in
set_option maxRecDepth 100000 in
theorem operand_119 (P0 P1 : Nat → Prop) (A0 : Option Addr) (c0 : Nat) (l0 : List Int) (A1 : Option Addr) (c1 : Nat) (l1 : List Int) (a2 a3 : Int) (r : List Int) (w : World) (hG : GL w) (hs0 : Kd.V (Kd.int .u8) 5 w w.heap.size (fun k_ => P0 k_) (.slice A0 l0.length c0) l0) (hs1 : Kd.V (Kd.int .u8) 5 w w.heap.size (fun k_ => P1 k_) (.slice A1 l1.length c1) l1) (h : oper_told_w.f l0 l1 a2 a3 = some r) :
    Calls Tryd.prog 19 #[.agg #[.slice A0 l0.length c0, .slice A1 l1.length c1, .int .i64 a2, .int .i64 a3], .int .u8 119] w (OpPost w P0 P1 r true) := by
  have hc := Aside0.mk (oper_told_w.calls  _ _ l0 _ _ l1 a2 a3 r (((w.alloc (.cells #[.slice A0 l0.length c0, .slice A1 l1.length c1, .int .i64 a2, .int .i64 a3] 32)).alloc (.cells #[.slice A0 l0.length c0, .slice A1 l1.length c1, .int .i64 a2, .int .i64 a3] 58)).alloc (opM (.agg #[.slice A0 l0.length c0, .slice A1 l1.length c1, .int .i64 a2, .int .i64 a3]) 8)) (hG.below (opW_below w _ _)) (Kd.V_reads' (Kd.V_below hs0 (opW_below w _ _))).2.2 (Kd.V_reads' hs0).2.1 (Kd.V_reads' (Kd.V_below hs1 (opW_below w _ _))).2.2 (Kd.V_reads' hs1).2.1 h)
  have hb := Aside0.mk (opW_below w #[.slice A0 l0.length c0, .slice A1 l1.length c1, .int .i64 a2, .int .i64 a3] (opM (.agg #[.slice A0 l0.length c0, .slice A1 l1.length c1, .int .i64 a2, .int .i64 a3]) 8))
  have hq : Aside0 (∀ k, (fun k_ => ((((w.alloc (.cells #[.slice A0 l0.length c0, .slice A1 l1.length c1, .int .i64 a2, .int .i64 a3] 32)).alloc (.cells #[.slice A0 l0.length c0, .slice A1 l1.length c1, .int .i64 a2, .int .i64 a3] 58)).alloc (opM (.agg #[.slice A0 l0.length c0, .slice A1 l1.length c1, .int .i64 a2, .int .i64 a3]) 8)).heap.size ≤ k_)) k → (P0 k ∨ P1 k) ∨ w.heap.size ≤ k) := ⟨fun k hk => by exact .inr (Nat.le_trans hb.out.size hk)⟩
  clear hs0 hs1 h hG
  have hmm := @run_makeMap Tryd.prog
  have hi0 := opI0 w A0 l0.length c0 A1 l1.length c1 a2 a3
  have hi1 := opI1 w A0 l0.length c0 A1 l1.length c1 a2 a3
  have hi2 := opI2 w A0 l0.length c0 A1 l1.length c1 a2 a3
  have hi3 := opI3 w A0 l0.length c0 A1 l1.length c1 a2 a3
  have hi4 := opI4 w A0 l0.length c0 A1 l1.length c1 a2 a3
  have hi5 := opI5 w A0 l0.length c0 A1 l1.length c1 a2 a3
  have hi6 := opI6 w A0 l0.length c0 A1 l1.length c1 a2 a3
  have hi7 := opI7 w A0 l0.length c0 A1 l1.length c1 a2 a3
  have hl := opL119 w A0 l0.length c0 A1 l1.length c1 a2 a3
  go_enter Tryd.func19, Tryd.ntmps19
  go_wp2_with (go_at_call 34; refine hc.out.mono ?_; rintro e w2 ⟨v, rfl, ho, hb2⟩; have HO := Aside0.mk ho; have HB2 := Aside0.mk hb2; clear ho hb2)
  go_ret2
  exact ⟨_, rfl, OpEnd.of hb.out hq.out HO.out HB2.out⟩
set_option maxHeartbeats 1000000 in
set_option maxRecDepth 100000 in
theorem operand_102 (P0 P1 : Nat → Prop) (A0 : Option Addr) (c0 : Nat) (l0 : List Int) (A1 : Option Addr) (c1 : Nat) (l1 : List Int) (a2 a3 : Int) (r : List Int) (w : World) (hs0 : Kd.V (Kd.int .u8) 5 w w.heap.size (fun k_ => P0 k_) (.slice A0 l0.length c0) l0) (hs1 : Kd.V (Kd.int .u8) 5 w w.heap.size (fun k_ => P1 k_) (.slice A1 l1.length c1) l1) (h : oper_told_f.f l0 l1 a2 a3 = some r) :
    Calls Tryd.prog 19 #[.agg #[.slice A0 l0.length c0, .slice A1 l1.length c1, .int .i64 a2, .int .i64 a3], .int .u8 102] w (OpPost w P0 P1 r true) := by
  have hc := Aside0.mk (oper_told_f.calls  _ _ l0 P1 _ _ l1 a2 a3 r (((w.alloc (.cells #[.slice A0 l0.length c0, .slice A1 l1.length c1, .int .i64 a2, .int .i64 a3] 32)).alloc (.cells #[.slice A0 l0.length c0, .slice A1 l1.length c1, .int .i64 a2, .int .i64 a3] 58)).alloc (opM (.agg #[.slice A0 l0.length c0, .slice A1 l1.length c1, .int .i64 a2, .int .i64 a3]) 8)) (Kd.V_reads' (Kd.V_below hs0 (opW_below w _ _))).2.2 (Kd.V_reads' hs0).2.1 (Kd.V_below hs1 (opW_below w _ _)) h)
  have hb := Aside0.mk (opW_below w #[.slice A0 l0.length c0, .slice A1 l1.length c1, .int .i64 a2, .int .i64 a3] (opM (.agg #[.slice A0 l0.length c0, .slice A1 l1.length c1, .int .i64 a2, .int .i64 a3]) 8))
  have hq : Aside0 (∀ k, (fun k_ => (P1 k_ ∨ (((w.alloc (.cells #[.slice A0 l0.length c0, .slice A1 l1.length c1, .int .i64 a2, .int .i64 a3] 32)).alloc (.cells #[.slice A0 l0.length c0, .slice A1 l1.length c1, .int .i64 a2, .int .i64 a3] 58)).alloc (opM (.agg #[.slice A0 l0.length c0, .slice A1 l1.length c1, .int .i64 a2, .int .i64 a3]) 8)).heap.size ≤ k_)) k → (P0 k ∨ P1 k) ∨ w.heap.size ≤ k) := ⟨fun k hk => by rcases hk with h | h; exact .inl (.inr h); exact .inr (Nat.le_trans hb.out.size h)⟩
  clear hs0 hs1 h
  have hmm := @run_makeMap Tryd.prog
  have hi0 := opI0 w A0 l0.length c0 A1 l1.length c1 a2 a3
  have hi1 := opI1 w A0 l0.length c0 A1 l1.length c1 a2 a3
  have hi2 := opI2 w A0 l0.length c0 A1 l1.length c1 a2 a3
  have hi3 := opI3 w A0 l0.length c0 A1 l1.length c1 a2 a3
  have hi4 := opI4 w A0 l0.length c0 A1 l1.length c1 a2 a3
  have hi5 := opI5 w A0 l0.length c0 A1 l1.length c1 a2 a3
  have hi6 := opI6 w A0 l0.length c0 A1 l1.length c1 a2 a3
  have hi7 := opI7 w A0 l0.length c0 A1 l1.length c1 a2 a3
  have hl := opL102 w A0 l0.length c0 A1 l1.length c1 a2 a3
  go_enter Tryd.func19, Tryd.ntmps19
  go_wp2_with (go_at_call 35; refine hc.out.mono ?_; rintro e w2 ⟨v, rfl, ho, hb2⟩; have HO := Aside0.mk ho; have HB2 := Aside0.mk hb2; clear ho hb2)
  go_ret2
  exact ⟨_, rfl, OpEnd.of hb.out hq.out HO.out HB2.out⟩
set_option maxHeartbeats 1000000 in
set_option maxRecDepth 100000 in
theorem operand_116 (P0 P1 : Nat → Prop) (A0 : Option Addr) (c0 : Nat) (l0 : List Int) (A1 : Option Addr) (c1 : Nat) (l1 : List Int) (a2 a3 : Int) (r : List Int) (w : World) (hs0 : Kd.V (Kd.int .u8) 5 w w.heap.size (fun k_ => P0 k_) (.slice A0 l0.length c0) l0) (hs1 : Kd.V (Kd.int .u8) 5 w w.heap.size (fun k_ => P1 k_) (.slice A1 l1.length c1) l1) (h : oper_told_t.f l0 l1 a2 a3 = some r) :
    Calls Tryd.prog 19 #[.agg #[.slice A0 l0.length c0, .slice A1 l1.length c1, .int .i64 a2, .int .i64 a3], .int .u8 116] w (OpPost w P0 P1 r true) := by
  have hc := Aside0.mk (oper_told_t.calls  _ _ l0 P1 _ _ l1 a2 a3 r (((w.alloc (.cells #[.slice A0 l0.length c0, .slice A1 l1.length c1, .int .i64 a2, .int .i64 a3] 32)).alloc (.cells #[.slice A0 l0.length c0, .slice A1 l1.length c1, .int .i64 a2, .int .i64 a3] 58)).alloc (opM (.agg #[.slice A0 l0.length c0, .slice A1 l1.length c1, .int .i64 a2, .int .i64 a3]) 8)) (Kd.V_reads' (Kd.V_below hs0 (opW_below w _ _))).2.2 (Kd.V_reads' hs0).2.1 (Kd.V_below hs1 (opW_below w _ _)) h)
  have hb := Aside0.mk (opW_below w #[.slice A0 l0.length c0, .slice A1 l1.length c1, .int .i64 a2, .int .i64 a3] (opM (.agg #[.slice A0 l0.length c0, .slice A1 l1.length c1, .int .i64 a2, .int .i64 a3]) 8))
  have hq : Aside0 (∀ k, (fun k_ => (P1 k_ ∨ (((w.alloc (.cells #[.slice A0 l0.length c0, .slice A1 l1.length c1, .int .i64 a2, .int .i64 a3] 32)).alloc (.cells #[.slice A0 l0.length c0, .slice A1 l1.length c1, .int .i64 a2, .int .i64 a3] 58)).alloc (opM (.agg #[.slice A0 l0.length c0, .slice A1 l1.length c1, .int .i64 a2, .int .i64 a3]) 8)).heap.size ≤ k_)) k → (P0 k ∨ P1 k) ∨ w.heap.size ≤ k) := ⟨fun k hk => by rcases hk with h | h; exact .inl (.inr h); exact .inr (Nat.le_trans hb.out.size h)⟩
  clear hs0 hs1 h
  have hmm := @run_makeMap Tryd.prog
  have hi0 := opI0 w A0 l0.length c0 A1 l1.length c1 a2 a3
  have hi1 := opI1 w A0 l0.length c0 A1 l1.length c1 a2 a3
  have hi2 := opI2 w A0 l0.length c0 A1 l1.length c1 a2 a3
  have hi3 := opI3 w A0 l0.length c0 A1 l1.length c1 a2 a3
  have hi4 := opI4 w A0 l0.length c0 A1 l1.length c1 a2 a3
  have hi5 := opI5 w A0 l0.length c0 A1 l1.length c1 a2 a3
  have hi6 := opI6 w A0 l0.length c0 A1 l1.length c1 a2 a3
  have hi7 := opI7 w A0 l0.length c0 A1 l1.length c1 a2 a3
  have hl := opL116 w A0 l0.length c0 A1 l1.length c1 a2 a3
  go_enter Tryd.func19, Tryd.ntmps19
  go_wp2_with (go_at_call 36; refine hc.out.mono ?_; rintro e w2 ⟨v, rfl, ho, hb2⟩; have HO := Aside0.mk ho; have HB2 := Aside0.mk hb2; clear ho hb2)
  go_ret2
  exact ⟨_, rfl, OpEnd.of hb.out hq.out HO.out HB2.out⟩
set_option maxHeartbeats 1000000 in
set_option maxRecDepth 100000 in
theorem operand_99 (P0 P1 : Nat → Prop) (A0 : Option Addr) (c0 : Nat) (l0 : List Int) (A1 : Option Addr) (c1 : Nat) (l1 : List Int) (a2 a3 : Int) (r : List Int) (w : World) (hG : GL w) (hs0 : Kd.V (Kd.int .u8) 5 w w.heap.size (fun k_ => P0 k_) (.slice A0 l0.length c0) l0) (hs1 : Kd.V (Kd.int .u8) 5 w w.heap.size (fun k_ => P1 k_) (.slice A1 l1.length c1) l1) (h : oper_told_c.f l0 l1 a2 a3 = some r) :
    Calls Tryd.prog 19 #[.agg #[.slice A0 l0.length c0, .slice A1 l1.length c1, .int .i64 a2, .int .i64 a3], .int .u8 99] w (OpPost w P0 P1 r true) := by
  have hc := Aside0.mk (oper_told_c.calls  _ _ l0 _ _ l1 a2 a3 r (((w.alloc (.cells #[.slice A0 l0.length c0, .slice A1 l1.length c1, .int .i64 a2, .int .i64 a3] 32)).alloc (.cells #[.slice A0 l0.length c0, .slice A1 l1.length c1, .int .i64 a2, .int .i64 a3] 58)).alloc (opM (.agg #[.slice A0 l0.length c0, .slice A1 l1.length c1, .int .i64 a2, .int .i64 a3]) 8)) (hG.below (opW_below w _ _)) (Kd.V_reads' (Kd.V_below hs0 (opW_below w _ _))).2.2 (Kd.V_reads' hs0).2.1 (Kd.V_reads' (Kd.V_below hs1 (opW_below w _ _))).2.2 (Kd.V_reads' hs1).2.1 h)
  have hb := Aside0.mk (opW_below w #[.slice A0 l0.length c0, .slice A1 l1.length c1, .int .i64 a2, .int .i64 a3] (opM (.agg #[.slice A0 l0.length c0, .slice A1 l1.length c1, .int .i64 a2, .int .i64 a3]) 8))
  have hq : Aside0 (∀ k, (fun k_ => ((((w.alloc (.cells #[.slice A0 l0.length c0, .slice A1 l1.length c1, .int .i64 a2, .int .i64 a3] 32)).alloc (.cells #[.slice A0 l0.length c0, .slice A1 l1.length c1, .int .i64 a2, .int .i64 a3] 58)).alloc (opM (.agg #[.slice A0 l0.length c0, .slice A1 l1.length c1, .int .i64 a2, .int .i64 a3]) 8)).heap.size ≤ k_)) k → (P0 k ∨ P1 k) ∨ w.heap.size ≤ k) := ⟨fun k hk => by exact .inr (Nat.le_trans hb.out.size hk)⟩
  clear hs0 hs1 h hG
  have hmm := @run_makeMap Tryd.prog
  have hi0 := opI0 w A0 l0.length c0 A1 l1.length c1 a2 a3
  have hi1 := opI1 w A0 l0.length c0 A1 l1.length c1 a2 a3
  have hi2 := opI2 w A0 l0.length c0 A1 l1.length c1 a2 a3
  have hi3 := opI3 w A0 l0.length c0 A1 l1.length c1 a2 a3
  have hi4 := opI4 w A0 l0.length c0 A1 l1.length c1 a2 a3
  have hi5 := opI5 w A0 l0.length c0 A1 l1.length c1 a2 a3
  have hi6 := opI6 w A0 l0.length c0 A1 l1.length c1 a2 a3
  have hi7 := opI7 w A0 l0.length c0 A1 l1.length c1 a2 a3
  have hl := opL99 w A0 l0.length c0 A1 l1.length c1 a2 a3
  go_enter Tryd.func19, Tryd.ntmps19
  go_wp2_with (go_at_call 37; refine hc.out.mono ?_; rintro e w2 ⟨v, rfl, ho, hb2⟩; have HO := Aside0.mk ho; have HB2 := Aside0.mk hb2; clear ho hb2)
  go_ret2
  exact ⟨_, rfl, OpEnd.of hb.out hq.out HO.out HB2.out⟩
set_option maxHeartbeats 1000000 in
set_option maxRecDepth 100000 in
theorem operand_101 (P0 P1 : Nat → Prop) (A0 : Option Addr) (c0 : Nat) (l0 : List Int) (A1 : Option Addr) (c1 : Nat) (l1 : List Int) (a2 a3 : Int) (r : List Int) (w : World) (hG : GL w) (hs0 : Kd.V (Kd.int .u8) 5 w w.heap.size (fun k_ => P0 k_) (.slice A0 l0.length c0) l0) (hs1 : Kd.V (Kd.int .u8) 5 w w.heap.size (fun k_ => P1 k_) (.slice A1 l1.length c1) l1) (h : oper_told_c.f l0 l1 a2 a3 = some r) :
    Calls Tryd.prog 19 #[.agg #[.slice A0 l0.length c0, .slice A1 l1.length c1, .int .i64 a2, .int .i64 a3], .int .u8 101] w (OpPost w P0 P1 r true) := by
  have hc := Aside0.mk (oper_told_c.calls  _ _ l0 _ _ l1 a2 a3 r (((w.alloc (.cells #[.slice A0 l0.length c0, .slice A1 l1.length c1, .int .i64 a2, .int .i64 a3] 32)).alloc (.cells #[.slice A0 l0.length c0, .slice A1 l1.length c1, .int .i64 a2, .int .i64 a3] 58)).alloc (opM (.agg #[.slice A0 l0.length c0, .slice A1 l1.length c1, .int .i64 a2, .int .i64 a3]) 8)) (hG.below (opW_below w _ _)) (Kd.V_reads' (Kd.V_below hs0 (opW_below w _ _))).2.2 (Kd.V_reads' hs0).2.1 (Kd.V_reads' (Kd.V_below hs1 (opW_below w _ _))).2.2 (Kd.V_reads' hs1).2.1 h)
  have hb := Aside0.mk (opW_below w #[.slice A0 l0.length c0, .slice A1 l1.length c1, .int .i64 a2, .int .i64 a3] (opM (.agg #[.slice A0 l0.length c0, .slice A1 l1.length c1, .int .i64 a2, .int .i64 a3]) 8))
  have hq : Aside0 (∀ k, (fun k_ => ((((w.alloc (.cells #[.slice A0 l0.length c0, .slice A1 l1.length c1, .int .i64 a2, .int .i64 a3] 32)).alloc (.cells #[.slice A0 l0.length c0, .slice A1 l1.length c1, .int .i64 a2, .int .i64 a3] 58)).alloc (opM (.agg #[.slice A0 l0.length c0, .slice A1 l1.length c1, .int .i64 a2, .int .i64 a3]) 8)).heap.size ≤ k_)) k → (P0 k ∨ P1 k) ∨ w.heap.size ≤ k) := ⟨fun k hk => by exact .inr (Nat.le_trans hb.out.size hk)⟩
  clear hs0 hs1 h hG
  have hmm := @run_makeMap Tryd.prog
  have hi0 := opI0 w A0 l0.length c0 A1 l1.length c1 a2 a3
  have hi1 := opI1 w A0 l0.length c0 A1 l1.length c1 a2 a3
  have hi2 := opI2 w A0 l0.length c0 A1 l1.length c1 a2 a3
  have hi3 := opI3 w A0 l0.length c0 A1 l1.length c1 a2 a3
  have hi4 := opI4 w A0 l0.length c0 A1 l1.length c1 a2 a3
  have hi5 := opI5 w A0 l0.length c0 A1 l1.length c1 a2 a3
  have hi6 := opI6 w A0 l0.length c0 A1 l1.length c1 a2 a3
  have hi7 := opI7 w A0 l0.length c0 A1 l1.length c1 a2 a3
  have hl := opL101 w A0 l0.length c0 A1 l1.length c1 a2 a3
  go_enter Tryd.func19, Tryd.ntmps19
  go_wp2_with (go_at_call 37; refine hc.out.mono ?_; rintro e w2 ⟨v, rfl, ho, hb2⟩; have HO := Aside0.mk ho; have HB2 := Aside0.mk hb2; clear ho hb2)
  go_ret2
  exact ⟨_, rfl, OpEnd.of hb.out hq.out HO.out HB2.out⟩
set_option maxHeartbeats 1000000 in
set_option maxRecDepth 100000 in
theorem operand_part (P0 P1 : Nat → Prop) (A0 : Option Addr) (c0 : Nat) (l0 : List Int) (A1 : Option Addr) (c1 : Nat) (l1 : List Int) (a2 a3 : Int) (w : World) (hw : 0 < a2) : Calls Tryd.prog 19 #[.agg #[.slice A0 l0.length c0, .slice A1 l1.length c1, .int .i64 a2, .int .i64 a3], .int .u8 110] w (OpPost w P0 P1 [] false) := by
  have hb := Aside0.mk (opW_below w #[.slice A0 l0.length c0, .slice A1 l1.length c1, .int .i64 a2, .int .i64 a3] (opM (.agg #[.slice A0 l0.length c0, .slice A1 l1.length c1, .int .i64 a2, .int .i64 a3]) 8))
  have hmm := @run_makeMap Tryd.prog
  have hi0 := opI0 w A0 l0.length c0 A1 l1.length c1 a2 a3
  have hi1 := opI1 w A0 l0.length c0 A1 l1.length c1 a2 a3
  have hi2 := opI2 w A0 l0.length c0 A1 l1.length c1 a2 a3
  have hi3 := opI3 w A0 l0.length c0 A1 l1.length c1 a2 a3
  have hi4 := opI4 w A0 l0.length c0 A1 l1.length c1 a2 a3
  have hi5 := opI5 w A0 l0.length c0 A1 l1.length c1 a2 a3
  have hi6 := opI6 w A0 l0.length c0 A1 l1.length c1 a2 a3
  have hi7 := opI7 w A0 l0.length c0 A1 l1.length c1 a2 a3
  have hl := opL110 w A0 l0.length c0 A1 l1.length c1 a2 a3
  go_enter Tryd.func19, Tryd.ntmps19
  go_wp2
  go_ret2
  exact ⟨_, rfl, Kd.V_nil _ _ _ _ _, hb.out⟩
theorem op_findNone (r : Value) (name : Int) (h110 : ¬ name = 110) (h105 : ¬ name = 105) (h118 : ¬ name = 118) (h119 : ¬ name = 119) (h102 : ¬ name = 102) (h116 : ¬ name = 116) (h99 : ¬ name = 99) (h101 : ¬ name = 101) : Instr.findNow (.int .u8) (.int .u8 name) (opEs r) 0 = some none := by
  have e : ∀ k : Int, ¬ name = k → Instr.sameNow (.int .u8) (.int .u8 name) (.int .u8 k) = some false := fun k hk => by simp [Instr.sameNow, hk]
  simp only [opEs, Instr.findNow, e _ h110, e _ h105, e _ h118, e _ h119, e _ h102, e _ h116, e _ h99, e _ h101]
set_option maxHeartbeats 1000000 in
set_option maxRecDepth 100000 in
theorem operand_none (P0 P1 : Nat → Prop) (A0 : Option Addr) (c0 : Nat) (l0 : List Int) (A1 : Option Addr) (c1 : Nat) (l1 : List Int) (a2 a3 : Int) (name : Int) (w : World) (h110 : ¬ name = 110) (h105 : ¬ name = 105) (h118 : ¬ name = 118) (h119 : ¬ name = 119) (h102 : ¬ name = 102) (h116 : ¬ name = 116) (h99 : ¬ name = 99) (h101 : ¬ name = 101) : Calls Tryd.prog 19 #[.agg #[.slice A0 l0.length c0, .slice A1 l1.length c1, .int .i64 a2, .int .i64 a3], .int .u8 name] w (OpPost w P0 P1 [] false) := by
  have hb := Aside0.mk (opW_below w #[.slice A0 l0.length c0, .slice A1 l1.length c1, .int .i64 a2, .int .i64 a3] (opM (.agg #[.slice A0 l0.length c0, .slice A1 l1.length c1, .int .i64 a2, .int .i64 a3]) 8))
  have hmm := @run_makeMap Tryd.prog
  have hi0 := opI0 w A0 l0.length c0 A1 l1.length c1 a2 a3
  have hi1 := opI1 w A0 l0.length c0 A1 l1.length c1 a2 a3
  have hi2 := opI2 w A0 l0.length c0 A1 l1.length c1 a2 a3
  have hi3 := opI3 w A0 l0.length c0 A1 l1.length c1 a2 a3
  have hi4 := opI4 w A0 l0.length c0 A1 l1.length c1 a2 a3
  have hi5 := opI5 w A0 l0.length c0 A1 l1.length c1 a2 a3
  have hi6 := opI6 w A0 l0.length c0 A1 l1.length c1 a2 a3
  have hi7 := opI7 w A0 l0.length c0 A1 l1.length c1 a2 a3
  have hl : (Instr.lookup 60 (.map (some (w.heap.size + 1 + 1))) (.int .u8 name) true).run Tryd.prog (((w.alloc (.cells #[.slice A0 l0.length c0, .slice A1 l1.length c1, .int .i64 a2, .int .i64 a3] 32)).alloc (.cells #[.slice A0 l0.length c0, .slice A1 l1.length c1, .int .i64 a2, .int .i64 a3] 58)).alloc (opM (.agg #[.slice A0 l0.length c0, .slice A1 l1.length c1, .int .i64 a2, .int .i64 a3]) 8)) = .ok (.tuple #[.nilFunc, .bool false]) (((w.alloc (.cells #[.slice A0 l0.length c0, .slice A1 l1.length c1, .int .i64 a2, .int .i64 a3] 32)).alloc (.cells #[.slice A0 l0.length c0, .slice A1 l1.length c1, .int .i64 a2, .int .i64 a3] 58)).alloc (opM (.agg #[.slice A0 l0.length c0, .slice A1 l1.length c1, .int .i64 a2, .int .i64 a3]) 8)) := run_look_none (opW w #[.slice A0 l0.length c0, .slice A1 l1.length c1, .int .i64 a2, .int .i64 a3]) Tryd.underlying60 Tryd.underlying5 _ (opW_size w _) _ 8 name .nilFunc true (fun w => by kernel_rfl) (op_findNone (.agg #[.slice A0 l0.length c0, .slice A1 l1.length c1, .int .i64 a2, .int .i64 a3]) name h110 h105 h118 h119 h102 h116 h99 h101)
  clear h110 h105 h118 h119 h102 h116 h99 h101
  go_enter Tryd.func19, Tryd.ntmps19
  go_wp2
  go_ret2
  exact ⟨_, rfl, Kd.V_nil _ _ _ _ _, hb.out⟩
theorem wholeO_some {t : Option (List Int)} {r1 : List Int} {r2 : Bool} (h : wholeO t = some (r1, r2)) : t = some r1 ∧ r2 = true := by
  unfold wholeO at h
  cases t with
  | none => cases h
  | some x => simp at h; exact ⟨by rw [h.1], h.2⟩
theorem oper_Operand.calls (P0_0_ : Nat → Prop) (A0_0 : Option Addr) (c0_0 : Nat) (l0_0 : List Int) (P0_1_ : Nat → Prop) (A0_1 : Option Addr) (c0_1 : Nat) (l0_1 : List Int) (a0_2 a0_3 : Int) (a1 : Int) (r1 : List Int) (r2 : Bool) (w : World) (hG : GL w) (hs0_0 : Kd.V (Kd.int .u8) 5 w w.heap.size (fun k_ => P0_0_ k_) (.slice A0_0 l0_0.length c0_0) l0_0) (hs0_1 : Kd.V (Kd.int .u8) 5 w w.heap.size (fun k_ => P0_1_ k_) (.slice A0_1 l0_1.length c0_1) l0_1) (h : oper_Operand.f l0_0 l0_1 a0_2 a0_3 a1 = some (r1, r2)) :
    Calls Tryd.prog 19 #[.agg #[.slice A0_0 l0_0.length c0_0, .slice A0_1 l0_1.length c0_1, .int .i64 a0_2, .int .i64 a0_3], .int .u8 a1] w fun e w' => ∃ v1_ : Value, e = .returned (.tuple #[v1_, .bool r2]) ∧ Kd.V (Kd.int .u8) 5 w' w.heap.size (fun k_ => ((P0_0_ k_ ∨ P0_1_ k_) ∨ w.heap.size ≤ k_)) v1_ r1 ∧ Below w.heap.size w w' := by
  have H : ∀ {r : List Int} {ok : Bool}, r = r1 → ok = r2 → Calls Tryd.prog 19 #[.agg #[.slice A0_0 l0_0.length c0_0, .slice A0_1 l0_1.length c0_1, .int .i64 a0_2, .int .i64 a0_3], .int .u8 a1] w (OpPost w P0_0_ P0_1_ r ok) → Calls Tryd.prog 19 #[.agg #[.slice A0_0 l0_0.length c0_0, .slice A0_1 l0_1.length c0_1, .int .i64 a0_2, .int .i64 a0_3], .int .u8 a1] w fun e w' => ∃ v1_ : Value, e = .returned (.tuple #[v1_, .bool r2]) ∧ Kd.V (Kd.int .u8) 5 w' w.heap.size (fun k_ => ((P0_0_ k_ ∨ P0_1_ k_) ∨ w.heap.size ≤ k_)) v1_ r1 ∧ Below w.heap.size w w' := by
    rintro r ok rfl rfl hc
    exact hc.mono fun e w' he => he
  unfold oper_Operand.f at h
  by_cases h110 : a1 = 110
  · rw [if_pos h110] at h
    subst h110
    by_cases hw : a0_2 > 0
    · rw [if_pos hw] at h
      simp only [Option.some.injEq, Prod.mk.injEq] at h
      exact H h.1 h.2 (operand_part _ _ _ _ _ _ _ _ _ _ w hw)
    · rw [if_neg hw] at h
      obtain ⟨h1, rfl⟩ := wholeO_some h
      exact H rfl rfl (operand_110 _ _ _ _ _ _ _ _ _ _ _ w hw hs0_0 hs0_1 h1)
  rw [if_neg h110] at h
  by_cases h105 : a1 = 105
  · rw [if_pos h105] at h
    subst h105
    obtain ⟨h1, rfl⟩ := wholeO_some h
    exact H rfl rfl (operand_105 _ _ _ _ _ _ _ _ _ _ _ w hs0_0 hs0_1 h1)
  rw [if_neg h105] at h
  by_cases h118 : a1 = 118
  · rw [if_pos h118] at h
    subst h118
    obtain ⟨h1, rfl⟩ := wholeO_some h
    exact H rfl rfl (operand_118 _ _ _ _ _ _ _ _ _ _ _ w hG hs0_0 hs0_1 h1)
  rw [if_neg h118] at h
  by_cases h119 : a1 = 119
  · rw [if_pos h119] at h
    subst h119
    obtain ⟨h1, rfl⟩ := wholeO_some h
    exact H rfl rfl (operand_119 _ _ _ _ _ _ _ _ _ _ _ w hG hs0_0 hs0_1 h1)
  rw [if_neg h119] at h
  by_cases h102 : a1 = 102
  · rw [if_pos h102] at h
    subst h102
    obtain ⟨h1, rfl⟩ := wholeO_some h
    exact H rfl rfl (operand_102 _ _ _ _ _ _ _ _ _ _ _ w hs0_0 hs0_1 h1)
  rw [if_neg h102] at h
  by_cases h116 : a1 = 116
  · rw [if_pos h116] at h
    subst h116
    obtain ⟨h1, rfl⟩ := wholeO_some h
    exact H rfl rfl (operand_116 _ _ _ _ _ _ _ _ _ _ _ w hs0_0 hs0_1 h1)
  rw [if_neg h116] at h
  by_cases h99 : a1 = 99
  · rw [if_pos h99] at h
    subst h99
    obtain ⟨h1, rfl⟩ := wholeO_some h
    exact H rfl rfl (operand_99 _ _ _ _ _ _ _ _ _ _ _ w hG hs0_0 hs0_1 h1)
  rw [if_neg h99] at h
  by_cases h101 : a1 = 101
  · rw [if_pos h101] at h
    subst h101
    obtain ⟨h1, rfl⟩ := wholeO_some h
    exact H rfl rfl (operand_101 _ _ _ _ _ _ _ _ _ _ _ w hG hs0_0 hs0_1 h1)
  rw [if_neg h101] at h
  simp only [Option.some.injEq, Prod.mk.injEq] at h
  exact H h.1 h.2 (operand_none _ _ _ _ _ _ _ _ _ _ a1 w h110 h105 h118 h119 h102 h116 h99 h101)
end Go.Proofs.YtekinhnempbioaaDoor.PZ
