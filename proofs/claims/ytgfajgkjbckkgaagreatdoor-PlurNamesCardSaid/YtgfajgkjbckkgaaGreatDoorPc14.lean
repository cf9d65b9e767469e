/- Texts of this seat, joined. Conditions: none beyond each statement's own. -/
import Derived.Test.YtgfajgkjbckkgaaGreatDoorPc12
import Derived.Test.YtgfajgkjbckkgaaGreatDoorPc13
import Derived.Carry
set_option linter.all false
section
set_option maxRecDepth 100000
namespace Go.Proofs.YtgfajgkjbckkgaaGreatDoor.PZ
open Go.RowKit Go.Proofs.YtgfajgkjbckkgaaGreatDoorW.PrintWords Go.Proofs.YtgfajgkjbckkgaaGreatDoorW.PrintLast
section
def wholeO (t:Option (List Int)):Option (List Int×Bool):=t.bind fun l=>some (l,true)
def oper_Operand.f (l0:List Int)(l1:List Int)(a2 a3:Int)(name:Int):Option (List Int×Bool):=
  if name=110 then (if a2>0 then some ([],false) else wholeO (oper_told_i.f l0 l1 a2 a3))
  else if name=105 then wholeO (oper_told_i.f l0 l1 a2 a3)
  else if name=118 then wholeO (oper_told_v.f l0 l1 a2 a3)
  else if name=119 then wholeO (oper_told_w.f l0 l1 a2 a3)
  else if name=102 then wholeO (oper_told_f.f l0 l1 a2 a3)
  else if name=116 then wholeO (oper_told_t.f l0 l1 a2 a3)
  else if name=99 then wholeO (oper_told_c.f l0 l1 a2 a3)
  else if name=101 then wholeO (oper_told_c.f l0 l1 a2 a3)
  else some ([],false)
def opEs (r:Value):List MapEntry:=[
  { key:=.int .u8 110,val:=.func (.func 101) #[r] #[],born:=0 },{ key:=.int .u8 105,val:=.func (.func 101) #[r] #[],born:=1 },
  { key:=.int .u8 118,val:=.func (.func 102) #[r] #[],born:=2 },{ key:=.int .u8 119,val:=.func (.func 103) #[r] #[],born:=3 },
  { key:=.int .u8 102,val:=.func (.func 104) #[r] #[],born:=4 },{ key:=.int .u8 116,val:=.func (.func 105) #[r] #[],born:=5 },
  { key:=.int .u8 99,val:=.func (.func 106) #[r] #[],born:=6 },{ key:=.int .u8 101,val:=.func (.func 106) #[r] #[],born:=7 }]
def opM (r:Value)(i:Nat):Obj:=.map ((opEs r).take i).toArray i
theorem op_insert (W:World)(g:Nat)(hg:W.heap.size=g)(r:Value)(i:Nat)(k:Int)(x:Value)(h:((opEs r).take (i+1))=(opEs r).take i ++ [{ key:=.int .u8 k,val:=x,born:=i }]) (hf:Instr.findNow (.int .u8) (.int .u8 k) ((opEs r).take i) 0=some none) :
    (Instr.mapUpdate 138 (.map (some g)) (.int .u8 k) x).run Tryz.prog (W.alloc (opM r i)) = .ok () (W.alloc (opM r (i+1))):=by
 unfold opM
 rw [run_insert_int W Tryz.underlying138 Tryz.underlying5 g hg _ i k x (by simpa using hf),h]
 congr 3
 simp
section
variable {P0 P1:Nat→Prop}{A0 A1:Option Addr}{c0 c1:Nat}{l0 l1:List Int}{a2 a3:Int}{w:World}
def opW (w:World)(cs:Array Value):World:=(w.alloc (.cells cs 36)).alloc (.cells cs 136)
theorem opW_size (w:World)(cs:Array Value):(opW w cs).heap.size=w.heap.size+1+1:=by simp [opW]
theorem opW_below (w:World)(cs:Array Value)(o:Obj):Below w.heap.size w ((opW w cs).alloc o):=(((Below.refl _ _).alloc (Nat.le_refl _) _).alloc (by simp) _).alloc (by simp;omega) _
def OpEnd (w:World)(P0 P1:Nat→Prop)(r:List Int)(v:Value)(w':World):Prop:=Kd.V (Kd.int .u8) 5 w' w.heap.size (fun k_=>((P0 k_∨P1 k_)∨w.heap.size≤k_)) v r∧Below w.heap.size w w'
theorem OpEnd.of {W1 w2:World}{Q:Nat→Prop}{r:List Int}{v:Value}(hb:Below w.heap.size w W1)(hQ:∀ k,Q k→(P0 k∨P1 k)∨w.heap.size≤k)(hv:Kd.V (Kd.int .u8) 5 w2 W1.heap.size (fun k_=>Q k_) v r)(hb2:Below W1.heap.size W1 w2):OpEnd w P0 P1 r v w2:=
  ⟨Kd.V_lower (Kd.V_mono hv hQ) hb.size,below_then hb hb.size hb2⟩
def OpPost (w:World)(P0 P1:Nat→Prop)(r:List Int)(ok:Bool)(e:Ending)(w':World):Prop:=∃ v,e = .returned (.tuple #[v,.bool ok])∧OpEnd w P0 P1 r v w'
end
theorem opI0 (w:World)(A0:Option Addr)(n0 c0:Nat)(A1:Option Addr)(n1 c1:Nat)(a2 a3:Int):(Instr.mapUpdate 138 (.map (some (w.heap.size+1+1))) (.int .u8 110) (.func (.func 101) #[.agg #[.slice A0 n0 c0,.slice A1 n1 c1,.int .i64 a2,.int .i64 a3]] #[])).run Tryz.prog (((w.alloc (.cells #[.slice A0 n0 c0,.slice A1 n1 c1,.int .i64 a2,.int .i64 a3] 36)).alloc (.cells #[.slice A0 n0 c0,.slice A1 n1 c1,.int .i64 a2,.int .i64 a3] 136)).alloc (.map #[] 0)) = .ok () (((w.alloc (.cells #[.slice A0 n0 c0,.slice A1 n1 c1,.int .i64 a2,.int .i64 a3] 36)).alloc (.cells #[.slice A0 n0 c0,.slice A1 n1 c1,.int .i64 a2,.int .i64 a3] 136)).alloc (opM (.agg #[.slice A0 n0 c0,.slice A1 n1 c1,.int .i64 a2,.int .i64 a3]) 1)):=op_insert (opW w #[.slice A0 n0 c0,.slice A1 n1 c1,.int .i64 a2,.int .i64 a3]) _ (opW_size w _) (.agg #[.slice A0 n0 c0,.slice A1 n1 c1,.int .i64 a2,.int .i64 a3]) 0 _ _ rfl rfl
theorem opI1 (w:World)(A0:Option Addr)(n0 c0:Nat)(A1:Option Addr)(n1 c1:Nat)(a2 a3:Int):(Instr.mapUpdate 138 (.map (some (w.heap.size+1+1))) (.int .u8 105) (.func (.func 101) #[.agg #[.slice A0 n0 c0,.slice A1 n1 c1,.int .i64 a2,.int .i64 a3]] #[])).run Tryz.prog (((w.alloc (.cells #[.slice A0 n0 c0,.slice A1 n1 c1,.int .i64 a2,.int .i64 a3] 36)).alloc (.cells #[.slice A0 n0 c0,.slice A1 n1 c1,.int .i64 a2,.int .i64 a3] 136)).alloc (opM (.agg #[.slice A0 n0 c0,.slice A1 n1 c1,.int .i64 a2,.int .i64 a3]) 1)) = .ok () (((w.alloc (.cells #[.slice A0 n0 c0,.slice A1 n1 c1,.int .i64 a2,.int .i64 a3] 36)).alloc (.cells #[.slice A0 n0 c0,.slice A1 n1 c1,.int .i64 a2,.int .i64 a3] 136)).alloc (opM (.agg #[.slice A0 n0 c0,.slice A1 n1 c1,.int .i64 a2,.int .i64 a3]) 2)):=op_insert (opW w #[.slice A0 n0 c0,.slice A1 n1 c1,.int .i64 a2,.int .i64 a3]) _ (opW_size w _) (.agg #[.slice A0 n0 c0,.slice A1 n1 c1,.int .i64 a2,.int .i64 a3]) 1 _ _ rfl rfl
theorem opI2 (w:World)(A0:Option Addr)(n0 c0:Nat)(A1:Option Addr)(n1 c1:Nat)(a2 a3:Int):(Instr.mapUpdate 138 (.map (some (w.heap.size+1+1))) (.int .u8 118) (.func (.func 102) #[.agg #[.slice A0 n0 c0,.slice A1 n1 c1,.int .i64 a2,.int .i64 a3]] #[])).run Tryz.prog (((w.alloc (.cells #[.slice A0 n0 c0,.slice A1 n1 c1,.int .i64 a2,.int .i64 a3] 36)).alloc (.cells #[.slice A0 n0 c0,.slice A1 n1 c1,.int .i64 a2,.int .i64 a3] 136)).alloc (opM (.agg #[.slice A0 n0 c0,.slice A1 n1 c1,.int .i64 a2,.int .i64 a3]) 2)) = .ok () (((w.alloc (.cells #[.slice A0 n0 c0,.slice A1 n1 c1,.int .i64 a2,.int .i64 a3] 36)).alloc (.cells #[.slice A0 n0 c0,.slice A1 n1 c1,.int .i64 a2,.int .i64 a3] 136)).alloc (opM (.agg #[.slice A0 n0 c0,.slice A1 n1 c1,.int .i64 a2,.int .i64 a3]) 3)):=op_insert (opW w #[.slice A0 n0 c0,.slice A1 n1 c1,.int .i64 a2,.int .i64 a3]) _ (opW_size w _) (.agg #[.slice A0 n0 c0,.slice A1 n1 c1,.int .i64 a2,.int .i64 a3]) 2 _ _ rfl rfl
theorem opI3 (w:World)(A0:Option Addr)(n0 c0:Nat)(A1:Option Addr)(n1 c1:Nat)(a2 a3:Int):(Instr.mapUpdate 138 (.map (some (w.heap.size+1+1))) (.int .u8 119) (.func (.func 103) #[.agg #[.slice A0 n0 c0,.slice A1 n1 c1,.int .i64 a2,.int .i64 a3]] #[])).run Tryz.prog (((w.alloc (.cells #[.slice A0 n0 c0,.slice A1 n1 c1,.int .i64 a2,.int .i64 a3] 36)).alloc (.cells #[.slice A0 n0 c0,.slice A1 n1 c1,.int .i64 a2,.int .i64 a3] 136)).alloc (opM (.agg #[.slice A0 n0 c0,.slice A1 n1 c1,.int .i64 a2,.int .i64 a3]) 3)) = .ok () (((w.alloc (.cells #[.slice A0 n0 c0,.slice A1 n1 c1,.int .i64 a2,.int .i64 a3] 36)).alloc (.cells #[.slice A0 n0 c0,.slice A1 n1 c1,.int .i64 a2,.int .i64 a3] 136)).alloc (opM (.agg #[.slice A0 n0 c0,.slice A1 n1 c1,.int .i64 a2,.int .i64 a3]) 4)):=op_insert (opW w #[.slice A0 n0 c0,.slice A1 n1 c1,.int .i64 a2,.int .i64 a3]) _ (opW_size w _) (.agg #[.slice A0 n0 c0,.slice A1 n1 c1,.int .i64 a2,.int .i64 a3]) 3 _ _ rfl rfl
theorem opI4 (w:World)(A0:Option Addr)(n0 c0:Nat)(A1:Option Addr)(n1 c1:Nat)(a2 a3:Int):(Instr.mapUpdate 138 (.map (some (w.heap.size+1+1))) (.int .u8 102) (.func (.func 104) #[.agg #[.slice A0 n0 c0,.slice A1 n1 c1,.int .i64 a2,.int .i64 a3]] #[])).run Tryz.prog (((w.alloc (.cells #[.slice A0 n0 c0,.slice A1 n1 c1,.int .i64 a2,.int .i64 a3] 36)).alloc (.cells #[.slice A0 n0 c0,.slice A1 n1 c1,.int .i64 a2,.int .i64 a3] 136)).alloc (opM (.agg #[.slice A0 n0 c0,.slice A1 n1 c1,.int .i64 a2,.int .i64 a3]) 4)) = .ok () (((w.alloc (.cells #[.slice A0 n0 c0,.slice A1 n1 c1,.int .i64 a2,.int .i64 a3] 36)).alloc (.cells #[.slice A0 n0 c0,.slice A1 n1 c1,.int .i64 a2,.int .i64 a3] 136)).alloc (opM (.agg #[.slice A0 n0 c0,.slice A1 n1 c1,.int .i64 a2,.int .i64 a3]) 5)):=op_insert (opW w #[.slice A0 n0 c0,.slice A1 n1 c1,.int .i64 a2,.int .i64 a3]) _ (opW_size w _) (.agg #[.slice A0 n0 c0,.slice A1 n1 c1,.int .i64 a2,.int .i64 a3]) 4 _ _ rfl rfl
theorem opI5 (w:World)(A0:Option Addr)(n0 c0:Nat)(A1:Option Addr)(n1 c1:Nat)(a2 a3:Int):(Instr.mapUpdate 138 (.map (some (w.heap.size+1+1))) (.int .u8 116) (.func (.func 105) #[.agg #[.slice A0 n0 c0,.slice A1 n1 c1,.int .i64 a2,.int .i64 a3]] #[])).run Tryz.prog (((w.alloc (.cells #[.slice A0 n0 c0,.slice A1 n1 c1,.int .i64 a2,.int .i64 a3] 36)).alloc (.cells #[.slice A0 n0 c0,.slice A1 n1 c1,.int .i64 a2,.int .i64 a3] 136)).alloc (opM (.agg #[.slice A0 n0 c0,.slice A1 n1 c1,.int .i64 a2,.int .i64 a3]) 5)) = .ok () (((w.alloc (.cells #[.slice A0 n0 c0,.slice A1 n1 c1,.int .i64 a2,.int .i64 a3] 36)).alloc (.cells #[.slice A0 n0 c0,.slice A1 n1 c1,.int .i64 a2,.int .i64 a3] 136)).alloc (opM (.agg #[.slice A0 n0 c0,.slice A1 n1 c1,.int .i64 a2,.int .i64 a3]) 6)):=op_insert (opW w #[.slice A0 n0 c0,.slice A1 n1 c1,.int .i64 a2,.int .i64 a3]) _ (opW_size w _) (.agg #[.slice A0 n0 c0,.slice A1 n1 c1,.int .i64 a2,.int .i64 a3]) 5 _ _ rfl rfl
theorem opI6 (w:World)(A0:Option Addr)(n0 c0:Nat)(A1:Option Addr)(n1 c1:Nat)(a2 a3:Int):(Instr.mapUpdate 138 (.map (some (w.heap.size+1+1))) (.int .u8 99) (.func (.func 106) #[.agg #[.slice A0 n0 c0,.slice A1 n1 c1,.int .i64 a2,.int .i64 a3]] #[])).run Tryz.prog (((w.alloc (.cells #[.slice A0 n0 c0,.slice A1 n1 c1,.int .i64 a2,.int .i64 a3] 36)).alloc (.cells #[.slice A0 n0 c0,.slice A1 n1 c1,.int .i64 a2,.int .i64 a3] 136)).alloc (opM (.agg #[.slice A0 n0 c0,.slice A1 n1 c1,.int .i64 a2,.int .i64 a3]) 6)) = .ok () (((w.alloc (.cells #[.slice A0 n0 c0,.slice A1 n1 c1,.int .i64 a2,.int .i64 a3] 36)).alloc (.cells #[.slice A0 n0 c0,.slice A1 n1 c1,.int .i64 a2,.int .i64 a3] 136)).alloc (opM (.agg #[.slice A0 n0 c0,.slice A1 n1 c1,.int .i64 a2,.int .i64 a3]) 7)):=op_insert (opW w #[.slice A0 n0 c0,.slice A1 n1 c1,.int .i64 a2,.int .i64 a3]) _ (opW_size w _) (.agg #[.slice A0 n0 c0,.slice A1 n1 c1,.int .i64 a2,.int .i64 a3]) 6 _ _ rfl rfl
theorem opI7 (w:World)(A0:Option Addr)(n0 c0:Nat)(A1:Option Addr)(n1 c1:Nat)(a2 a3:Int):(Instr.mapUpdate 138 (.map (some (w.heap.size+1+1))) (.int .u8 101) (.func (.func 106) #[.agg #[.slice A0 n0 c0,.slice A1 n1 c1,.int .i64 a2,.int .i64 a3]] #[])).run Tryz.prog (((w.alloc (.cells #[.slice A0 n0 c0,.slice A1 n1 c1,.int .i64 a2,.int .i64 a3] 36)).alloc (.cells #[.slice A0 n0 c0,.slice A1 n1 c1,.int .i64 a2,.int .i64 a3] 136)).alloc (opM (.agg #[.slice A0 n0 c0,.slice A1 n1 c1,.int .i64 a2,.int .i64 a3]) 7)) = .ok () (((w.alloc (.cells #[.slice A0 n0 c0,.slice A1 n1 c1,.int .i64 a2,.int .i64 a3] 36)).alloc (.cells #[.slice A0 n0 c0,.slice A1 n1 c1,.int .i64 a2,.int .i64 a3] 136)).alloc (opM (.agg #[.slice A0 n0 c0,.slice A1 n1 c1,.int .i64 a2,.int .i64 a3]) 8)):=op_insert (opW w #[.slice A0 n0 c0,.slice A1 n1 c1,.int .i64 a2,.int .i64 a3]) _ (opW_size w _) (.agg #[.slice A0 n0 c0,.slice A1 n1 c1,.int .i64 a2,.int .i64 a3]) 7 _ _ rfl rfl
theorem opL110 (w:World)(A0:Option Addr)(n0 c0:Nat)(A1:Option Addr)(n1 c1:Nat)(a2 a3:Int):(Instr.lookup 138 (.map (some (w.heap.size+1+1))) (.int .u8 110) true).run Tryz.prog (((w.alloc (.cells #[.slice A0 n0 c0,.slice A1 n1 c1,.int .i64 a2,.int .i64 a3] 36)).alloc (.cells #[.slice A0 n0 c0,.slice A1 n1 c1,.int .i64 a2,.int .i64 a3] 136)).alloc (opM (.agg #[.slice A0 n0 c0,.slice A1 n1 c1,.int .i64 a2,.int .i64 a3]) 8)) = .ok (.tuple #[.func (.func 101) #[.agg #[.slice A0 n0 c0,.slice A1 n1 c1,.int .i64 a2,.int .i64 a3]] #[],.bool true]) (((w.alloc (.cells #[.slice A0 n0 c0,.slice A1 n1 c1,.int .i64 a2,.int .i64 a3] 36)).alloc (.cells #[.slice A0 n0 c0,.slice A1 n1 c1,.int .i64 a2,.int .i64 a3] 136)).alloc (opM (.agg #[.slice A0 n0 c0,.slice A1 n1 c1,.int .i64 a2,.int .i64 a3]) 8)):=run_look_int (opW w #[.slice A0 n0 c0,.slice A1 n1 c1,.int .i64 a2,.int .i64 a3]) Tryz.underlying138 Tryz.underlying5 _ (opW_size w _) _ 8 110 0 (.func (.func 101) #[.agg #[.slice A0 n0 c0,.slice A1 n1 c1,.int .i64 a2,.int .i64 a3]] #[]) true rfl
theorem opL105 (w:World)(A0:Option Addr)(n0 c0:Nat)(A1:Option Addr)(n1 c1:Nat)(a2 a3:Int):(Instr.lookup 138 (.map (some (w.heap.size+1+1))) (.int .u8 105) true).run Tryz.prog (((w.alloc (.cells #[.slice A0 n0 c0,.slice A1 n1 c1,.int .i64 a2,.int .i64 a3] 36)).alloc (.cells #[.slice A0 n0 c0,.slice A1 n1 c1,.int .i64 a2,.int .i64 a3] 136)).alloc (opM (.agg #[.slice A0 n0 c0,.slice A1 n1 c1,.int .i64 a2,.int .i64 a3]) 8)) = .ok (.tuple #[.func (.func 101) #[.agg #[.slice A0 n0 c0,.slice A1 n1 c1,.int .i64 a2,.int .i64 a3]] #[],.bool true]) (((w.alloc (.cells #[.slice A0 n0 c0,.slice A1 n1 c1,.int .i64 a2,.int .i64 a3] 36)).alloc (.cells #[.slice A0 n0 c0,.slice A1 n1 c1,.int .i64 a2,.int .i64 a3] 136)).alloc (opM (.agg #[.slice A0 n0 c0,.slice A1 n1 c1,.int .i64 a2,.int .i64 a3]) 8)):=run_look_int (opW w #[.slice A0 n0 c0,.slice A1 n1 c1,.int .i64 a2,.int .i64 a3]) Tryz.underlying138 Tryz.underlying5 _ (opW_size w _) _ 8 105 1 (.func (.func 101) #[.agg #[.slice A0 n0 c0,.slice A1 n1 c1,.int .i64 a2,.int .i64 a3]] #[]) true rfl
theorem opL118 (w:World)(A0:Option Addr)(n0 c0:Nat)(A1:Option Addr)(n1 c1:Nat)(a2 a3:Int):(Instr.lookup 138 (.map (some (w.heap.size+1+1))) (.int .u8 118) true).run Tryz.prog (((w.alloc (.cells #[.slice A0 n0 c0,.slice A1 n1 c1,.int .i64 a2,.int .i64 a3] 36)).alloc (.cells #[.slice A0 n0 c0,.slice A1 n1 c1,.int .i64 a2,.int .i64 a3] 136)).alloc (opM (.agg #[.slice A0 n0 c0,.slice A1 n1 c1,.int .i64 a2,.int .i64 a3]) 8)) = .ok (.tuple #[.func (.func 102) #[.agg #[.slice A0 n0 c0,.slice A1 n1 c1,.int .i64 a2,.int .i64 a3]] #[],.bool true]) (((w.alloc (.cells #[.slice A0 n0 c0,.slice A1 n1 c1,.int .i64 a2,.int .i64 a3] 36)).alloc (.cells #[.slice A0 n0 c0,.slice A1 n1 c1,.int .i64 a2,.int .i64 a3] 136)).alloc (opM (.agg #[.slice A0 n0 c0,.slice A1 n1 c1,.int .i64 a2,.int .i64 a3]) 8)):=run_look_int (opW w #[.slice A0 n0 c0,.slice A1 n1 c1,.int .i64 a2,.int .i64 a3]) Tryz.underlying138 Tryz.underlying5 _ (opW_size w _) _ 8 118 2 (.func (.func 102) #[.agg #[.slice A0 n0 c0,.slice A1 n1 c1,.int .i64 a2,.int .i64 a3]] #[]) true rfl
theorem opL119 (w:World)(A0:Option Addr)(n0 c0:Nat)(A1:Option Addr)(n1 c1:Nat)(a2 a3:Int):(Instr.lookup 138 (.map (some (w.heap.size+1+1))) (.int .u8 119) true).run Tryz.prog (((w.alloc (.cells #[.slice A0 n0 c0,.slice A1 n1 c1,.int .i64 a2,.int .i64 a3] 36)).alloc (.cells #[.slice A0 n0 c0,.slice A1 n1 c1,.int .i64 a2,.int .i64 a3] 136)).alloc (opM (.agg #[.slice A0 n0 c0,.slice A1 n1 c1,.int .i64 a2,.int .i64 a3]) 8)) = .ok (.tuple #[.func (.func 103) #[.agg #[.slice A0 n0 c0,.slice A1 n1 c1,.int .i64 a2,.int .i64 a3]] #[],.bool true]) (((w.alloc (.cells #[.slice A0 n0 c0,.slice A1 n1 c1,.int .i64 a2,.int .i64 a3] 36)).alloc (.cells #[.slice A0 n0 c0,.slice A1 n1 c1,.int .i64 a2,.int .i64 a3] 136)).alloc (opM (.agg #[.slice A0 n0 c0,.slice A1 n1 c1,.int .i64 a2,.int .i64 a3]) 8)):=run_look_int (opW w #[.slice A0 n0 c0,.slice A1 n1 c1,.int .i64 a2,.int .i64 a3]) Tryz.underlying138 Tryz.underlying5 _ (opW_size w _) _ 8 119 3 (.func (.func 103) #[.agg #[.slice A0 n0 c0,.slice A1 n1 c1,.int .i64 a2,.int .i64 a3]] #[]) true rfl
theorem opL102 (w:World)(A0:Option Addr)(n0 c0:Nat)(A1:Option Addr)(n1 c1:Nat)(a2 a3:Int):(Instr.lookup 138 (.map (some (w.heap.size+1+1))) (.int .u8 102) true).run Tryz.prog (((w.alloc (.cells #[.slice A0 n0 c0,.slice A1 n1 c1,.int .i64 a2,.int .i64 a3] 36)).alloc (.cells #[.slice A0 n0 c0,.slice A1 n1 c1,.int .i64 a2,.int .i64 a3] 136)).alloc (opM (.agg #[.slice A0 n0 c0,.slice A1 n1 c1,.int .i64 a2,.int .i64 a3]) 8)) = .ok (.tuple #[.func (.func 104) #[.agg #[.slice A0 n0 c0,.slice A1 n1 c1,.int .i64 a2,.int .i64 a3]] #[],.bool true]) (((w.alloc (.cells #[.slice A0 n0 c0,.slice A1 n1 c1,.int .i64 a2,.int .i64 a3] 36)).alloc (.cells #[.slice A0 n0 c0,.slice A1 n1 c1,.int .i64 a2,.int .i64 a3] 136)).alloc (opM (.agg #[.slice A0 n0 c0,.slice A1 n1 c1,.int .i64 a2,.int .i64 a3]) 8)):=run_look_int (opW w #[.slice A0 n0 c0,.slice A1 n1 c1,.int .i64 a2,.int .i64 a3]) Tryz.underlying138 Tryz.underlying5 _ (opW_size w _) _ 8 102 4 (.func (.func 104) #[.agg #[.slice A0 n0 c0,.slice A1 n1 c1,.int .i64 a2,.int .i64 a3]] #[]) true rfl
theorem opL116 (w:World)(A0:Option Addr)(n0 c0:Nat)(A1:Option Addr)(n1 c1:Nat)(a2 a3:Int):(Instr.lookup 138 (.map (some (w.heap.size+1+1))) (.int .u8 116) true).run Tryz.prog (((w.alloc (.cells #[.slice A0 n0 c0,.slice A1 n1 c1,.int .i64 a2,.int .i64 a3] 36)).alloc (.cells #[.slice A0 n0 c0,.slice A1 n1 c1,.int .i64 a2,.int .i64 a3] 136)).alloc (opM (.agg #[.slice A0 n0 c0,.slice A1 n1 c1,.int .i64 a2,.int .i64 a3]) 8)) = .ok (.tuple #[.func (.func 105) #[.agg #[.slice A0 n0 c0,.slice A1 n1 c1,.int .i64 a2,.int .i64 a3]] #[],.bool true]) (((w.alloc (.cells #[.slice A0 n0 c0,.slice A1 n1 c1,.int .i64 a2,.int .i64 a3] 36)).alloc (.cells #[.slice A0 n0 c0,.slice A1 n1 c1,.int .i64 a2,.int .i64 a3] 136)).alloc (opM (.agg #[.slice A0 n0 c0,.slice A1 n1 c1,.int .i64 a2,.int .i64 a3]) 8)):=run_look_int (opW w #[.slice A0 n0 c0,.slice A1 n1 c1,.int .i64 a2,.int .i64 a3]) Tryz.underlying138 Tryz.underlying5 _ (opW_size w _) _ 8 116 5 (.func (.func 105) #[.agg #[.slice A0 n0 c0,.slice A1 n1 c1,.int .i64 a2,.int .i64 a3]] #[]) true rfl
theorem opL99 (w:World)(A0:Option Addr)(n0 c0:Nat)(A1:Option Addr)(n1 c1:Nat)(a2 a3:Int):(Instr.lookup 138 (.map (some (w.heap.size+1+1))) (.int .u8 99) true).run Tryz.prog (((w.alloc (.cells #[.slice A0 n0 c0,.slice A1 n1 c1,.int .i64 a2,.int .i64 a3] 36)).alloc (.cells #[.slice A0 n0 c0,.slice A1 n1 c1,.int .i64 a2,.int .i64 a3] 136)).alloc (opM (.agg #[.slice A0 n0 c0,.slice A1 n1 c1,.int .i64 a2,.int .i64 a3]) 8)) = .ok (.tuple #[.func (.func 106) #[.agg #[.slice A0 n0 c0,.slice A1 n1 c1,.int .i64 a2,.int .i64 a3]] #[],.bool true]) (((w.alloc (.cells #[.slice A0 n0 c0,.slice A1 n1 c1,.int .i64 a2,.int .i64 a3] 36)).alloc (.cells #[.slice A0 n0 c0,.slice A1 n1 c1,.int .i64 a2,.int .i64 a3] 136)).alloc (opM (.agg #[.slice A0 n0 c0,.slice A1 n1 c1,.int .i64 a2,.int .i64 a3]) 8)):=run_look_int (opW w #[.slice A0 n0 c0,.slice A1 n1 c1,.int .i64 a2,.int .i64 a3]) Tryz.underlying138 Tryz.underlying5 _ (opW_size w _) _ 8 99 6 (.func (.func 106) #[.agg #[.slice A0 n0 c0,.slice A1 n1 c1,.int .i64 a2,.int .i64 a3]] #[]) true rfl
theorem opL101 (w:World)(A0:Option Addr)(n0 c0:Nat)(A1:Option Addr)(n1 c1:Nat)(a2 a3:Int):(Instr.lookup 138 (.map (some (w.heap.size+1+1))) (.int .u8 101) true).run Tryz.prog (((w.alloc (.cells #[.slice A0 n0 c0,.slice A1 n1 c1,.int .i64 a2,.int .i64 a3] 36)).alloc (.cells #[.slice A0 n0 c0,.slice A1 n1 c1,.int .i64 a2,.int .i64 a3] 136)).alloc (opM (.agg #[.slice A0 n0 c0,.slice A1 n1 c1,.int .i64 a2,.int .i64 a3]) 8)) = .ok (.tuple #[.func (.func 106) #[.agg #[.slice A0 n0 c0,.slice A1 n1 c1,.int .i64 a2,.int .i64 a3]] #[],.bool true]) (((w.alloc (.cells #[.slice A0 n0 c0,.slice A1 n1 c1,.int .i64 a2,.int .i64 a3] 36)).alloc (.cells #[.slice A0 n0 c0,.slice A1 n1 c1,.int .i64 a2,.int .i64 a3] 136)).alloc (opM (.agg #[.slice A0 n0 c0,.slice A1 n1 c1,.int .i64 a2,.int .i64 a3]) 8)):=run_look_int (opW w #[.slice A0 n0 c0,.slice A1 n1 c1,.int .i64 a2,.int .i64 a3]) Tryz.underlying138 Tryz.underlying5 _ (opW_size w _) _ 8 101 7 (.func (.func 106) #[.agg #[.slice A0 n0 c0,.slice A1 n1 c1,.int .i64 a2,.int .i64 a3]] #[]) true rfl
set_option maxHeartbeats 1000000 in
set_option maxRecDepth 100000 in
theorem operand_110 (P0 P1:Nat→Prop)(A0:Option Addr)(c0:Nat)(l0:List Int)(A1:Option Addr)(c1:Nat)(l1:List Int)(a2 a3:Int)(r:List Int)(w:World)(hw:¬ 0<a2)(hs0:Kd.V (Kd.int .u8) 5 w w.heap.size (fun k_=>P0 k_) (.slice A0 l0.length c0) l0)(hs1:Kd.V (Kd.int .u8) 5 w w.heap.size (fun k_=>P1 k_) (.slice A1 l1.length c1) l1)(h:oper_told_i.f l0 l1 a2 a3=some r) :
    Calls Tryz.prog 80 #[.agg #[.slice A0 l0.length c0,.slice A1 l1.length c1,.int .i64 a2,.int .i64 a3],.int .u8 110] w (OpPost w P0 P1 r true):=by
 have hc:=zA (oper_told_i.calls P0 _ _ l0 _ _ l1 a2 a3 r (((w.alloc (.cells #[.slice A0 l0.length c0,.slice A1 l1.length c1,.int .i64 a2,.int .i64 a3] 36)).alloc (.cells #[.slice A0 l0.length c0,.slice A1 l1.length c1,.int .i64 a2,.int .i64 a3] 136)).alloc (opM (.agg #[.slice A0 l0.length c0,.slice A1 l1.length c1,.int .i64 a2,.int .i64 a3]) 8)) (Kd.V_below hs0 (opW_below w _ _)) (Kd.V_reads' (Kd.V_below hs1 (opW_below w _ _))).2.2 (Kd.V_reads' hs1).2.1 h)
 have hb:=zA (opW_below w #[.slice A0 l0.length c0,.slice A1 l1.length c1,.int .i64 a2,.int .i64 a3] (opM (.agg #[.slice A0 l0.length c0,.slice A1 l1.length c1,.int .i64 a2,.int .i64 a3]) 8))
 have hq:Aside0 (∀ k,(fun k_=>(P0 k_∨(((w.alloc (.cells #[.slice A0 l0.length c0,.slice A1 l1.length c1,.int .i64 a2,.int .i64 a3] 36)).alloc (.cells #[.slice A0 l0.length c0,.slice A1 l1.length c1,.int .i64 a2,.int .i64 a3] 136)).alloc (opM (.agg #[.slice A0 l0.length c0,.slice A1 l1.length c1,.int .i64 a2,.int .i64 a3]) 8)).heap.size≤k_)) k→(P0 k∨P1 k)∨w.heap.size≤k):=⟨fun k hk=>by rcases hk with h|h;exact .inl (.inl h);exact .inr (Nat.le_trans hb.out.size h)⟩
 clear hs0 hs1 h
 have hmm:=@run_makeMap Tryz.prog
 have hi0:=opI0 w A0 l0.length c0 A1 l1.length c1 a2 a3
 have hi1:=opI1 w A0 l0.length c0 A1 l1.length c1 a2 a3
 have hi2:=opI2 w A0 l0.length c0 A1 l1.length c1 a2 a3
 have hi3:=opI3 w A0 l0.length c0 A1 l1.length c1 a2 a3
 have hi4:=opI4 w A0 l0.length c0 A1 l1.length c1 a2 a3
 have hi5:=opI5 w A0 l0.length c0 A1 l1.length c1 a2 a3
 have hi6:=opI6 w A0 l0.length c0 A1 l1.length c1 a2 a3
 have hi7:=opI7 w A0 l0.length c0 A1 l1.length c1 a2 a3
 have hl:=opL110 w A0 l0.length c0 A1 l1.length c1 a2 a3
 go_enter Tryz.func80,Tryz.ntmps80
 go_wp2_with (go_at_call 101;refine hc.out.mono ?_;rintro e w2 ⟨v,rfl,ho,hb2⟩;have HO:=zA ho;have HB2:=zA hb2;clear ho hb2)
 go_ret2
 exact ⟨_,rfl,OpEnd.of hb.out hq.out HO.out HB2.out⟩
set_option maxHeartbeats 1000000 in
set_option maxRecDepth 100000 in
theorem operand_105 (P0 P1:Nat→Prop)(A0:Option Addr)(c0:Nat)(l0:List Int)(A1:Option Addr)(c1:Nat)(l1:List Int)(a2 a3:Int)(r:List Int)(w:World)(hs0:Kd.V (Kd.int .u8) 5 w w.heap.size (fun k_=>P0 k_) (.slice A0 l0.length c0) l0)(hs1:Kd.V (Kd.int .u8) 5 w w.heap.size (fun k_=>P1 k_) (.slice A1 l1.length c1) l1)(h:oper_told_i.f l0 l1 a2 a3=some r) :
    Calls Tryz.prog 80 #[.agg #[.slice A0 l0.length c0,.slice A1 l1.length c1,.int .i64 a2,.int .i64 a3],.int .u8 105] w (OpPost w P0 P1 r true):=by
 have hc:=zA (oper_told_i.calls P0 _ _ l0 _ _ l1 a2 a3 r (((w.alloc (.cells #[.slice A0 l0.length c0,.slice A1 l1.length c1,.int .i64 a2,.int .i64 a3] 36)).alloc (.cells #[.slice A0 l0.length c0,.slice A1 l1.length c1,.int .i64 a2,.int .i64 a3] 136)).alloc (opM (.agg #[.slice A0 l0.length c0,.slice A1 l1.length c1,.int .i64 a2,.int .i64 a3]) 8)) (Kd.V_below hs0 (opW_below w _ _)) (Kd.V_reads' (Kd.V_below hs1 (opW_below w _ _))).2.2 (Kd.V_reads' hs1).2.1 h)
 have hb:=zA (opW_below w #[.slice A0 l0.length c0,.slice A1 l1.length c1,.int .i64 a2,.int .i64 a3] (opM (.agg #[.slice A0 l0.length c0,.slice A1 l1.length c1,.int .i64 a2,.int .i64 a3]) 8))
 have hq:Aside0 (∀ k,(fun k_=>(P0 k_∨(((w.alloc (.cells #[.slice A0 l0.length c0,.slice A1 l1.length c1,.int .i64 a2,.int .i64 a3] 36)).alloc (.cells #[.slice A0 l0.length c0,.slice A1 l1.length c1,.int .i64 a2,.int .i64 a3] 136)).alloc (opM (.agg #[.slice A0 l0.length c0,.slice A1 l1.length c1,.int .i64 a2,.int .i64 a3]) 8)).heap.size≤k_)) k→(P0 k∨P1 k)∨w.heap.size≤k):=⟨fun k hk=>by rcases hk with h|h;exact .inl (.inl h);exact .inr (Nat.le_trans hb.out.size h)⟩
 clear hs0 hs1 h
 have hmm:=@run_makeMap Tryz.prog
 have hi0:=opI0 w A0 l0.length c0 A1 l1.length c1 a2 a3
 have hi1:=opI1 w A0 l0.length c0 A1 l1.length c1 a2 a3
 have hi2:=opI2 w A0 l0.length c0 A1 l1.length c1 a2 a3
 have hi3:=opI3 w A0 l0.length c0 A1 l1.length c1 a2 a3
 have hi4:=opI4 w A0 l0.length c0 A1 l1.length c1 a2 a3
 have hi5:=opI5 w A0 l0.length c0 A1 l1.length c1 a2 a3
 have hi6:=opI6 w A0 l0.length c0 A1 l1.length c1 a2 a3
 have hi7:=opI7 w A0 l0.length c0 A1 l1.length c1 a2 a3
 have hl:=opL105 w A0 l0.length c0 A1 l1.length c1 a2 a3
 go_enter Tryz.func80,Tryz.ntmps80
 go_wp2_with (go_at_call 101;refine hc.out.mono ?_;rintro e w2 ⟨v,rfl,ho,hb2⟩;have HO:=zA ho;have HB2:=zA hb2;clear ho hb2)
 go_ret2
 exact ⟨_,rfl,OpEnd.of hb.out hq.out HO.out HB2.out⟩
set_option maxHeartbeats 1000000 in
set_option maxRecDepth 100000 in
theorem operand_118 (P0 P1:Nat→Prop)(A0:Option Addr)(c0:Nat)(l0:List Int)(A1:Option Addr)(c1:Nat)(l1:List Int)(a2 a3:Int)(r:List Int)(w:World)(hG:GL w)(hs0:Kd.V (Kd.int .u8) 5 w w.heap.size (fun k_=>P0 k_) (.slice A0 l0.length c0) l0)(hs1:Kd.V (Kd.int .u8) 5 w w.heap.size (fun k_=>P1 k_) (.slice A1 l1.length c1) l1)(h:oper_told_v.f l0 l1 a2 a3=some r) :
    Calls Tryz.prog 80 #[.agg #[.slice A0 l0.length c0,.slice A1 l1.length c1,.int .i64 a2,.int .i64 a3],.int .u8 118] w (OpPost w P0 P1 r true):=by
 have hc:=zA (oper_told_v.calls  _ _ l0 _ _ l1 a2 a3 r (((w.alloc (.cells #[.slice A0 l0.length c0,.slice A1 l1.length c1,.int .i64 a2,.int .i64 a3] 36)).alloc (.cells #[.slice A0 l0.length c0,.slice A1 l1.length c1,.int .i64 a2,.int .i64 a3] 136)).alloc (opM (.agg #[.slice A0 l0.length c0,.slice A1 l1.length c1,.int .i64 a2,.int .i64 a3]) 8)) (hG.below (opW_below w _ _)) (Kd.V_reads' (Kd.V_below hs0 (opW_below w _ _))).2.2 (Kd.V_reads' hs0).2.1 (Kd.V_reads' (Kd.V_below hs1 (opW_below w _ _))).2.2 (Kd.V_reads' hs1).2.1 h)
 have hb:=zA (opW_below w #[.slice A0 l0.length c0,.slice A1 l1.length c1,.int .i64 a2,.int .i64 a3] (opM (.agg #[.slice A0 l0.length c0,.slice A1 l1.length c1,.int .i64 a2,.int .i64 a3]) 8))
 have hq:Aside0 (∀ k,(fun k_=>((((w.alloc (.cells #[.slice A0 l0.length c0,.slice A1 l1.length c1,.int .i64 a2,.int .i64 a3] 36)).alloc (.cells #[.slice A0 l0.length c0,.slice A1 l1.length c1,.int .i64 a2,.int .i64 a3] 136)).alloc (opM (.agg #[.slice A0 l0.length c0,.slice A1 l1.length c1,.int .i64 a2,.int .i64 a3]) 8)).heap.size≤k_)) k→(P0 k∨P1 k)∨w.heap.size≤k):=⟨fun k hk=>by exact .inr (Nat.le_trans hb.out.size hk)⟩
 clear hs0 hs1 h hG
 have hmm:=@run_makeMap Tryz.prog
 have hi0:=opI0 w A0 l0.length c0 A1 l1.length c1 a2 a3
 have hi1:=opI1 w A0 l0.length c0 A1 l1.length c1 a2 a3
 have hi2:=opI2 w A0 l0.length c0 A1 l1.length c1 a2 a3
 have hi3:=opI3 w A0 l0.length c0 A1 l1.length c1 a2 a3
 have hi4:=opI4 w A0 l0.length c0 A1 l1.length c1 a2 a3
 have hi5:=opI5 w A0 l0.length c0 A1 l1.length c1 a2 a3
 have hi6:=opI6 w A0 l0.length c0 A1 l1.length c1 a2 a3
 have hi7:=opI7 w A0 l0.length c0 A1 l1.length c1 a2 a3
 have hl:=opL118 w A0 l0.length c0 A1 l1.length c1 a2 a3
 go_enter Tryz.func80,Tryz.ntmps80
 go_wp2_with (go_at_call 102;refine hc.out.mono ?_;rintro e w2 ⟨v,rfl,ho,hb2⟩;have HO:=zA ho;have HB2:=zA hb2;clear ho hb2)
 go_ret2
 exact ⟨_,rfl,OpEnd.of hb.out hq.out HO.out HB2.out⟩
set_option maxHeartbeats 1000000 in
set_option maxRecDepth 100000 in
theorem operand_119 (P0 P1:Nat→Prop)(A0:Option Addr)(c0:Nat)(l0:List Int)(A1:Option Addr)(c1:Nat)(l1:List Int)(a2 a3:Int)(r:List Int)(w:World)(hG:GL w)(hs0:Kd.V (Kd.int .u8) 5 w w.heap.size (fun k_=>P0 k_) (.slice A0 l0.length c0) l0)(hs1:Kd.V (Kd.int .u8) 5 w w.heap.size (fun k_=>P1 k_) (.slice A1 l1.length c1) l1)(h:oper_told_w.f l0 l1 a2 a3=some r) :
    Calls Tryz.prog 80 #[.agg #[.slice A0 l0.length c0,.slice A1 l1.length c1,.int .i64 a2,.int .i64 a3],.int .u8 119] w (OpPost w P0 P1 r true):=by
 have hc:=zA (oper_told_w.calls  _ _ l0 _ _ l1 a2 a3 r (((w.alloc (.cells #[.slice A0 l0.length c0,.slice A1 l1.length c1,.int .i64 a2,.int .i64 a3] 36)).alloc (.cells #[.slice A0 l0.length c0,.slice A1 l1.length c1,.int .i64 a2,.int .i64 a3] 136)).alloc (opM (.agg #[.slice A0 l0.length c0,.slice A1 l1.length c1,.int .i64 a2,.int .i64 a3]) 8)) (hG.below (opW_below w _ _)) (Kd.V_reads' (Kd.V_below hs0 (opW_below w _ _))).2.2 (Kd.V_reads' hs0).2.1 (Kd.V_reads' (Kd.V_below hs1 (opW_below w _ _))).2.2 (Kd.V_reads' hs1).2.1 h)
 have hb:=zA (opW_below w #[.slice A0 l0.length c0,.slice A1 l1.length c1,.int .i64 a2,.int .i64 a3] (opM (.agg #[.slice A0 l0.length c0,.slice A1 l1.length c1,.int .i64 a2,.int .i64 a3]) 8))
 have hq:Aside0 (∀ k,(fun k_=>((((w.alloc (.cells #[.slice A0 l0.length c0,.slice A1 l1.length c1,.int .i64 a2,.int .i64 a3] 36)).alloc (.cells #[.slice A0 l0.length c0,.slice A1 l1.length c1,.int .i64 a2,.int .i64 a3] 136)).alloc (opM (.agg #[.slice A0 l0.length c0,.slice A1 l1.length c1,.int .i64 a2,.int .i64 a3]) 8)).heap.size≤k_)) k→(P0 k∨P1 k)∨w.heap.size≤k):=⟨fun k hk=>by exact .inr (Nat.le_trans hb.out.size hk)⟩
 clear hs0 hs1 h hG
 have hmm:=@run_makeMap Tryz.prog
 have hi0:=opI0 w A0 l0.length c0 A1 l1.length c1 a2 a3
 have hi1:=opI1 w A0 l0.length c0 A1 l1.length c1 a2 a3
 have hi2:=opI2 w A0 l0.length c0 A1 l1.length c1 a2 a3
 have hi3:=opI3 w A0 l0.length c0 A1 l1.length c1 a2 a3
 have hi4:=opI4 w A0 l0.length c0 A1 l1.length c1 a2 a3
 have hi5:=opI5 w A0 l0.length c0 A1 l1.length c1 a2 a3
 have hi6:=opI6 w A0 l0.length c0 A1 l1.length c1 a2 a3
 have hi7:=opI7 w A0 l0.length c0 A1 l1.length c1 a2 a3
 have hl:=opL119 w A0 l0.length c0 A1 l1.length c1 a2 a3
 go_enter Tryz.func80,Tryz.ntmps80
 go_wp2_with (go_at_call 103;refine hc.out.mono ?_;rintro e w2 ⟨v,rfl,ho,hb2⟩;have HO:=zA ho;have HB2:=zA hb2;clear ho hb2)
 go_ret2
 exact ⟨_,rfl,OpEnd.of hb.out hq.out HO.out HB2.out⟩
set_option maxHeartbeats 1000000 in
set_option maxRecDepth 100000 in
theorem operand_102 (P0 P1:Nat→Prop)(A0:Option Addr)(c0:Nat)(l0:List Int)(A1:Option Addr)(c1:Nat)(l1:List Int)(a2 a3:Int)(r:List Int)(w:World)(hs0:Kd.V (Kd.int .u8) 5 w w.heap.size (fun k_=>P0 k_) (.slice A0 l0.length c0) l0)(hs1:Kd.V (Kd.int .u8) 5 w w.heap.size (fun k_=>P1 k_) (.slice A1 l1.length c1) l1)(h:oper_told_f.f l0 l1 a2 a3=some r) :
    Calls Tryz.prog 80 #[.agg #[.slice A0 l0.length c0,.slice A1 l1.length c1,.int .i64 a2,.int .i64 a3],.int .u8 102] w (OpPost w P0 P1 r true):=by
 have hc:=zA (oper_told_f.calls  _ _ l0 P1 _ _ l1 a2 a3 r (((w.alloc (.cells #[.slice A0 l0.length c0,.slice A1 l1.length c1,.int .i64 a2,.int .i64 a3] 36)).alloc (.cells #[.slice A0 l0.length c0,.slice A1 l1.length c1,.int .i64 a2,.int .i64 a3] 136)).alloc (opM (.agg #[.slice A0 l0.length c0,.slice A1 l1.length c1,.int .i64 a2,.int .i64 a3]) 8)) (Kd.V_reads' (Kd.V_below hs0 (opW_below w _ _))).2.2 (Kd.V_reads' hs0).2.1 (Kd.V_below hs1 (opW_below w _ _)) h)
 have hb:=zA (opW_below w #[.slice A0 l0.length c0,.slice A1 l1.length c1,.int .i64 a2,.int .i64 a3] (opM (.agg #[.slice A0 l0.length c0,.slice A1 l1.length c1,.int .i64 a2,.int .i64 a3]) 8))
 have hq:Aside0 (∀ k,(fun k_=>(P1 k_∨(((w.alloc (.cells #[.slice A0 l0.length c0,.slice A1 l1.length c1,.int .i64 a2,.int .i64 a3] 36)).alloc (.cells #[.slice A0 l0.length c0,.slice A1 l1.length c1,.int .i64 a2,.int .i64 a3] 136)).alloc (opM (.agg #[.slice A0 l0.length c0,.slice A1 l1.length c1,.int .i64 a2,.int .i64 a3]) 8)).heap.size≤k_)) k→(P0 k∨P1 k)∨w.heap.size≤k):=⟨fun k hk=>by rcases hk with h|h;exact .inl (.inr h);exact .inr (Nat.le_trans hb.out.size h)⟩
 clear hs0 hs1 h
 have hmm:=@run_makeMap Tryz.prog
 have hi0:=opI0 w A0 l0.length c0 A1 l1.length c1 a2 a3
 have hi1:=opI1 w A0 l0.length c0 A1 l1.length c1 a2 a3
 have hi2:=opI2 w A0 l0.length c0 A1 l1.length c1 a2 a3
 have hi3:=opI3 w A0 l0.length c0 A1 l1.length c1 a2 a3
 have hi4:=opI4 w A0 l0.length c0 A1 l1.length c1 a2 a3
 have hi5:=opI5 w A0 l0.length c0 A1 l1.length c1 a2 a3
 have hi6:=opI6 w A0 l0.length c0 A1 l1.length c1 a2 a3
 have hi7:=opI7 w A0 l0.length c0 A1 l1.length c1 a2 a3
 have hl:=opL102 w A0 l0.length c0 A1 l1.length c1 a2 a3
 go_enter Tryz.func80,Tryz.ntmps80
 go_wp2_with (go_at_call 104;refine hc.out.mono ?_;rintro e w2 ⟨v,rfl,ho,hb2⟩;have HO:=zA ho;have HB2:=zA hb2;clear ho hb2)
 go_ret2
 exact ⟨_,rfl,OpEnd.of hb.out hq.out HO.out HB2.out⟩
set_option maxHeartbeats 1000000 in
set_option maxRecDepth 100000 in
theorem operand_116 (P0 P1:Nat→Prop)(A0:Option Addr)(c0:Nat)(l0:List Int)(A1:Option Addr)(c1:Nat)(l1:List Int)(a2 a3:Int)(r:List Int)(w:World)(hs0:Kd.V (Kd.int .u8) 5 w w.heap.size (fun k_=>P0 k_) (.slice A0 l0.length c0) l0)(hs1:Kd.V (Kd.int .u8) 5 w w.heap.size (fun k_=>P1 k_) (.slice A1 l1.length c1) l1)(h:oper_told_t.f l0 l1 a2 a3=some r) :
    Calls Tryz.prog 80 #[.agg #[.slice A0 l0.length c0,.slice A1 l1.length c1,.int .i64 a2,.int .i64 a3],.int .u8 116] w (OpPost w P0 P1 r true):=by
 have hc:=zA (oper_told_t.calls  _ _ l0 P1 _ _ l1 a2 a3 r (((w.alloc (.cells #[.slice A0 l0.length c0,.slice A1 l1.length c1,.int .i64 a2,.int .i64 a3] 36)).alloc (.cells #[.slice A0 l0.length c0,.slice A1 l1.length c1,.int .i64 a2,.int .i64 a3] 136)).alloc (opM (.agg #[.slice A0 l0.length c0,.slice A1 l1.length c1,.int .i64 a2,.int .i64 a3]) 8)) (Kd.V_reads' (Kd.V_below hs0 (opW_below w _ _))).2.2 (Kd.V_reads' hs0).2.1 (Kd.V_below hs1 (opW_below w _ _)) h)
 have hb:=zA (opW_below w #[.slice A0 l0.length c0,.slice A1 l1.length c1,.int .i64 a2,.int .i64 a3] (opM (.agg #[.slice A0 l0.length c0,.slice A1 l1.length c1,.int .i64 a2,.int .i64 a3]) 8))
 have hq:Aside0 (∀ k,(fun k_=>(P1 k_∨(((w.alloc (.cells #[.slice A0 l0.length c0,.slice A1 l1.length c1,.int .i64 a2,.int .i64 a3] 36)).alloc (.cells #[.slice A0 l0.length c0,.slice A1 l1.length c1,.int .i64 a2,.int .i64 a3] 136)).alloc (opM (.agg #[.slice A0 l0.length c0,.slice A1 l1.length c1,.int .i64 a2,.int .i64 a3]) 8)).heap.size≤k_)) k→(P0 k∨P1 k)∨w.heap.size≤k):=⟨fun k hk=>by rcases hk with h|h;exact .inl (.inr h);exact .inr (Nat.le_trans hb.out.size h)⟩
 clear hs0 hs1 h
 have hmm:=@run_makeMap Tryz.prog
 have hi0:=opI0 w A0 l0.length c0 A1 l1.length c1 a2 a3
 have hi1:=opI1 w A0 l0.length c0 A1 l1.length c1 a2 a3
 have hi2:=opI2 w A0 l0.length c0 A1 l1.length c1 a2 a3
 have hi3:=opI3 w A0 l0.length c0 A1 l1.length c1 a2 a3
 have hi4:=opI4 w A0 l0.length c0 A1 l1.length c1 a2 a3
 have hi5:=opI5 w A0 l0.length c0 A1 l1.length c1 a2 a3
 have hi6:=opI6 w A0 l0.length c0 A1 l1.length c1 a2 a3
 have hi7:=opI7 w A0 l0.length c0 A1 l1.length c1 a2 a3
 have hl:=opL116 w A0 l0.length c0 A1 l1.length c1 a2 a3
 go_enter Tryz.func80,Tryz.ntmps80
 go_wp2_with (go_at_call 105;refine hc.out.mono ?_;rintro e w2 ⟨v,rfl,ho,hb2⟩;have HO:=zA ho;have HB2:=zA hb2;clear ho hb2)
 go_ret2
 exact ⟨_,rfl,OpEnd.of hb.out hq.out HO.out HB2.out⟩
set_option maxHeartbeats 1000000 in
set_option maxRecDepth 100000 in
theorem operand_99 (P0 P1:Nat→Prop)(A0:Option Addr)(c0:Nat)(l0:List Int)(A1:Option Addr)(c1:Nat)(l1:List Int)(a2 a3:Int)(r:List Int)(w:World)(hG:GL w)(hs0:Kd.V (Kd.int .u8) 5 w w.heap.size (fun k_=>P0 k_) (.slice A0 l0.length c0) l0)(hs1:Kd.V (Kd.int .u8) 5 w w.heap.size (fun k_=>P1 k_) (.slice A1 l1.length c1) l1)(h:oper_told_c.f l0 l1 a2 a3=some r) :
    Calls Tryz.prog 80 #[.agg #[.slice A0 l0.length c0,.slice A1 l1.length c1,.int .i64 a2,.int .i64 a3],.int .u8 99] w (OpPost w P0 P1 r true):=by
 have hc:=zA (oper_told_c.calls  _ _ l0 _ _ l1 a2 a3 r (((w.alloc (.cells #[.slice A0 l0.length c0,.slice A1 l1.length c1,.int .i64 a2,.int .i64 a3] 36)).alloc (.cells #[.slice A0 l0.length c0,.slice A1 l1.length c1,.int .i64 a2,.int .i64 a3] 136)).alloc (opM (.agg #[.slice A0 l0.length c0,.slice A1 l1.length c1,.int .i64 a2,.int .i64 a3]) 8)) (hG.below (opW_below w _ _)) (Kd.V_reads' (Kd.V_below hs0 (opW_below w _ _))).2.2 (Kd.V_reads' hs0).2.1 (Kd.V_reads' (Kd.V_below hs1 (opW_below w _ _))).2.2 (Kd.V_reads' hs1).2.1 h)
 have hb:=zA (opW_below w #[.slice A0 l0.length c0,.slice A1 l1.length c1,.int .i64 a2,.int .i64 a3] (opM (.agg #[.slice A0 l0.length c0,.slice A1 l1.length c1,.int .i64 a2,.int .i64 a3]) 8))
 have hq:Aside0 (∀ k,(fun k_=>((((w.alloc (.cells #[.slice A0 l0.length c0,.slice A1 l1.length c1,.int .i64 a2,.int .i64 a3] 36)).alloc (.cells #[.slice A0 l0.length c0,.slice A1 l1.length c1,.int .i64 a2,.int .i64 a3] 136)).alloc (opM (.agg #[.slice A0 l0.length c0,.slice A1 l1.length c1,.int .i64 a2,.int .i64 a3]) 8)).heap.size≤k_)) k→(P0 k∨P1 k)∨w.heap.size≤k):=⟨fun k hk=>by exact .inr (Nat.le_trans hb.out.size hk)⟩
 clear hs0 hs1 h hG
 have hmm:=@run_makeMap Tryz.prog
 have hi0:=opI0 w A0 l0.length c0 A1 l1.length c1 a2 a3
 have hi1:=opI1 w A0 l0.length c0 A1 l1.length c1 a2 a3
 have hi2:=opI2 w A0 l0.length c0 A1 l1.length c1 a2 a3
 have hi3:=opI3 w A0 l0.length c0 A1 l1.length c1 a2 a3
 have hi4:=opI4 w A0 l0.length c0 A1 l1.length c1 a2 a3
 have hi5:=opI5 w A0 l0.length c0 A1 l1.length c1 a2 a3
 have hi6:=opI6 w A0 l0.length c0 A1 l1.length c1 a2 a3
 have hi7:=opI7 w A0 l0.length c0 A1 l1.length c1 a2 a3
 have hl:=opL99 w A0 l0.length c0 A1 l1.length c1 a2 a3
 go_enter Tryz.func80,Tryz.ntmps80
 go_wp2_with (go_at_call 106;refine hc.out.mono ?_;rintro e w2 ⟨v,rfl,ho,hb2⟩;have HO:=zA ho;have HB2:=zA hb2;clear ho hb2)
 go_ret2
 exact ⟨_,rfl,OpEnd.of hb.out hq.out HO.out HB2.out⟩
set_option maxHeartbeats 1000000 in
set_option maxRecDepth 100000 in
theorem operand_101 (P0 P1:Nat→Prop)(A0:Option Addr)(c0:Nat)(l0:List Int)(A1:Option Addr)(c1:Nat)(l1:List Int)(a2 a3:Int)(r:List Int)(w:World)(hG:GL w)(hs0:Kd.V (Kd.int .u8) 5 w w.heap.size (fun k_=>P0 k_) (.slice A0 l0.length c0) l0)(hs1:Kd.V (Kd.int .u8) 5 w w.heap.size (fun k_=>P1 k_) (.slice A1 l1.length c1) l1)(h:oper_told_c.f l0 l1 a2 a3=some r) :
    Calls Tryz.prog 80 #[.agg #[.slice A0 l0.length c0,.slice A1 l1.length c1,.int .i64 a2,.int .i64 a3],.int .u8 101] w (OpPost w P0 P1 r true):=by
 have hc:=zA (oper_told_c.calls  _ _ l0 _ _ l1 a2 a3 r (((w.alloc (.cells #[.slice A0 l0.length c0,.slice A1 l1.length c1,.int .i64 a2,.int .i64 a3] 36)).alloc (.cells #[.slice A0 l0.length c0,.slice A1 l1.length c1,.int .i64 a2,.int .i64 a3] 136)).alloc (opM (.agg #[.slice A0 l0.length c0,.slice A1 l1.length c1,.int .i64 a2,.int .i64 a3]) 8)) (hG.below (opW_below w _ _)) (Kd.V_reads' (Kd.V_below hs0 (opW_below w _ _))).2.2 (Kd.V_reads' hs0).2.1 (Kd.V_reads' (Kd.V_below hs1 (opW_below w _ _))).2.2 (Kd.V_reads' hs1).2.1 h)
 have hb:=zA (opW_below w #[.slice A0 l0.length c0,.slice A1 l1.length c1,.int .i64 a2,.int .i64 a3] (opM (.agg #[.slice A0 l0.length c0,.slice A1 l1.length c1,.int .i64 a2,.int .i64 a3]) 8))
 have hq:Aside0 (∀ k,(fun k_=>((((w.alloc (.cells #[.slice A0 l0.length c0,.slice A1 l1.length c1,.int .i64 a2,.int .i64 a3] 36)).alloc (.cells #[.slice A0 l0.length c0,.slice A1 l1.length c1,.int .i64 a2,.int .i64 a3] 136)).alloc (opM (.agg #[.slice A0 l0.length c0,.slice A1 l1.length c1,.int .i64 a2,.int .i64 a3]) 8)).heap.size≤k_)) k→(P0 k∨P1 k)∨w.heap.size≤k):=⟨fun k hk=>by exact .inr (Nat.le_trans hb.out.size hk)⟩
 clear hs0 hs1 h hG
 have hmm:=@run_makeMap Tryz.prog
 have hi0:=opI0 w A0 l0.length c0 A1 l1.length c1 a2 a3
 have hi1:=opI1 w A0 l0.length c0 A1 l1.length c1 a2 a3
 have hi2:=opI2 w A0 l0.length c0 A1 l1.length c1 a2 a3
 have hi3:=opI3 w A0 l0.length c0 A1 l1.length c1 a2 a3
 have hi4:=opI4 w A0 l0.length c0 A1 l1.length c1 a2 a3
 have hi5:=opI5 w A0 l0.length c0 A1 l1.length c1 a2 a3
 have hi6:=opI6 w A0 l0.length c0 A1 l1.length c1 a2 a3
 have hi7:=opI7 w A0 l0.length c0 A1 l1.length c1 a2 a3
 have hl:=opL101 w A0 l0.length c0 A1 l1.length c1 a2 a3
 go_enter Tryz.func80,Tryz.ntmps80
 go_wp2_with (go_at_call 106;refine hc.out.mono ?_;rintro e w2 ⟨v,rfl,ho,hb2⟩;have HO:=zA ho;have HB2:=zA hb2;clear ho hb2)
 go_ret2
 exact ⟨_,rfl,OpEnd.of hb.out hq.out HO.out HB2.out⟩
set_option maxHeartbeats 1000000 in
set_option maxRecDepth 100000 in
theorem operand_part (P0 P1:Nat→Prop)(A0:Option Addr)(c0:Nat)(l0:List Int)(A1:Option Addr)(c1:Nat)(l1:List Int)(a2 a3:Int)(w:World)(hw:0<a2):Calls Tryz.prog 80 #[.agg #[.slice A0 l0.length c0,.slice A1 l1.length c1,.int .i64 a2,.int .i64 a3],.int .u8 110] w (OpPost w P0 P1 [] false):=by
 have hb:=zA (opW_below w #[.slice A0 l0.length c0,.slice A1 l1.length c1,.int .i64 a2,.int .i64 a3] (opM (.agg #[.slice A0 l0.length c0,.slice A1 l1.length c1,.int .i64 a2,.int .i64 a3]) 8))
 have hmm:=@run_makeMap Tryz.prog
 have hi0:=opI0 w A0 l0.length c0 A1 l1.length c1 a2 a3
 have hi1:=opI1 w A0 l0.length c0 A1 l1.length c1 a2 a3
 have hi2:=opI2 w A0 l0.length c0 A1 l1.length c1 a2 a3
 have hi3:=opI3 w A0 l0.length c0 A1 l1.length c1 a2 a3
 have hi4:=opI4 w A0 l0.length c0 A1 l1.length c1 a2 a3
 have hi5:=opI5 w A0 l0.length c0 A1 l1.length c1 a2 a3
 have hi6:=opI6 w A0 l0.length c0 A1 l1.length c1 a2 a3
 have hi7:=opI7 w A0 l0.length c0 A1 l1.length c1 a2 a3
 have hl:=opL110 w A0 l0.length c0 A1 l1.length c1 a2 a3
 go_enter Tryz.func80,Tryz.ntmps80
 go_wp2
 go_ret2
 exact ⟨_,rfl,Kd.V_nil _ _ _ _ _,hb.out⟩
theorem op_findNone (r:Value)(name:Int)(h110:¬ name=110)(h105:¬ name=105)(h118:¬ name=118)(h119:¬ name=119)(h102:¬ name=102)(h116:¬ name=116)(h99:¬ name=99)(h101:¬ name=101):Instr.findNow (.int .u8) (.int .u8 name) (opEs r) 0=some none:=by
 have e:∀ k:Int,¬ name=k→Instr.sameNow (.int .u8) (.int .u8 name) (.int .u8 k)=some false:=fun k hk=>by simp [Instr.sameNow,hk]
 simp only [opEs,Instr.findNow,e _ h110,e _ h105,e _ h118,e _ h119,e _ h102,e _ h116,e _ h99,e _ h101]
set_option maxHeartbeats 1000000 in
set_option maxRecDepth 100000 in
theorem operand_none (P0 P1:Nat→Prop)(A0:Option Addr)(c0:Nat)(l0:List Int)(A1:Option Addr)(c1:Nat)(l1:List Int)(a2 a3:Int)(name:Int)(w:World)(h110:¬ name=110)(h105:¬ name=105)(h118:¬ name=118)(h119:¬ name=119)(h102:¬ name=102)(h116:¬ name=116)(h99:¬ name=99)(h101:¬ name=101):Calls Tryz.prog 80 #[.agg #[.slice A0 l0.length c0,.slice A1 l1.length c1,.int .i64 a2,.int .i64 a3],.int .u8 name] w (OpPost w P0 P1 [] false):=by
 have hb:=zA (opW_below w #[.slice A0 l0.length c0,.slice A1 l1.length c1,.int .i64 a2,.int .i64 a3] (opM (.agg #[.slice A0 l0.length c0,.slice A1 l1.length c1,.int .i64 a2,.int .i64 a3]) 8))
 have hmm:=@run_makeMap Tryz.prog
 have hi0:=opI0 w A0 l0.length c0 A1 l1.length c1 a2 a3
 have hi1:=opI1 w A0 l0.length c0 A1 l1.length c1 a2 a3
 have hi2:=opI2 w A0 l0.length c0 A1 l1.length c1 a2 a3
 have hi3:=opI3 w A0 l0.length c0 A1 l1.length c1 a2 a3
 have hi4:=opI4 w A0 l0.length c0 A1 l1.length c1 a2 a3
 have hi5:=opI5 w A0 l0.length c0 A1 l1.length c1 a2 a3
 have hi6:=opI6 w A0 l0.length c0 A1 l1.length c1 a2 a3
 have hi7:=opI7 w A0 l0.length c0 A1 l1.length c1 a2 a3
 have hl:(Instr.lookup 138 (.map (some (w.heap.size+1+1))) (.int .u8 name) true).run Tryz.prog (((w.alloc (.cells #[.slice A0 l0.length c0,.slice A1 l1.length c1,.int .i64 a2,.int .i64 a3] 36)).alloc (.cells #[.slice A0 l0.length c0,.slice A1 l1.length c1,.int .i64 a2,.int .i64 a3] 136)).alloc (opM (.agg #[.slice A0 l0.length c0,.slice A1 l1.length c1,.int .i64 a2,.int .i64 a3]) 8)) = .ok (.tuple #[.nilFunc,.bool false]) (((w.alloc (.cells #[.slice A0 l0.length c0,.slice A1 l1.length c1,.int .i64 a2,.int .i64 a3] 36)).alloc (.cells #[.slice A0 l0.length c0,.slice A1 l1.length c1,.int .i64 a2,.int .i64 a3] 136)).alloc (opM (.agg #[.slice A0 l0.length c0,.slice A1 l1.length c1,.int .i64 a2,.int .i64 a3]) 8)):=run_look_none (opW w #[.slice A0 l0.length c0,.slice A1 l1.length c1,.int .i64 a2,.int .i64 a3]) Tryz.underlying138 Tryz.underlying5 _ (opW_size w _) _ 8 name .nilFunc true (fun w=>by kernel_rfl) (op_findNone (.agg #[.slice A0 l0.length c0,.slice A1 l1.length c1,.int .i64 a2,.int .i64 a3]) name h110 h105 h118 h119 h102 h116 h99 h101)
 clear h110 h105 h118 h119 h102 h116 h99 h101
 go_enter Tryz.func80,Tryz.ntmps80
 go_wp2
 go_ret2
 exact ⟨_,rfl,Kd.V_nil _ _ _ _ _,hb.out⟩
theorem wholeO_some {t:Option (List Int)}{r1:List Int}{r2:Bool}(h:wholeO t=some (r1,r2)):t=some r1∧r2=true:=by
 unfold wholeO at h
 cases t with
 | none=>cases h
 | some x=>simp at h;exact ⟨by rw [h.1],h.2⟩
theorem oper_Operand.calls (P0_0_:Nat→Prop)(A0_0:Option Addr)(c0_0:Nat)(l0_0:List Int)(P0_1_:Nat→Prop)(A0_1:Option Addr)(c0_1:Nat)(l0_1:List Int)(a0_2 a0_3:Int)(a1:Int)(r1:List Int)(r2:Bool)(w:World)(hG:GL w)(hs0_0:Kd.V (Kd.int .u8) 5 w w.heap.size (fun k_=>P0_0_ k_) (.slice A0_0 l0_0.length c0_0) l0_0)(hs0_1:Kd.V (Kd.int .u8) 5 w w.heap.size (fun k_=>P0_1_ k_) (.slice A0_1 l0_1.length c0_1) l0_1)(h:oper_Operand.f l0_0 l0_1 a0_2 a0_3 a1=some (r1,r2)) :
    Calls Tryz.prog 80 #[.agg #[.slice A0_0 l0_0.length c0_0,.slice A0_1 l0_1.length c0_1,.int .i64 a0_2,.int .i64 a0_3],.int .u8 a1] w fun e w'=>∃ v1_:Value,e = .returned (.tuple #[v1_,.bool r2])∧Kd.V (Kd.int .u8) 5 w' w.heap.size (fun k_=>((P0_0_ k_∨P0_1_ k_)∨w.heap.size≤k_)) v1_ r1∧Below w.heap.size w w':=by
 have H:∀ {r:List Int} {ok:Bool},r=r1→ok=r2→Calls Tryz.prog 80 #[.agg #[.slice A0_0 l0_0.length c0_0,.slice A0_1 l0_1.length c0_1,.int .i64 a0_2,.int .i64 a0_3],.int .u8 a1] w (OpPost w P0_0_ P0_1_ r ok)→Calls Tryz.prog 80 #[.agg #[.slice A0_0 l0_0.length c0_0,.slice A0_1 l0_1.length c0_1,.int .i64 a0_2,.int .i64 a0_3],.int .u8 a1] w fun e w'=>∃ v1_:Value,e = .returned (.tuple #[v1_,.bool r2])∧Kd.V (Kd.int .u8) 5 w' w.heap.size (fun k_=>((P0_0_ k_∨P0_1_ k_)∨w.heap.size≤k_)) v1_ r1∧Below w.heap.size w w':=by
  rintro r ok rfl rfl hc
  exact hc.mono fun e w' he=>he
 unfold oper_Operand.f at h
 by_cases h110:a1=110
 ·rw [if_pos h110] at h
  subst h110
  by_cases hw:a0_2>0
  ·rw [if_pos hw] at h
   simp only [Option.some.injEq,Prod.mk.injEq] at h
   exact H h.1 h.2 (operand_part _ _ _ _ _ _ _ _ _ _ w hw)
  rw [if_neg hw] at h
  obtain ⟨h1,rfl⟩:=wholeO_some h
  exact H rfl rfl (operand_110 _ _ _ _ _ _ _ _ _ _ _ w hw hs0_0 hs0_1 h1)
 rw [if_neg h110] at h
 by_cases h105:a1=105
 ·rw [if_pos h105] at h
  subst h105
  obtain ⟨h1,rfl⟩:=wholeO_some h
  exact H rfl rfl (operand_105 _ _ _ _ _ _ _ _ _ _ _ w hs0_0 hs0_1 h1)
 rw [if_neg h105] at h
 by_cases h118:a1=118
 ·rw [if_pos h118] at h
  subst h118
  obtain ⟨h1,rfl⟩:=wholeO_some h
  exact H rfl rfl (operand_118 _ _ _ _ _ _ _ _ _ _ _ w hG hs0_0 hs0_1 h1)
 rw [if_neg h118] at h
 by_cases h119:a1=119
 ·rw [if_pos h119] at h
  subst h119
  obtain ⟨h1,rfl⟩:=wholeO_some h
  exact H rfl rfl (operand_119 _ _ _ _ _ _ _ _ _ _ _ w hG hs0_0 hs0_1 h1)
 rw [if_neg h119] at h
 by_cases h102:a1=102
 ·rw [if_pos h102] at h
  subst h102
  obtain ⟨h1,rfl⟩:=wholeO_some h
  exact H rfl rfl (operand_102 _ _ _ _ _ _ _ _ _ _ _ w hs0_0 hs0_1 h1)
 rw [if_neg h102] at h
 by_cases h116:a1=116
 ·rw [if_pos h116] at h
  subst h116
  obtain ⟨h1,rfl⟩:=wholeO_some h
  exact H rfl rfl (operand_116 _ _ _ _ _ _ _ _ _ _ _ w hs0_0 hs0_1 h1)
 rw [if_neg h116] at h
 by_cases h99:a1=99
 ·rw [if_pos h99] at h
  subst h99
  obtain ⟨h1,rfl⟩:=wholeO_some h
  exact H rfl rfl (operand_99 _ _ _ _ _ _ _ _ _ _ _ w hG hs0_0 hs0_1 h1)
 rw [if_neg h99] at h
 by_cases h101:a1=101
 ·rw [if_pos h101] at h
  subst h101
  obtain ⟨h1,rfl⟩:=wholeO_some h
  exact H rfl rfl (operand_101 _ _ _ _ _ _ _ _ _ _ _ w hG hs0_0 hs0_1 h1)
 rw [if_neg h101] at h
 simp only [Option.some.injEq,Prod.mk.injEq] at h
 exact H h.1 h.2 (operand_none _ _ _ _ _ _ _ _ _ _ a1 w h110 h105 h118 h119 h102 h116 h99 h101)
end
theorem bytes_ext2 (a b:ByteArray):(a.toList == b.toList)=decide (a=b):=by
 by_cases h:a=b
 · subst h;simp
 rw [zD h]
 refine zF (fun e=>h ?_)
 simp only [ByteArray.toList_eq] at e
 exact ByteArray.ext (Array.toList_inj.mp e)
set_option maxHeartbeats 8000000 in
set_option maxRecDepth 100000 in
theorem ref_parse (R:Int→Option (Int×Int×Bool×List Rg×Int×Bool))(O Wd:Int→Option Int)(a0:ByteArray)
    (hR:∀ at_ x W,R at_=some x→Calls Tryz.prog 71 #[.string a0,.int .i64 at_] W fun e w'=>∃ A c,e = .returned (.tuple #[.agg #[.int .u8 x.1,.int .i64 x.2.1,.bool x.2.2.1,.slice A x.2.2.2.1.length c],.int .i64 x.2.2.2.2.1,.bool x.2.2.2.2.2])∧Kd.R k57 57 w' W.heap.size (fun _=>True) (.slice A x.2.2.2.1.length c) x.2.2.2.1∧Below W.heap.size W w')
    (hO:∀ at_ r W,O at_=some r→Calls Tryz.prog 72 #[.string a0,.int .i64 at_] W fun e w'=>e = .returned (.int .i64 r)∧Below W.heap.size W w')
    (hW:∀ at_ r W,Wd at_=some r→Calls Tryz.prog 73 #[.string a0,.int .i64 at_] W fun e w'=>e = .returned (.int .i64 r)∧Below W.heap.size W w')
    (r1:List (List Rl)) (r2 r3:Int) (w:World) (h:(if (a0.size:Int)>400 then some ([],0,11) else refGo R O Wd a0 (a0.size+2) 0 0 false [] [])=some (r1,r2,r3)) :
    Calls Tryz.prog 51 #[.string a0] w fun e w'=>∃ v1_:Value,e = .returned (.tuple #[v1_,.int .i64 r2,.int .i64 r3])∧Kd.R (Kd.slice 60 k60) 61 w' w.heap.size (fun _=>True) v1_ r1∧Below w.heap.size w w':=by
 by_cases hs:(a0.size:Int)>400
 ·rw [if_pos hs] at h
  have g1:decide ((a0.size:Int)>400)=true:=zC hs
  obtain ⟨rfl,e2⟩:=Prod.mk.inj (zE h)
  obtain ⟨rfl,rfl⟩:=Prod.mk.inj e2
  clear h e2 hs
  go_enter Tryz.func51,Tryz.ntmps51
  go_wp2
  go_ret3
  exact ⟨_,rfl,Kd.R_nil _ _ _ _ _,Below.refl _ _⟩
 rw [if_neg hs] at h
 have g1:decide ((a0.size:Int)>400)=false:=zD hs
 have hsz:a0.size≤400:=by omega
 have H0:=zA h
 have HRel:=zA hR
 have HOver:=zA hO
 have HWord:=zA hW
 clear h hs hR hO hW
 go_enter Tryz.func51,Tryz.ntmps51
 go_wp2
 go_loopg [5,6,7,8,9] (a0.size+2) (fun gg s5 s6 s7 s8 s9 wr=>∃ (m:Nat) (vc vr:Value) (c:List (List Rl)) (row:List Rl) (many at_:Int) (full:Bool),vc=s5∧vr=s6∧s7 = .int .i64 many∧s8 = .bool full∧s9 = .int .i64 at_∧Aside0 (RPSt w m vc c vr row wr)∧Aside0 (refGo R O Wd a0 gg at_ many full c row=some (r1,r2,r3))∧Aside0 (c.length+row.length+gg≤a0.size+2∧many+gg≤a0.size+2∧0≤many))
 case atStart=>exact ⟨w.heap.size,_,_,[],[],0,0,false,rfl,rfl,rfl,rfl,rfl,⟨RPSt.start w⟩,H0,⟨by simp⟩⟩
 case round=>
  obtain ⟨m,vc,vr,c,row,many,at_,full,rfl,rfl,rfl,rfl,rfl,HS,HF,HL⟩:=hrel
  cases gk with
  | zero=>exact absurd HF.out (by simp [refGo])
  | succ k1=>
   have H:=HF.out
   clear HF
   simp only [refGo] at H
   obtain ⟨x,hx,H⟩:=Option.bind_eq_some_iff.mp H
   obtain ⟨x1,x2,x3,x4,x5,x6⟩:=x
   simp only at H
   have HR1:=zA (fun W=>HRel.out at_ _ W hx)
   clear hx HRel
   cases x6 with
   | false=>
    simp only [Bool.false_eq_true,if_false] at H
    obtain ⟨rfl,e2⟩:=Prod.mk.inj (zE H)
    obtain ⟨rfl,rfl⟩:=Prod.mk.inj e2
    clear H e2
    go_wp2_with (go_at_call 71;refine (HR1.out _).mono ?_;rintro e w5 ⟨A3,c3,rfl,hr5,hb5⟩;have HS5:=zA (HS.out.call hb5);clear hr5 hb5)
    go_ret3
    exact ⟨_,rfl,Kd.R_nil _ _ _ _ _,below_alloc HS5.out.b _⟩
   | true=>
    simp only [if_true] at H
    replace H:=zA H
    go_upto_region 8 with (fail)
    go_cut [10,11,12] (fun p nx ok wc=>∃ (N gx:Nat) (A3:Option Addr) (c3:Nat),p = .pointer (some ⟨gx,0,none⟩)∧nx = .int .i64 x5∧ok = .bool true∧Aside0 (RPX w m vc c vr row (⟨x1,x2,x3,x4⟩:Rl) (.slice A3 x4.length c3) N gx wc))
    case first=>
     go_wp2_with (go_at_call 71;refine (HR1.out _).mono ?_;rintro e w5 ⟨A3,c3,rfl,hr5,hb5⟩;have HS5:=zA (HS.out.read (x:=(⟨x1,x2,x3,x4⟩:Rl)) hb5 hr5);clear hr5 hb5)
     go_meet
     case rel=>exact ⟨_,_,A3,c3,rfl,rfl,rfl,HS5⟩
    case rest=>
     clear HS HR1
     obtain ⟨N,gx,A3,c3,rfl,rfl,rfl,HP⟩:=hcut
     have hm0:0≤many:=HL.out.2.2
     have hm1:many≤402:=by have:=HL.out.2.1;omega
     obtain ⟨fl2,hfl2⟩:∃ fl2,fl2=(full || decide ((x4.length:Int)>20) || decide (many+1>20)):=⟨_,rfl⟩
     have H2:=H.out
     clear H
     rw [← hfl2] at H2
     replace H2:=zA H2
     replace hfl2:=zA hfl2
     go_upto_region 12 with (fail)
     go_cut [8] (fun f wc=>f = .bool fl2∧Aside0 (RPX w m vc c vr row (⟨x1,x2,x3,x4⟩:Rl) (.slice A3 x4.length c3) N gx wc))
     case first=>
      have b3:wc.cell? ⟨gx,3,none⟩=some (.slice A3 x4.length c3):=(blk_cell HP.out.bx 3).trans rfl
      cases k1:decide ((20:Int)<(x4.length:Int)) <;> cases k2:decide ((20:Int)<many+1) <;> cases full
      all_goals
       have HF:=zA (by have h_:=hfl2.out;rw [show decide ((x4.length:Int)>20)=_ from k1,show decide (many+1>20)=_ from k2] at h_;exact h_)
       clear hfl2
       go_wp2
       go_meet
       case rel=>exact ⟨by rw [HF.out];rfl,HP⟩
     case rest=>
      clear HP hfl2
      obtain ⟨rfl,HP⟩:=hcut
      have b0:wc.cell? ⟨gx,0,none⟩=some (.int .u8 x1):=(blk_cell HP.out.bx 0).trans rfl
      have b1:wc.cell? ⟨gx,1,none⟩=some (.int .i64 x2):=(blk_cell HP.out.bx 1).trans rfl
      have b2:wc.cell? ⟨gx,2,none⟩=some (.bool x3):=(blk_cell HP.out.bx 2).trans rfl
      have b3:wc.cell? ⟨gx,3,none⟩=some (.slice A3 x4.length c3):=(blk_cell HP.out.bx 3).trans rfl
      have HRL:=zA (show (row.length+1) * 48≤140737488355328 from by have:=HL.out.1;omega)
      have H3:=H2.out
      clear H2
      obtain ⟨a2,ho2,H3⟩:=Option.bind_eq_some_iff.mp H3
      have HO2:=zA (fun W=>HOver.out x5 a2 W ho2)
      clear ho2
      replace H3:=zA H3
      have HM1:=zA (HP.out.st.lo)
      go_upto_region 15 with (first
       | ((with_reducible refine gate_builtin (b:=.append) (xs:=#[.tmp 40,.tmp 42]) rfl ?_);at_builtin;refine Kd.R_append k60 (w0:=wc) m rfl (.tmp 40) (.tmp 42) 61 60 (.agg #[(.int .u8 0),(.int .i64 0),(.bool false),(.slice none 0 0)]) 48 rfl Tryz.underlying61 info60 rfl (by decide) (by omega) vr row (⟨x1,x2,x3,x4⟩:Rl) [.int .u8 x1,.int .i64 x2,.bool x3,.slice A3 x4.length c3] (fun k=>m≤k) (fun k=>m≤k∧N≤k) rfl rfl HP.out.m_ HP.out.ok_ (fun k hk=>Nat.le_trans HP.out.st.hi hk) HP.out.st.hr (Below.refl _ _) HP.out.st.hi HRL.out ?_;intro v1 w1 ho hb hg hat;have HS:=zA (HP.out.done_ ho hb hg);clear ho hb hg hat)
       | (go_at_call 72;refine (HO2.out _).mono ?_;rintro e w6 ⟨rfl,hb6⟩;have HS6:=zA (HS.out.call hb6);clear hb6))
      clear HP b0 b1 b2 b3 HS
      obtain ⟨row',hrw⟩:∃ r,row ++ [(⟨x1,x2,x3,x4⟩:Rl)]=r:=⟨_,rfl⟩
      rw [hrw] at HS6 H3
      have HRW:=zA (show row'.length=row.length+1 from by rw [← hrw];simp)
      clear hrw
      have H4:=H3.out
      clear H3
      have HCL:=zA (show (c.length+1) * 24≤140737488355328 from by have:=HL.out.1;omega)
      by_cases he:a2=(a0.size:Int)
      ·rw [if_pos he] at H4
       subst he
       cases fl2 with
       | true=>
        simp only [if_true] at H4
        obtain ⟨rfl,e2⟩:=Prod.mk.inj (zE H4)
        obtain ⟨rfl,rfl⟩:=Prod.mk.inj e2
        clear H4 e2
        go_wp2
        go_ret3
        exact ⟨_,rfl,Kd.R_nil _ _ _ _ _,HS6.out.b⟩
       | false=>
        simp only [Bool.false_eq_true,if_false] at H4
        obtain ⟨rfl,e2⟩:=Prod.mk.inj (zE H4)
        obtain ⟨rfl,rfl⟩:=Prod.mk.inj e2
        clear H4 e2
        obtain ⟨Av,cv,ev⟩:=Kd.R_slice HS6.out.hr
        subst ev
        go_wp2_with ((with_reducible refine gate_builtin (b:=.append) (xs:=#[.tmp 78,.tmp 80]) rfl ?_);at_builtin;refine Kd.R_append (Kd.slice 60 k60) (w0:=w) w.heap.size (by rfl) (.tmp 78) (.tmp 80) 44 61 (.slice none 0 0) 24 (by rfl) Tryz.underlying44 info61 rfl (by decide) (by omega) vc c row' [.slice Av row'.length cv] (fun _=>True) (fun k=>m≤k) (by rfl) (by rfl) HS6.out.elem HS6.out.apart (fun _ _=>trivial) HS6.out.rows HS6.out.b HS6.out.b.size HCL.out ?_;intro v2 w7 ho hb hg hat;have HE:=zA (And.intro ho hb);clear ho hb hg hat)
        go_ret3
        exact ⟨_,rfl,HE.out.1,HE.out.2⟩
      rw [if_neg he] at H4
      obtain ⟨t2,hw2,H4⟩:=Option.bind_eq_some_iff.mp H4
      by_cases hb3:0≤a2∧a2≤t2∧t2≤(a0.size:Int)
      rotate_left
      ·rw [if_neg hb3] at H4
       cases H4
      rw [if_pos hb3] at H4
      obtain ⟨q0,q1,q2⟩:=hb3
      have HW2:=zA (fun W=>HWord.out a2 t2 W hw2)
      have e1:(a2 == (a0.size:Int))=false:=by simpa using he
      clear hw2 he
      replace H4:=zA H4
      go_upto_region 17 with (go_at_call 73;refine (HW2.out _).mono ?_;rintro e w8 ⟨rfl,hb8⟩;have HS8:=zA (HS6.out.call hb8);clear hb8)
      clear HS6 HW2 e1
      have q4:decide (a2≤t2)=true:=zC q1
      have HB1:=zA (show ((a0.extract a2.toNat t2.toNat).toList == [97,110,100])=decide (a0.extract a2.toNat t2.toNat=⟨#[97,110,100]⟩) from by rw [← bytes_ext2,ByteArray.toList_eq (bs:=⟨#[97,110,100]⟩)])
      have HB2:=zA (show ((a0.extract a2.toNat t2.toNat).toList == [111,114])=decide (a0.extract a2.toNat t2.toNat=⟨#[111,114]⟩) from by rw [← bytes_ext2,ByteArray.toList_eq (bs:=⟨#[111,114]⟩)])
      have HFU:=zA (show c.length+row'.length+k1≤a0.size+2∧many+1+(k1:Int)≤(a0.size:Int)+2∧0≤many+1 from by have h_:=HL.out;have h2_:=HRW.out;omega)
      by_cases z1:a0.extract a2.toNat t2.toNat=⟨#[97,110,100]⟩
      ·have H5:=H4.out
       rw [if_pos z1] at H5
       have k1_:((a0.extract a2.toNat t2.toNat).toList == [97,110,100])=true:=HB1.out.trans (zC z1)
       have k2_:((a0.extract a2.toNat t2.toNat).toList == [111,114])=false:=HB2.out.trans (zD (by rw [z1];intro h;cases h))
       replace H5:=zA H5
       clear H4 HB1 HB2 z1
       go_wp2
       go_roundg k1
       case measure=>omega
       case rel=>exact ⟨m,vc,v1,c,row',many+1,t2,fl2,rfl,rfl,rfl,rfl,rfl,HS8,H5,HFU⟩
      by_cases z2:a0.extract a2.toNat t2.toNat=⟨#[111,114]⟩
      ·have H5:=H4.out
       rw [if_neg z1,if_pos z2] at H5
       have k1_:((a0.extract a2.toNat t2.toNat).toList == [97,110,100])=false:=HB1.out.trans (zD z1)
       have k2_:((a0.extract a2.toNat t2.toNat).toList == [111,114])=true:=HB2.out.trans (zC z2)
       replace H5:=zA H5
       clear H4 HB1 HB2 z1 z2
       obtain ⟨Av,cv,ev⟩:=Kd.R_slice HS8.out.hr
       subst ev
       go_wp2_with ((with_reducible refine gate_builtin (b:=.append) (xs:=#[.tmp 72,.tmp 74]) rfl ?_);at_builtin;refine Kd.R_append (Kd.slice 60 k60) (w0:=w) w.heap.size (by rfl) (.tmp 72) (.tmp 74) 44 61 (.slice none 0 0) 24 (by rfl) Tryz.underlying44 info61 rfl (by decide) (by omega) vc c row' [.slice Av row'.length cv] (fun _=>True) (fun k=>m≤k) (by rfl) (by rfl) HS8.out.elem HS8.out.apart (fun _ _=>trivial) HS8.out.rows HS8.out.b HS8.out.b.size HCL.out ?_;intro v2 w9 ho hb hg hat;have HE:=zA (HS8.out.rowDone ho hb);clear ho hb hg hat)
       obtain ⟨m2,hE⟩:=HE.out
       go_roundg k1
       case measure=>omega
       case rel=>exact ⟨m2,v2,_,c ++ [row'],[],many+1,t2,fl2,rfl,rfl,rfl,rfl,rfl,⟨hE⟩,H5,⟨by have h_:=HFU.out;have h2_:=HRW.out;simp only [List.length_append,List.length_cons,List.length_nil] at h_ ⊢;omega,HFU.out.2⟩⟩
      have H5:=H4.out
      rw [if_neg z1,if_neg z2] at H5
      obtain ⟨rfl,e2⟩:=Prod.mk.inj (zE H5)
      obtain ⟨rfl,rfl⟩:=Prod.mk.inj e2
      have k1_:((a0.extract a2.toNat t2.toNat).toList == [97,110,100])=false:=HB1.out.trans (zD z1)
      have k2_:((a0.extract a2.toNat t2.toNat).toList == [111,114])=false:=HB2.out.trans (zD z2)
      clear H4 H5 HB1 HB2 z1 z2 e2
      go_wp2
      go_ret3
      exact ⟨_,rfl,Kd.R_nil _ _ _ _ _,HS8.out.b⟩
end Go.Proofs.YtgfajgkjbckkgaaGreatDoor.PZ
end
section
noncomputable section
namespace Go.Proofs.YtgfajgkjbckkgaaGreatDoor.PZ
open Go.RowKit Go.Proofs.YtgfajgkjbckkgaaGreatDoorW.PrintWords Go.Proofs.YtgfajgkjbckkgaaGreatDoorW.PrintLast Go.Proofs.YtgfajgkjbckkgaaGreatDoorW.PrintMore
attribute [local go_sem] max2_int min2_int max_two min_two max_three min_three max_four min_four   -- for this text's walks alone
end Go.Proofs.YtgfajgkjbckkgaaGreatDoor.PZ
end
end
