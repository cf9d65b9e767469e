/- Texts of this seat, joined. Conditions: none beyond each statement's own. -/
import Derived.Test.YtgfajgkjbckkgaaGreatDoorPd10
import Derived.Carry
import Derived.Test.YtgfajgkjbckkgaaGreatDoorPd09
import Derived.LaidMore
set_option linter.all false
section
set_option maxRecDepth 100000
namespace Go.Proofs.YtgfajgkjbckkgaaGreatDoor.PZ
open Go.RowKit Go.Proofs.YtgfajgkjbckkgaaGreatDoorW.PrintWords Go.Proofs.YtgfajgkjbckkgaaGreatDoorW.PrintLast
section
def wholeO (t:Option (List Int)):Option (List Int×Bool):=t.bind fun l=>some (l,true)
def oper_Operand.f (l0:List Int)(l1:List Int)(a2 a3:Int)(name:Int):Option (List Int×Bool):=
  if name=110 then (if a2>0 then some ([],false) else wholeO (oper_told_i.f l0 l1 a2 a3))
  else if name=105 then wholeO (oper_told_i.f l0 l1 a2 a3)
  else if name=118 then wholeO (oper_told_v.f l0 l1 a2 a3)
  else if name=119 then wholeO (oper_told_w.f l0 l1 a2 a3)
  else if name=102 then wholeO (oper_told_f.f l0 l1 a2 a3)
  else if name=116 then wholeO (oper_told_t.f l0 l1 a2 a3)
  else if name=99 then wholeO (oper_told_c.f l0 l1 a2 a3)
  else if name=101 then wholeO (oper_told_c.f l0 l1 a2 a3)
  else some ([],false)
def opEs (r:Value):List MapEntry:=[
  { key:=.int .u8 110,val:=.func (.func 101) #[r] #[],born:=0 },{ key:=.int .u8 105,val:=.func (.func 101) #[r] #[],born:=1 },
  { key:=.int .u8 118,val:=.func (.func 102) #[r] #[],born:=2 },{ key:=.int .u8 119,val:=.func (.func 103) #[r] #[],born:=3 },
  { key:=.int .u8 102,val:=.func (.func 104) #[r] #[],born:=4 },{ key:=.int .u8 116,val:=.func (.func 105) #[r] #[],born:=5 },
  { key:=.int .u8 99,val:=.func (.func 106) #[r] #[],born:=6 },{ key:=.int .u8 101,val:=.func (.func 106) #[r] #[],born:=7 }]
def opM (r:Value)(i:Nat):Obj:=.map ((opEs r).take i).toArray i
theorem op_insert (W:World)(g:Nat)(hg:W.heap.size=g)(r:Value)(i:Nat)(k:Int)(x:Value)(h:((opEs r).take (i+1))=(opEs r).take i ++ [{ key:=.int .u8 k,val:=x,born:=i }]) (hf:Instr.findNow (.int .u8) (.int .u8 k) ((opEs r).take i) 0=some none) :
    (Instr.mapUpdate 138 (.map (some g)) (.int .u8 k) x).run Tryz.prog (W.alloc (opM r i)) = .ok () (W.alloc (opM r (i+1))):=by
 unfold opM
 rw [run_insert_int W Tryz.underlying138 Tryz.underlying5 g hg _ i k x (by simpa using hf),h]
 congr 3
 simp
section
variable {P0 P1:Nat→Prop}{A0 A1:Option Addr}{c0 c1:Nat}{l0 l1:List Int}{a2 a3:Int}{w:World}
def opW (w:World)(cs:Array Value):World:=(w.alloc (.cells cs 36)).alloc (.cells cs 136)
theorem opW_size (w:World)(cs:Array Value):(opW w cs).heap.size=w.heap.size+1+1:=by simp [opW]
theorem opW_below (w:World)(cs:Array Value)(o:Obj):Below w.heap.size w ((opW w cs).alloc o):=(((Below.refl _ _).alloc (Nat.le_refl _) _).alloc (by simp) _).alloc (by simp;omega) _
def OpEnd (w:World)(P0 P1:Nat→Prop)(r:List Int)(v:Value)(w':World):Prop:=Kd.V (Kd.int .u8) 5 w' w.heap.size (fun k_=>((P0 k_∨P1 k_)∨w.heap.size≤k_)) v r∧Below w.heap.size w w'
theorem OpEnd.of {W1 w2:World}{Q:Nat→Prop}{r:List Int}{v:Value}(hb:Below w.heap.size w W1)(hQ:∀ k,Q k→(P0 k∨P1 k)∨w.heap.size≤k)(hv:Kd.V (Kd.int .u8) 5 w2 W1.heap.size (fun k_=>Q k_) v r)(hb2:Below W1.heap.size W1 w2):OpEnd w P0 P1 r v w2:=
  ⟨Kd.V_lower (Kd.V_mono hv hQ) hb.size,below_then hb hb.size hb2⟩
def OpPost (w:World)(P0 P1:Nat→Prop)(r:List Int)(ok:Bool)(e:Ending)(w':World):Prop:=∃ v,e = .returned (.tuple #[v,.bool ok])∧OpEnd w P0 P1 r v w'
end
theorem opI0 (w:World)(A0:Option Addr)(n0 c0:Nat)(A1:Option Addr)(n1 c1:Nat)(a2 a3:Int):(Instr.mapUpdate 138 (.map (some (w.heap.size+1+1))) (.int .u8 110) (.func (.func 101) #[.agg #[.slice A0 n0 c0,.slice A1 n1 c1,.int .i64 a2,.int .i64 a3]] #[])).run Tryz.prog (((w.alloc (.cells #[.slice A0 n0 c0,.slice A1 n1 c1,.int .i64 a2,.int .i64 a3] 36)).alloc (.cells #[.slice A0 n0 c0,.slice A1 n1 c1,.int .i64 a2,.int .i64 a3] 136)).alloc (.map #[] 0)) = .ok () (((w.alloc (.cells #[.slice A0 n0 c0,.slice A1 n1 c1,.int .i64 a2,.int .i64 a3] 36)).alloc (.cells #[.slice A0 n0 c0,.slice A1 n1 c1,.int .i64 a2,.int .i64 a3] 136)).alloc (opM (.agg #[.slice A0 n0 c0,.slice A1 n1 c1,.int .i64 a2,.int .i64 a3]) 1)):=op_insert (opW w #[.slice A0 n0 c0,.slice A1 n1 c1,.int .i64 a2,.int .i64 a3]) _ (opW_size w _) (.agg #[.slice A0 n0 c0,.slice A1 n1 c1,.int .i64 a2,.int .i64 a3]) 0 _ _ rfl rfl
theorem opI1 (w:World)(A0:Option Addr)(n0 c0:Nat)(A1:Option Addr)(n1 c1:Nat)(a2 a3:Int):(Instr.mapUpdate 138 (.map (some (w.heap.size+1+1))) (.int .u8 105) (.func (.func 101) #[.agg #[.slice A0 n0 c0,.slice A1 n1 c1,.int .i64 a2,.int .i64 a3]] #[])).run Tryz.prog (((w.alloc (.cells #[.slice A0 n0 c0,.slice A1 n1 c1,.int .i64 a2,.int .i64 a3] 36)).alloc (.cells #[.slice A0 n0 c0,.slice A1 n1 c1,.int .i64 a2,.int .i64 a3] 136)).alloc (opM (.agg #[.slice A0 n0 c0,.slice A1 n1 c1,.int .i64 a2,.int .i64 a3]) 1)) = .ok () (((w.alloc (.cells #[.slice A0 n0 c0,.slice A1 n1 c1,.int .i64 a2,.int .i64 a3] 36)).alloc (.cells #[.slice A0 n0 c0,.slice A1 n1 c1,.int .i64 a2,.int .i64 a3] 136)).alloc (opM (.agg #[.slice A0 n0 c0,.slice A1 n1 c1,.int .i64 a2,.int .i64 a3]) 2)):=op_insert (opW w #[.slice A0 n0 c0,.slice A1 n1 c1,.int .i64 a2,.int .i64 a3]) _ (opW_size w _) (.agg #[.slice A0 n0 c0,.slice A1 n1 c1,.int .i64 a2,.int .i64 a3]) 1 _ _ rfl rfl
theorem opI2 (w:World)(A0:Option Addr)(n0 c0:Nat)(A1:Option Addr)(n1 c1:Nat)(a2 a3:Int):(Instr.mapUpdate 138 (.map (some (w.heap.size+1+1))) (.int .u8 118) (.func (.func 102) #[.agg #[.slice A0 n0 c0,.slice A1 n1 c1,.int .i64 a2,.int .i64 a3]] #[])).run Tryz.prog (((w.alloc (.cells #[.slice A0 n0 c0,.slice A1 n1 c1,.int .i64 a2,.int .i64 a3] 36)).alloc (.cells #[.slice A0 n0 c0,.slice A1 n1 c1,.int .i64 a2,.int .i64 a3] 136)).alloc (opM (.agg #[.slice A0 n0 c0,.slice A1 n1 c1,.int .i64 a2,.int .i64 a3]) 2)) = .ok () (((w.alloc (.cells #[.slice A0 n0 c0,.slice A1 n1 c1,.int .i64 a2,.int .i64 a3] 36)).alloc (.cells #[.slice A0 n0 c0,.slice A1 n1 c1,.int .i64 a2,.int .i64 a3] 136)).alloc (opM (.agg #[.slice A0 n0 c0,.slice A1 n1 c1,.int .i64 a2,.int .i64 a3]) 3)):=op_insert (opW w #[.slice A0 n0 c0,.slice A1 n1 c1,.int .i64 a2,.int .i64 a3]) _ (opW_size w _) (.agg #[.slice A0 n0 c0,.slice A1 n1 c1,.int .i64 a2,.int .i64 a3]) 2 _ _ rfl rfl
theorem opI3 (w:World)(A0:Option Addr)(n0 c0:Nat)(A1:Option Addr)(n1 c1:Nat)(a2 a3:Int):(Instr.mapUpdate 138 (.map (some (w.heap.size+1+1))) (.int .u8 119) (.func (.func 103) #[.agg #[.slice A0 n0 c0,.slice A1 n1 c1,.int .i64 a2,.int .i64 a3]] #[])).run Tryz.prog (((w.alloc (.cells #[.slice A0 n0 c0,.slice A1 n1 c1,.int .i64 a2,.int .i64 a3] 36)).alloc (.cells #[.slice A0 n0 c0,.slice A1 n1 c1,.int .i64 a2,.int .i64 a3] 136)).alloc (opM (.agg #[.slice A0 n0 c0,.slice A1 n1 c1,.int .i64 a2,.int .i64 a3]) 3)) = .ok () (((w.alloc (.cells #[.slice A0 n0 c0,.slice A1 n1 c1,.int .i64 a2,.int .i64 a3] 36)).alloc (.cells #[.slice A0 n0 c0,.slice A1 n1 c1,.int .i64 a2,.int .i64 a3] 136)).alloc (opM (.agg #[.slice A0 n0 c0,.slice A1 n1 c1,.int .i64 a2,.int .i64 a3]) 4)):=op_insert (opW w #[.slice A0 n0 c0,.slice A1 n1 c1,.int .i64 a2,.int .i64 a3]) _ (opW_size w _) (.agg #[.slice A0 n0 c0,.slice A1 n1 c1,.int .i64 a2,.int .i64 a3]) 3 _ _ rfl rfl
theorem opI4 (w:World)(A0:Option Addr)(n0 c0:Nat)(A1:Option Addr)(n1 c1:Nat)(a2 a3:Int):(Instr.mapUpdate 138 (.map (some (w.heap.size+1+1))) (.int .u8 102) (.func (.func 104) #[.agg #[.slice A0 n0 c0,.slice A1 n1 c1,.int .i64 a2,.int .i64 a3]] #[])).run Tryz.prog (((w.alloc (.cells #[.slice A0 n0 c0,.slice A1 n1 c1,.int .i64 a2,.int .i64 a3] 36)).alloc (.cells #[.slice A0 n0 c0,.slice A1 n1 c1,.int .i64 a2,.int .i64 a3] 136)).alloc (opM (.agg #[.slice A0 n0 c0,.slice A1 n1 c1,.int .i64 a2,.int .i64 a3]) 4)) = .ok () (((w.alloc (.cells #[.slice A0 n0 c0,.slice A1 n1 c1,.int .i64 a2,.int .i64 a3] 36)).alloc (.cells #[.slice A0 n0 c0,.slice A1 n1 c1,.int .i64 a2,.int .i64 a3] 136)).alloc (opM (.agg #[.slice A0 n0 c0,.slice A1 n1 c1,.int .i64 a2,.int .i64 a3]) 5)):=op_insert (opW w #[.slice A0 n0 c0,.slice A1 n1 c1,.int .i64 a2,.int .i64 a3]) _ (opW_size w _) (.agg #[.slice A0 n0 c0,.slice A1 n1 c1,.int .i64 a2,.int .i64 a3]) 4 _ _ rfl rfl
theorem opI5 (w:World)(A0:Option Addr)(n0 c0:Nat)(A1:Option Addr)(n1 c1:Nat)(a2 a3:Int):(Instr.mapUpdate 138 (.map (some (w.heap.size+1+1))) (.int .u8 116) (.func (.func 105) #[.agg #[.slice A0 n0 c0,.slice A1 n1 c1,.int .i64 a2,.int .i64 a3]] #[])).run Tryz.prog (((w.alloc (.cells #[.slice A0 n0 c0,.slice A1 n1 c1,.int .i64 a2,.int .i64 a3] 36)).alloc (.cells #[.slice A0 n0 c0,.slice A1 n1 c1,.int .i64 a2,.int .i64 a3] 136)).alloc (opM (.agg #[.slice A0 n0 c0,.slice A1 n1 c1,.int .i64 a2,.int .i64 a3]) 5)) = .ok () (((w.alloc (.cells #[.slice A0 n0 c0,.slice A1 n1 c1,.int .i64 a2,.int .i64 a3] 36)).alloc (.cells #[.slice A0 n0 c0,.slice A1 n1 c1,.int .i64 a2,.int .i64 a3] 136)).alloc (opM (.agg #[.slice A0 n0 c0,.slice A1 n1 c1,.int .i64 a2,.int .i64 a3]) 6)):=op_insert (opW w #[.slice A0 n0 c0,.slice A1 n1 c1,.int .i64 a2,.int .i64 a3]) _ (opW_size w _) (.agg #[.slice A0 n0 c0,.slice A1 n1 c1,.int .i64 a2,.int .i64 a3]) 5 _ _ rfl rfl
theorem opI6 (w:World)(A0:Option Addr)(n0 c0:Nat)(A1:Option Addr)(n1 c1:Nat)(a2 a3:Int):(Instr.mapUpdate 138 (.map (some (w.heap.size+1+1))) (.int .u8 99) (.func (.func 106) #[.agg #[.slice A0 n0 c0,.slice A1 n1 c1,.int .i64 a2,.int .i64 a3]] #[])).run Tryz.prog (((w.alloc (.cells #[.slice A0 n0 c0,.slice A1 n1 c1,.int .i64 a2,.int .i64 a3] 36)).alloc (.cells #[.slice A0 n0 c0,.slice A1 n1 c1,.int .i64 a2,.int .i64 a3] 136)).alloc (opM (.agg #[.slice A0 n0 c0,.slice A1 n1 c1,.int .i64 a2,.int .i64 a3]) 6)) = .ok () (((w.alloc (.cells #[.slice A0 n0 c0,.slice A1 n1 c1,.int .i64 a2,.int .i64 a3] 36)).alloc (.cells #[.slice A0 n0 c0,.slice A1 n1 c1,.int .i64 a2,.int .i64 a3] 136)).alloc (opM (.agg #[.slice A0 n0 c0,.slice A1 n1 c1,.int .i64 a2,.int .i64 a3]) 7)):=op_insert (opW w #[.slice A0 n0 c0,.slice A1 n1 c1,.int .i64 a2,.int .i64 a3]) _ (opW_size w _) (.agg #[.slice A0 n0 c0,.slice A1 n1 c1,.int .i64 a2,.int .i64 a3]) 6 _ _ rfl rfl
theorem opI7 (w:World)(A0:Option Addr)(n0 c0:Nat)(A1:Option Addr)(n1 c1:Nat)(a2 a3:Int):(Instr.mapUpdate 138 (.map (some (w.heap.size+1+1))) (.int .u8 101) (.func (.func 106) #[.agg #[.slice A0 n0 c0,.slice A1 n1 c1,.int .i64 a2,.int .i64 a3]] #[])).run Tryz.prog (((w.alloc (.cells #[.slice A0 n0 c0,.slice A1 n1 c1,.int .i64 a2,.int .i64 a3] 36)).alloc (.cells #[.slice A0 n0 c0,.slice A1 n1 c1,.int .i64 a2,.int .i64 a3] 136)).alloc (opM (.agg #[.slice A0 n0 c0,.slice A1 n1 c1,.int .i64 a2,.int .i64 a3]) 7)) = .ok () (((w.alloc (.cells #[.slice A0 n0 c0,.slice A1 n1 c1,.int .i64 a2,.int .i64 a3] 36)).alloc (.cells #[.slice A0 n0 c0,.slice A1 n1 c1,.int .i64 a2,.int .i64 a3] 136)).alloc (opM (.agg #[.slice A0 n0 c0,.slice A1 n1 c1,.int .i64 a2,.int .i64 a3]) 8)):=op_insert (opW w #[.slice A0 n0 c0,.slice A1 n1 c1,.int .i64 a2,.int .i64 a3]) _ (opW_size w _) (.agg #[.slice A0 n0 c0,.slice A1 n1 c1,.int .i64 a2,.int .i64 a3]) 7 _ _ rfl rfl
theorem opL110 (w:World)(A0:Option Addr)(n0 c0:Nat)(A1:Option Addr)(n1 c1:Nat)(a2 a3:Int):(Instr.lookup 138 (.map (some (w.heap.size+1+1))) (.int .u8 110) true).run Tryz.prog (((w.alloc (.cells #[.slice A0 n0 c0,.slice A1 n1 c1,.int .i64 a2,.int .i64 a3] 36)).alloc (.cells #[.slice A0 n0 c0,.slice A1 n1 c1,.int .i64 a2,.int .i64 a3] 136)).alloc (opM (.agg #[.slice A0 n0 c0,.slice A1 n1 c1,.int .i64 a2,.int .i64 a3]) 8)) = .ok (.tuple #[.func (.func 101) #[.agg #[.slice A0 n0 c0,.slice A1 n1 c1,.int .i64 a2,.int .i64 a3]] #[],.bool true]) (((w.alloc (.cells #[.slice A0 n0 c0,.slice A1 n1 c1,.int .i64 a2,.int .i64 a3] 36)).alloc (.cells #[.slice A0 n0 c0,.slice A1 n1 c1,.int .i64 a2,.int .i64 a3] 136)).alloc (opM (.agg #[.slice A0 n0 c0,.slice A1 n1 c1,.int .i64 a2,.int .i64 a3]) 8)):=run_look_int (opW w #[.slice A0 n0 c0,.slice A1 n1 c1,.int .i64 a2,.int .i64 a3]) Tryz.underlying138 Tryz.underlying5 _ (opW_size w _) _ 8 110 0 (.func (.func 101) #[.agg #[.slice A0 n0 c0,.slice A1 n1 c1,.int .i64 a2,.int .i64 a3]] #[]) true rfl
theorem opL105 (w:World)(A0:Option Addr)(n0 c0:Nat)(A1:Option Addr)(n1 c1:Nat)(a2 a3:Int):(Instr.lookup 138 (.map (some (w.heap.size+1+1))) (.int .u8 105) true).run Tryz.prog (((w.alloc (.cells #[.slice A0 n0 c0,.slice A1 n1 c1,.int .i64 a2,.int .i64 a3] 36)).alloc (.cells #[.slice A0 n0 c0,.slice A1 n1 c1,.int .i64 a2,.int .i64 a3] 136)).alloc (opM (.agg #[.slice A0 n0 c0,.slice A1 n1 c1,.int .i64 a2,.int .i64 a3]) 8)) = .ok (.tuple #[.func (.func 101) #[.agg #[.slice A0 n0 c0,.slice A1 n1 c1,.int .i64 a2,.int .i64 a3]] #[],.bool true]) (((w.alloc (.cells #[.slice A0 n0 c0,.slice A1 n1 c1,.int .i64 a2,.int .i64 a3] 36)).alloc (.cells #[.slice A0 n0 c0,.slice A1 n1 c1,.int .i64 a2,.int .i64 a3] 136)).alloc (opM (.agg #[.slice A0 n0 c0,.slice A1 n1 c1,.int .i64 a2,.int .i64 a3]) 8)):=run_look_int (opW w #[.slice A0 n0 c0,.slice A1 n1 c1,.int .i64 a2,.int .i64 a3]) Tryz.underlying138 Tryz.underlying5 _ (opW_size w _) _ 8 105 1 (.func (.func 101) #[.agg #[.slice A0 n0 c0,.slice A1 n1 c1,.int .i64 a2,.int .i64 a3]] #[]) true rfl
theorem opL118 (w:World)(A0:Option Addr)(n0 c0:Nat)(A1:Option Addr)(n1 c1:Nat)(a2 a3:Int):(Instr.lookup 138 (.map (some (w.heap.size+1+1))) (.int .u8 118) true).run Tryz.prog (((w.alloc (.cells #[.slice A0 n0 c0,.slice A1 n1 c1,.int .i64 a2,.int .i64 a3] 36)).alloc (.cells #[.slice A0 n0 c0,.slice A1 n1 c1,.int .i64 a2,.int .i64 a3] 136)).alloc (opM (.agg #[.slice A0 n0 c0,.slice A1 n1 c1,.int .i64 a2,.int .i64 a3]) 8)) = .ok (.tuple #[.func (.func 102) #[.agg #[.slice A0 n0 c0,.slice A1 n1 c1,.int .i64 a2,.int .i64 a3]] #[],.bool true]) (((w.alloc (.cells #[.slice A0 n0 c0,.slice A1 n1 c1,.int .i64 a2,.int .i64 a3] 36)).alloc (.cells #[.slice A0 n0 c0,.slice A1 n1 c1,.int .i64 a2,.int .i64 a3] 136)).alloc (opM (.agg #[.slice A0 n0 c0,.slice A1 n1 c1,.int .i64 a2,.int .i64 a3]) 8)):=run_look_int (opW w #[.slice A0 n0 c0,.slice A1 n1 c1,.int .i64 a2,.int .i64 a3]) Tryz.underlying138 Tryz.underlying5 _ (opW_size w _) _ 8 118 2 (.func (.func 102) #[.agg #[.slice A0 n0 c0,.slice A1 n1 c1,.int .i64 a2,.int .i64 a3]] #[]) true rfl
theorem opL119 (w:World)(A0:Option Addr)(n0 c0:Nat)(A1:Option Addr)(n1 c1:Nat)(a2 a3:Int):(Instr.lookup 138 (.map (some (w.heap.size+1+1))) (.int .u8 119) true).run Tryz.prog (((w.alloc (.cells #[.slice A0 n0 c0,.slice A1 n1 c1,.int .i64 a2,.int .i64 a3] 36)).alloc (.cells #[.slice A0 n0 c0,.slice A1 n1 c1,.int .i64 a2,.int .i64 a3] 136)).alloc (opM (.agg #[.slice A0 n0 c0,.slice A1 n1 c1,.int .i64 a2,.int .i64 a3]) 8)) = .ok (.tuple #[.func (.func 103) #[.agg #[.slice A0 n0 c0,.slice A1 n1 c1,.int .i64 a2,.int .i64 a3]] #[],.bool true]) (((w.alloc (.cells #[.slice A0 n0 c0,.slice A1 n1 c1,.int .i64 a2,.int .i64 a3] 36)).alloc (.cells #[.slice A0 n0 c0,.slice A1 n1 c1,.int .i64 a2,.int .i64 a3] 136)).alloc (opM (.agg #[.slice A0 n0 c0,.slice A1 n1 c1,.int .i64 a2,.int .i64 a3]) 8)):=run_look_int (opW w #[.slice A0 n0 c0,.slice A1 n1 c1,.int .i64 a2,.int .i64 a3]) Tryz.underlying138 Tryz.underlying5 _ (opW_size w _) _ 8 119 3 (.func (.func 103) #[.agg #[.slice A0 n0 c0,.slice A1 n1 c1,.int .i64 a2,.int .i64 a3]] #[]) true rfl
theorem opL102 (w:World)(A0:Option Addr)(n0 c0:Nat)(A1:Option Addr)(n1 c1:Nat)(a2 a3:Int):(Instr.lookup 138 (.map (some (w.heap.size+1+1))) (.int .u8 102) true).run Tryz.prog (((w.alloc (.cells #[.slice A0 n0 c0,.slice A1 n1 c1,.int .i64 a2,.int .i64 a3] 36)).alloc (.cells #[.slice A0 n0 c0,.slice A1 n1 c1,.int .i64 a2,.int .i64 a3] 136)).alloc (opM (.agg #[.slice A0 n0 c0,.slice A1 n1 c1,.int .i64 a2,.int .i64 a3]) 8)) = .ok (.tuple #[.func (.func 104) #[.agg #[.slice A0 n0 c0,.slice A1 n1 c1,.int .i64 a2,.int .i64 a3]] #[],.bool true]) (((w.alloc (.cells #[.slice A0 n0 c0,.slice A1 n1 c1,.int .i64 a2,.int .i64 a3] 36)).alloc (.cells #[.slice A0 n0 c0,.slice A1 n1 c1,.int .i64 a2,.int .i64 a3] 136)).alloc (opM (.agg #[.slice A0 n0 c0,.slice A1 n1 c1,.int .i64 a2,.int .i64 a3]) 8)):=run_look_int (opW w #[.slice A0 n0 c0,.slice A1 n1 c1,.int .i64 a2,.int .i64 a3]) Tryz.underlying138 Tryz.underlying5 _ (opW_size w _) _ 8 102 4 (.func (.func 104) #[.agg #[.slice A0 n0 c0,.slice A1 n1 c1,.int .i64 a2,.int .i64 a3]] #[]) true rfl
theorem opL116 (w:World)(A0:Option Addr)(n0 c0:Nat)(A1:Option Addr)(n1 c1:Nat)(a2 a3:Int):(Instr.lookup 138 (.map (some (w.heap.size+1+1))) (.int .u8 116) true).run Tryz.prog (((w.alloc (.cells #[.slice A0 n0 c0,.slice A1 n1 c1,.int .i64 a2,.int .i64 a3] 36)).alloc (.cells #[.slice A0 n0 c0,.slice A1 n1 c1,.int .i64 a2,.int .i64 a3] 136)).alloc (opM (.agg #[.slice A0 n0 c0,.slice A1 n1 c1,.int .i64 a2,.int .i64 a3]) 8)) = .ok (.tuple #[.func (.func 105) #[.agg #[.slice A0 n0 c0,.slice A1 n1 c1,.int .i64 a2,.int .i64 a3]] #[],.bool true]) (((w.alloc (.cells #[.slice A0 n0 c0,.slice A1 n1 c1,.int .i64 a2,.int .i64 a3] 36)).alloc (.cells #[.slice A0 n0 c0,.slice A1 n1 c1,.int .i64 a2,.int .i64 a3] 136)).alloc (opM (.agg #[.slice A0 n0 c0,.slice A1 n1 c1,.int .i64 a2,.int .i64 a3]) 8)):=run_look_int (opW w #[.slice A0 n0 c0,.slice A1 n1 c1,.int .i64 a2,.int .i64 a3]) Tryz.underlying138 Tryz.underlying5 _ (opW_size w _) _ 8 116 5 (.func (.func 105) #[.agg #[.slice A0 n0 c0,.slice A1 n1 c1,.int .i64 a2,.int .i64 a3]] #[]) true rfl
theorem opL99 (w:World)(A0:Option Addr)(n0 c0:Nat)(A1:Option Addr)(n1 c1:Nat)(a2 a3:Int):(Instr.lookup 138 (.map (some (w.heap.size+1+1))) (.int .u8 99) true).run Tryz.prog (((w.alloc (.cells #[.slice A0 n0 c0,.slice A1 n1 c1,.int .i64 a2,.int .i64 a3] 36)).alloc (.cells #[.slice A0 n0 c0,.slice A1 n1 c1,.int .i64 a2,.int .i64 a3] 136)).alloc (opM (.agg #[.slice A0 n0 c0,.slice A1 n1 c1,.int .i64 a2,.int .i64 a3]) 8)) = .ok (.tuple #[.func (.func 106) #[.agg #[.slice A0 n0 c0,.slice A1 n1 c1,.int .i64 a2,.int .i64 a3]] #[],.bool true]) (((w.alloc (.cells #[.slice A0 n0 c0,.slice A1 n1 c1,.int .i64 a2,.int .i64 a3] 36)).alloc (.cells #[.slice A0 n0 c0,.slice A1 n1 c1,.int .i64 a2,.int .i64 a3] 136)).alloc (opM (.agg #[.slice A0 n0 c0,.slice A1 n1 c1,.int .i64 a2,.int .i64 a3]) 8)):=run_look_int (opW w #[.slice A0 n0 c0,.slice A1 n1 c1,.int .i64 a2,.int .i64 a3]) Tryz.underlying138 Tryz.underlying5 _ (opW_size w _) _ 8 99 6 (.func (.func 106) #[.agg #[.slice A0 n0 c0,.slice A1 n1 c1,.int .i64 a2,.int .i64 a3]] #[]) true rfl
theorem opL101 (w:World)(A0:Option Addr)(n0 c0:Nat)(A1:Option Addr)(n1 c1:Nat)(a2 a3:Int):(Instr.lookup 138 (.map (some (w.heap.size+1+1))) (.int .u8 101) true).run Tryz.prog (((w.alloc (.cells #[.slice A0 n0 c0,.slice A1 n1 c1,.int .i64 a2,.int .i64 a3] 36)).alloc (.cells #[.slice A0 n0 c0,.slice A1 n1 c1,.int .i64 a2,.int .i64 a3] 136)).alloc (opM (.agg #[.slice A0 n0 c0,.slice A1 n1 c1,.int .i64 a2,.int .i64 a3]) 8)) = .ok (.tuple #[.func (.func 106) #[.agg #[.slice A0 n0 c0,.slice A1 n1 c1,.int .i64 a2,.int .i64 a3]] #[],.bool true]) (((w.alloc (.cells #[.slice A0 n0 c0,.slice A1 n1 c1,.int .i64 a2,.int .i64 a3] 36)).alloc (.cells #[.slice A0 n0 c0,.slice A1 n1 c1,.int .i64 a2,.int .i64 a3] 136)).alloc (opM (.agg #[.slice A0 n0 c0,.slice A1 n1 c1,.int .i64 a2,.int .i64 a3]) 8)):=run_look_int (opW w #[.slice A0 n0 c0,.slice A1 n1 c1,.int .i64 a2,.int .i64 a3]) Tryz.underlying138 Tryz.underlying5 _ (opW_size w _) _ 8 101 7 (.func (.func 106) #[.agg #[.slice A0 n0 c0,.slice A1 n1 c1,.int .i64 a2,.int .i64 a3]] #[]) true rfl
set_option maxHeartbeats 1000000 in
set_option maxRecDepth 100000 in
theorem operand_110 (P0 P1:Nat→Prop)(A0:Option Addr)(c0:Nat)(l0:List Int)(A1:Option Addr)(c1:Nat)(l1:List Int)(a2 a3:Int)(r:List Int)(w:World)(hw:¬ 0<a2)(hs0:Kd.V (Kd.int .u8) 5 w w.heap.size (fun k_=>P0 k_) (.slice A0 l0.length c0) l0)(hs1:Kd.V (Kd.int .u8) 5 w w.heap.size (fun k_=>P1 k_) (.slice A1 l1.length c1) l1)(h:oper_told_i.f l0 l1 a2 a3=some r) :
    Calls Tryz.prog 80 #[.agg #[.slice A0 l0.length c0,.slice A1 l1.length c1,.int .i64 a2,.int .i64 a3],.int .u8 110] w (OpPost w P0 P1 r true):=by
 have hc:=zA (oper_told_i.calls P0 _ _ l0 _ _ l1 a2 a3 r (((w.alloc (.cells #[.slice A0 l0.length c0,.slice A1 l1.length c1,.int .i64 a2,.int .i64 a3] 36)).alloc (.cells #[.slice A0 l0.length c0,.slice A1 l1.length c1,.int .i64 a2,.int .i64 a3] 136)).alloc (opM (.agg #[.slice A0 l0.length c0,.slice A1 l1.length c1,.int .i64 a2,.int .i64 a3]) 8)) (Kd.V_below hs0 (opW_below w _ _)) (Kd.V_reads' (Kd.V_below hs1 (opW_below w _ _))).2.2 (Kd.V_reads' hs1).2.1 h)
 have hb:=zA (opW_below w #[.slice A0 l0.length c0,.slice A1 l1.length c1,.int .i64 a2,.int .i64 a3] (opM (.agg #[.slice A0 l0.length c0,.slice A1 l1.length c1,.int .i64 a2,.int .i64 a3]) 8))
 have hq:Aside0 (∀ k,(fun k_=>(P0 k_∨(((w.alloc (.cells #[.slice A0 l0.length c0,.slice A1 l1.length c1,.int .i64 a2,.int .i64 a3] 36)).alloc (.cells #[.slice A0 l0.length c0,.slice A1 l1.length c1,.int .i64 a2,.int .i64 a3] 136)).alloc (opM (.agg #[.slice A0 l0.length c0,.slice A1 l1.length c1,.int .i64 a2,.int .i64 a3]) 8)).heap.size≤k_)) k→(P0 k∨P1 k)∨w.heap.size≤k):=⟨fun k hk=>by rcases hk with h|h;exact .inl (.inl h);exact .inr (Nat.le_trans hb.out.size h)⟩
 clear hs0 hs1 h
 have hmm:=@run_makeMap Tryz.prog
 have hi0:=opI0 w A0 l0.length c0 A1 l1.length c1 a2 a3
 have hi1:=opI1 w A0 l0.length c0 A1 l1.length c1 a2 a3
 have hi2:=opI2 w A0 l0.length c0 A1 l1.length c1 a2 a3
 have hi3:=opI3 w A0 l0.length c0 A1 l1.length c1 a2 a3
 have hi4:=opI4 w A0 l0.length c0 A1 l1.length c1 a2 a3
 have hi5:=opI5 w A0 l0.length c0 A1 l1.length c1 a2 a3
 have hi6:=opI6 w A0 l0.length c0 A1 l1.length c1 a2 a3
 have hi7:=opI7 w A0 l0.length c0 A1 l1.length c1 a2 a3
 have hl:=opL110 w A0 l0.length c0 A1 l1.length c1 a2 a3
 go_enter Tryz.func80,Tryz.ntmps80
 go_wp2_with (go_at_call 101;refine hc.out.mono ?_;rintro e w2 ⟨v,rfl,ho,hb2⟩;have HO:=zA ho;have HB2:=zA hb2;clear ho hb2)
 go_ret2
 exact ⟨_,rfl,OpEnd.of hb.out hq.out HO.out HB2.out⟩
set_option maxHeartbeats 1000000 in
set_option maxRecDepth 100000 in
theorem operand_105 (P0 P1:Nat→Prop)(A0:Option Addr)(c0:Nat)(l0:List Int)(A1:Option Addr)(c1:Nat)(l1:List Int)(a2 a3:Int)(r:List Int)(w:World)(hs0:Kd.V (Kd.int .u8) 5 w w.heap.size (fun k_=>P0 k_) (.slice A0 l0.length c0) l0)(hs1:Kd.V (Kd.int .u8) 5 w w.heap.size (fun k_=>P1 k_) (.slice A1 l1.length c1) l1)(h:oper_told_i.f l0 l1 a2 a3=some r) :
    Calls Tryz.prog 80 #[.agg #[.slice A0 l0.length c0,.slice A1 l1.length c1,.int .i64 a2,.int .i64 a3],.int .u8 105] w (OpPost w P0 P1 r true):=by
 have hc:=zA (oper_told_i.calls P0 _ _ l0 _ _ l1 a2 a3 r (((w.alloc (.cells #[.slice A0 l0.length c0,.slice A1 l1.length c1,.int .i64 a2,.int .i64 a3] 36)).alloc (.cells #[.slice A0 l0.length c0,.slice A1 l1.length c1,.int .i64 a2,.int .i64 a3] 136)).alloc (opM (.agg #[.slice A0 l0.length c0,.slice A1 l1.length c1,.int .i64 a2,.int .i64 a3]) 8)) (Kd.V_below hs0 (opW_below w _ _)) (Kd.V_reads' (Kd.V_below hs1 (opW_below w _ _))).2.2 (Kd.V_reads' hs1).2.1 h)
 have hb:=zA (opW_below w #[.slice A0 l0.length c0,.slice A1 l1.length c1,.int .i64 a2,.int .i64 a3] (opM (.agg #[.slice A0 l0.length c0,.slice A1 l1.length c1,.int .i64 a2,.int .i64 a3]) 8))
 have hq:Aside0 (∀ k,(fun k_=>(P0 k_∨(((w.alloc (.cells #[.slice A0 l0.length c0,.slice A1 l1.length c1,.int .i64 a2,.int .i64 a3] 36)).alloc (.cells #[.slice A0 l0.length c0,.slice A1 l1.length c1,.int .i64 a2,.int .i64 a3] 136)).alloc (opM (.agg #[.slice A0 l0.length c0,.slice A1 l1.length c1,.int .i64 a2,.int .i64 a3]) 8)).heap.size≤k_)) k→(P0 k∨P1 k)∨w.heap.size≤k):=⟨fun k hk=>by rcases hk with h|h;exact .inl (.inl h);exact .inr (Nat.le_trans hb.out.size h)⟩
 clear hs0 hs1 h
 have hmm:=@run_makeMap Tryz.prog
 have hi0:=opI0 w A0 l0.length c0 A1 l1.length c1 a2 a3
 have hi1:=opI1 w A0 l0.length c0 A1 l1.length c1 a2 a3
 have hi2:=opI2 w A0 l0.length c0 A1 l1.length c1 a2 a3
 have hi3:=opI3 w A0 l0.length c0 A1 l1.length c1 a2 a3
 have hi4:=opI4 w A0 l0.length c0 A1 l1.length c1 a2 a3
 have hi5:=opI5 w A0 l0.length c0 A1 l1.length c1 a2 a3
 have hi6:=opI6 w A0 l0.length c0 A1 l1.length c1 a2 a3
 have hi7:=opI7 w A0 l0.length c0 A1 l1.length c1 a2 a3
 have hl:=opL105 w A0 l0.length c0 A1 l1.length c1 a2 a3
 go_enter Tryz.func80,Tryz.ntmps80
 go_wp2_with (go_at_call 101;refine hc.out.mono ?_;rintro e w2 ⟨v,rfl,ho,hb2⟩;have HO:=zA ho;have HB2:=zA hb2;clear ho hb2)
 go_ret2
 exact ⟨_,rfl,OpEnd.of hb.out hq.out HO.out HB2.out⟩
set_option maxHeartbeats 1000000 in
set_option maxRecDepth 100000 in
theorem operand_118 (P0 P1:Nat→Prop)(A0:Option Addr)(c0:Nat)(l0:List Int)(A1:Option Addr)(c1:Nat)(l1:List Int)(a2 a3:Int)(r:List Int)(w:World)(hG:GL w)(hs0:Kd.V (Kd.int .u8) 5 w w.heap.size (fun k_=>P0 k_) (.slice A0 l0.length c0) l0)(hs1:Kd.V (Kd.int .u8) 5 w w.heap.size (fun k_=>P1 k_) (.slice A1 l1.length c1) l1)(h:oper_told_v.f l0 l1 a2 a3=some r) :
    Calls Tryz.prog 80 #[.agg #[.slice A0 l0.length c0,.slice A1 l1.length c1,.int .i64 a2,.int .i64 a3],.int .u8 118] w (OpPost w P0 P1 r true):=by
 have hc:=zA (oper_told_v.calls  _ _ l0 _ _ l1 a2 a3 r (((w.alloc (.cells #[.slice A0 l0.length c0,.slice A1 l1.length c1,.int .i64 a2,.int .i64 a3] 36)).alloc (.cells #[.slice A0 l0.length c0,.slice A1 l1.length c1,.int .i64 a2,.int .i64 a3] 136)).alloc (opM (.agg #[.slice A0 l0.length c0,.slice A1 l1.length c1,.int .i64 a2,.int .i64 a3]) 8)) (hG.below (opW_below w _ _)) (Kd.V_reads' (Kd.V_below hs0 (opW_below w _ _))).2.2 (Kd.V_reads' hs0).2.1 (Kd.V_reads' (Kd.V_below hs1 (opW_below w _ _))).2.2 (Kd.V_reads' hs1).2.1 h)
 have hb:=zA (opW_below w #[.slice A0 l0.length c0,.slice A1 l1.length c1,.int .i64 a2,.int .i64 a3] (opM (.agg #[.slice A0 l0.length c0,.slice A1 l1.length c1,.int .i64 a2,.int .i64 a3]) 8))
 have hq:Aside0 (∀ k,(fun k_=>((((w.alloc (.cells #[.slice A0 l0.length c0,.slice A1 l1.length c1,.int .i64 a2,.int .i64 a3] 36)).alloc (.cells #[.slice A0 l0.length c0,.slice A1 l1.length c1,.int .i64 a2,.int .i64 a3] 136)).alloc (opM (.agg #[.slice A0 l0.length c0,.slice A1 l1.length c1,.int .i64 a2,.int .i64 a3]) 8)).heap.size≤k_)) k→(P0 k∨P1 k)∨w.heap.size≤k):=⟨fun k hk=>by exact .inr (Nat.le_trans hb.out.size hk)⟩
 clear hs0 hs1 h hG
 have hmm:=@run_makeMap Tryz.prog
 have hi0:=opI0 w A0 l0.length c0 A1 l1.length c1 a2 a3
 have hi1:=opI1 w A0 l0.length c0 A1 l1.length c1 a2 a3
 have hi2:=opI2 w A0 l0.length c0 A1 l1.length c1 a2 a3
 have hi3:=opI3 w A0 l0.length c0 A1 l1.length c1 a2 a3
 have hi4:=opI4 w A0 l0.length c0 A1 l1.length c1 a2 a3
 have hi5:=opI5 w A0 l0.length c0 A1 l1.length c1 a2 a3
 have hi6:=opI6 w A0 l0.length c0 A1 l1.length c1 a2 a3
 have hi7:=opI7 w A0 l0.length c0 A1 l1.length c1 a2 a3
 have hl:=opL118 w A0 l0.length c0 A1 l1.length c1 a2 a3
 go_enter Tryz.func80,Tryz.ntmps80
 go_wp2_with (go_at_call 102;refine hc.out.mono ?_;rintro e w2 ⟨v,rfl,ho,hb2⟩;have HO:=zA ho;have HB2:=zA hb2;clear ho hb2)
 go_ret2
 exact ⟨_,rfl,OpEnd.of hb.out hq.out HO.out HB2.out⟩
set_option maxHeartbeats 1000000 in
set_option maxRecDepth 100000 in
theorem operand_119 (P0 P1:Nat→Prop)(A0:Option Addr)(c0:Nat)(l0:List Int)(A1:Option Addr)(c1:Nat)(l1:List Int)(a2 a3:Int)(r:List Int)(w:World)(hG:GL w)(hs0:Kd.V (Kd.int .u8) 5 w w.heap.size (fun k_=>P0 k_) (.slice A0 l0.length c0) l0)(hs1:Kd.V (Kd.int .u8) 5 w w.heap.size (fun k_=>P1 k_) (.slice A1 l1.length c1) l1)(h:oper_told_w.f l0 l1 a2 a3=some r) :
    Calls Tryz.prog 80 #[.agg #[.slice A0 l0.length c0,.slice A1 l1.length c1,.int .i64 a2,.int .i64 a3],.int .u8 119] w (OpPost w P0 P1 r true):=by
 have hc:=zA (oper_told_w.calls  _ _ l0 _ _ l1 a2 a3 r (((w.alloc (.cells #[.slice A0 l0.length c0,.slice A1 l1.length c1,.int .i64 a2,.int .i64 a3] 36)).alloc (.cells #[.slice A0 l0.length c0,.slice A1 l1.length c1,.int .i64 a2,.int .i64 a3] 136)).alloc (opM (.agg #[.slice A0 l0.length c0,.slice A1 l1.length c1,.int .i64 a2,.int .i64 a3]) 8)) (hG.below (opW_below w _ _)) (Kd.V_reads' (Kd.V_below hs0 (opW_below w _ _))).2.2 (Kd.V_reads' hs0).2.1 (Kd.V_reads' (Kd.V_below hs1 (opW_below w _ _))).2.2 (Kd.V_reads' hs1).2.1 h)
 have hb:=zA (opW_below w #[.slice A0 l0.length c0,.slice A1 l1.length c1,.int .i64 a2,.int .i64 a3] (opM (.agg #[.slice A0 l0.length c0,.slice A1 l1.length c1,.int .i64 a2,.int .i64 a3]) 8))
 have hq:Aside0 (∀ k,(fun k_=>((((w.alloc (.cells #[.slice A0 l0.length c0,.slice A1 l1.length c1,.int .i64 a2,.int .i64 a3] 36)).alloc (.cells #[.slice A0 l0.length c0,.slice A1 l1.length c1,.int .i64 a2,.int .i64 a3] 136)).alloc (opM (.agg #[.slice A0 l0.length c0,.slice A1 l1.length c1,.int .i64 a2,.int .i64 a3]) 8)).heap.size≤k_)) k→(P0 k∨P1 k)∨w.heap.size≤k):=⟨fun k hk=>by exact .inr (Nat.le_trans hb.out.size hk)⟩
 clear hs0 hs1 h hG
 have hmm:=@run_makeMap Tryz.prog
 have hi0:=opI0 w A0 l0.length c0 A1 l1.length c1 a2 a3
 have hi1:=opI1 w A0 l0.length c0 A1 l1.length c1 a2 a3
 have hi2:=opI2 w A0 l0.length c0 A1 l1.length c1 a2 a3
 have hi3:=opI3 w A0 l0.length c0 A1 l1.length c1 a2 a3
 have hi4:=opI4 w A0 l0.length c0 A1 l1.length c1 a2 a3
 have hi5:=opI5 w A0 l0.length c0 A1 l1.length c1 a2 a3
 have hi6:=opI6 w A0 l0.length c0 A1 l1.length c1 a2 a3
 have hi7:=opI7 w A0 l0.length c0 A1 l1.length c1 a2 a3
 have hl:=opL119 w A0 l0.length c0 A1 l1.length c1 a2 a3
 go_enter Tryz.func80,Tryz.ntmps80
 go_wp2_with (go_at_call 103;refine hc.out.mono ?_;rintro e w2 ⟨v,rfl,ho,hb2⟩;have HO:=zA ho;have HB2:=zA hb2;clear ho hb2)
 go_ret2
 exact ⟨_,rfl,OpEnd.of hb.out hq.out HO.out HB2.out⟩
set_option maxHeartbeats 1000000 in
set_option maxRecDepth 100000 in
theorem operand_102 (P0 P1:Nat→Prop)(A0:Option Addr)(c0:Nat)(l0:List Int)(A1:Option Addr)(c1:Nat)(l1:List Int)(a2 a3:Int)(r:List Int)(w:World)(hs0:Kd.V (Kd.int .u8) 5 w w.heap.size (fun k_=>P0 k_) (.slice A0 l0.length c0) l0)(hs1:Kd.V (Kd.int .u8) 5 w w.heap.size (fun k_=>P1 k_) (.slice A1 l1.length c1) l1)(h:oper_told_f.f l0 l1 a2 a3=some r) :
    Calls Tryz.prog 80 #[.agg #[.slice A0 l0.length c0,.slice A1 l1.length c1,.int .i64 a2,.int .i64 a3],.int .u8 102] w (OpPost w P0 P1 r true):=by
 have hc:=zA (oper_told_f.calls  _ _ l0 P1 _ _ l1 a2 a3 r (((w.alloc (.cells #[.slice A0 l0.length c0,.slice A1 l1.length c1,.int .i64 a2,.int .i64 a3] 36)).alloc (.cells #[.slice A0 l0.length c0,.slice A1 l1.length c1,.int .i64 a2,.int .i64 a3] 136)).alloc (opM (.agg #[.slice A0 l0.length c0,.slice A1 l1.length c1,.int .i64 a2,.int .i64 a3]) 8)) (Kd.V_reads' (Kd.V_below hs0 (opW_below w _ _))).2.2 (Kd.V_reads' hs0).2.1 (Kd.V_below hs1 (opW_below w _ _)) h)
 have hb:=zA (opW_below w #[.slice A0 l0.length c0,.slice A1 l1.length c1,.int .i64 a2,.int .i64 a3] (opM (.agg #[.slice A0 l0.length c0,.slice A1 l1.length c1,.int .i64 a2,.int .i64 a3]) 8))
 have hq:Aside0 (∀ k,(fun k_=>(P1 k_∨(((w.alloc (.cells #[.slice A0 l0.length c0,.slice A1 l1.length c1,.int .i64 a2,.int .i64 a3] 36)).alloc (.cells #[.slice A0 l0.length c0,.slice A1 l1.length c1,.int .i64 a2,.int .i64 a3] 136)).alloc (opM (.agg #[.slice A0 l0.length c0,.slice A1 l1.length c1,.int .i64 a2,.int .i64 a3]) 8)).heap.size≤k_)) k→(P0 k∨P1 k)∨w.heap.size≤k):=⟨fun k hk=>by rcases hk with h|h;exact .inl (.inr h);exact .inr (Nat.le_trans hb.out.size h)⟩
 clear hs0 hs1 h
 have hmm:=@run_makeMap Tryz.prog
 have hi0:=opI0 w A0 l0.length c0 A1 l1.length c1 a2 a3
 have hi1:=opI1 w A0 l0.length c0 A1 l1.length c1 a2 a3
 have hi2:=opI2 w A0 l0.length c0 A1 l1.length c1 a2 a3
 have hi3:=opI3 w A0 l0.length c0 A1 l1.length c1 a2 a3
 have hi4:=opI4 w A0 l0.length c0 A1 l1.length c1 a2 a3
 have hi5:=opI5 w A0 l0.length c0 A1 l1.length c1 a2 a3
 have hi6:=opI6 w A0 l0.length c0 A1 l1.length c1 a2 a3
 have hi7:=opI7 w A0 l0.length c0 A1 l1.length c1 a2 a3
 have hl:=opL102 w A0 l0.length c0 A1 l1.length c1 a2 a3
 go_enter Tryz.func80,Tryz.ntmps80
 go_wp2_with (go_at_call 104;refine hc.out.mono ?_;rintro e w2 ⟨v,rfl,ho,hb2⟩;have HO:=zA ho;have HB2:=zA hb2;clear ho hb2)
 go_ret2
 exact ⟨_,rfl,OpEnd.of hb.out hq.out HO.out HB2.out⟩
set_option maxHeartbeats 1000000 in
set_option maxRecDepth 100000 in
theorem operand_116 (P0 P1:Nat→Prop)(A0:Option Addr)(c0:Nat)(l0:List Int)(A1:Option Addr)(c1:Nat)(l1:List Int)(a2 a3:Int)(r:List Int)(w:World)(hs0:Kd.V (Kd.int .u8) 5 w w.heap.size (fun k_=>P0 k_) (.slice A0 l0.length c0) l0)(hs1:Kd.V (Kd.int .u8) 5 w w.heap.size (fun k_=>P1 k_) (.slice A1 l1.length c1) l1)(h:oper_told_t.f l0 l1 a2 a3=some r) :
    Calls Tryz.prog 80 #[.agg #[.slice A0 l0.length c0,.slice A1 l1.length c1,.int .i64 a2,.int .i64 a3],.int .u8 116] w (OpPost w P0 P1 r true):=by
 have hc:=zA (oper_told_t.calls  _ _ l0 P1 _ _ l1 a2 a3 r (((w.alloc (.cells #[.slice A0 l0.length c0,.slice A1 l1.length c1,.int .i64 a2,.int .i64 a3] 36)).alloc (.cells #[.slice A0 l0.length c0,.slice A1 l1.length c1,.int .i64 a2,.int .i64 a3] 136)).alloc (opM (.agg #[.slice A0 l0.length c0,.slice A1 l1.length c1,.int .i64 a2,.int .i64 a3]) 8)) (Kd.V_reads' (Kd.V_below hs0 (opW_below w _ _))).2.2 (Kd.V_reads' hs0).2.1 (Kd.V_below hs1 (opW_below w _ _)) h)
 have hb:=zA (opW_below w #[.slice A0 l0.length c0,.slice A1 l1.length c1,.int .i64 a2,.int .i64 a3] (opM (.agg #[.slice A0 l0.length c0,.slice A1 l1.length c1,.int .i64 a2,.int .i64 a3]) 8))
 have hq:Aside0 (∀ k,(fun k_=>(P1 k_∨(((w.alloc (.cells #[.slice A0 l0.length c0,.slice A1 l1.length c1,.int .i64 a2,.int .i64 a3] 36)).alloc (.cells #[.slice A0 l0.length c0,.slice A1 l1.length c1,.int .i64 a2,.int .i64 a3] 136)).alloc (opM (.agg #[.slice A0 l0.length c0,.slice A1 l1.length c1,.int .i64 a2,.int .i64 a3]) 8)).heap.size≤k_)) k→(P0 k∨P1 k)∨w.heap.size≤k):=⟨fun k hk=>by rcases hk with h|h;exact .inl (.inr h);exact .inr (Nat.le_trans hb.out.size h)⟩
 clear hs0 hs1 h
 have hmm:=@run_makeMap Tryz.prog
 have hi0:=opI0 w A0 l0.length c0 A1 l1.length c1 a2 a3
 have hi1:=opI1 w A0 l0.length c0 A1 l1.length c1 a2 a3
 have hi2:=opI2 w A0 l0.length c0 A1 l1.length c1 a2 a3
 have hi3:=opI3 w A0 l0.length c0 A1 l1.length c1 a2 a3
 have hi4:=opI4 w A0 l0.length c0 A1 l1.length c1 a2 a3
 have hi5:=opI5 w A0 l0.length c0 A1 l1.length c1 a2 a3
 have hi6:=opI6 w A0 l0.length c0 A1 l1.length c1 a2 a3
 have hi7:=opI7 w A0 l0.length c0 A1 l1.length c1 a2 a3
 have hl:=opL116 w A0 l0.length c0 A1 l1.length c1 a2 a3
 go_enter Tryz.func80,Tryz.ntmps80
 go_wp2_with (go_at_call 105;refine hc.out.mono ?_;rintro e w2 ⟨v,rfl,ho,hb2⟩;have HO:=zA ho;have HB2:=zA hb2;clear ho hb2)
 go_ret2
 exact ⟨_,rfl,OpEnd.of hb.out hq.out HO.out HB2.out⟩
set_option maxHeartbeats 1000000 in
set_option maxRecDepth 100000 in
theorem operand_99 (P0 P1:Nat→Prop)(A0:Option Addr)(c0:Nat)(l0:List Int)(A1:Option Addr)(c1:Nat)(l1:List Int)(a2 a3:Int)(r:List Int)(w:World)(hG:GL w)(hs0:Kd.V (Kd.int .u8) 5 w w.heap.size (fun k_=>P0 k_) (.slice A0 l0.length c0) l0)(hs1:Kd.V (Kd.int .u8) 5 w w.heap.size (fun k_=>P1 k_) (.slice A1 l1.length c1) l1)(h:oper_told_c.f l0 l1 a2 a3=some r) :
    Calls Tryz.prog 80 #[.agg #[.slice A0 l0.length c0,.slice A1 l1.length c1,.int .i64 a2,.int .i64 a3],.int .u8 99] w (OpPost w P0 P1 r true):=by
 have hc:=zA (oper_told_c.calls  _ _ l0 _ _ l1 a2 a3 r (((w.alloc (.cells #[.slice A0 l0.length c0,.slice A1 l1.length c1,.int .i64 a2,.int .i64 a3] 36)).alloc (.cells #[.slice A0 l0.length c0,.slice A1 l1.length c1,.int .i64 a2,.int .i64 a3] 136)).alloc (opM (.agg #[.slice A0 l0.length c0,.slice A1 l1.length c1,.int .i64 a2,.int .i64 a3]) 8)) (hG.below (opW_below w _ _)) (Kd.V_reads' (Kd.V_below hs0 (opW_below w _ _))).2.2 (Kd.V_reads' hs0).2.1 (Kd.V_reads' (Kd.V_below hs1 (opW_below w _ _))).2.2 (Kd.V_reads' hs1).2.1 h)
 have hb:=zA (opW_below w #[.slice A0 l0.length c0,.slice A1 l1.length c1,.int .i64 a2,.int .i64 a3] (opM (.agg #[.slice A0 l0.length c0,.slice A1 l1.length c1,.int .i64 a2,.int .i64 a3]) 8))
 have hq:Aside0 (∀ k,(fun k_=>((((w.alloc (.cells #[.slice A0 l0.length c0,.slice A1 l1.length c1,.int .i64 a2,.int .i64 a3] 36)).alloc (.cells #[.slice A0 l0.length c0,.slice A1 l1.length c1,.int .i64 a2,.int .i64 a3] 136)).alloc (opM (.agg #[.slice A0 l0.length c0,.slice A1 l1.length c1,.int .i64 a2,.int .i64 a3]) 8)).heap.size≤k_)) k→(P0 k∨P1 k)∨w.heap.size≤k):=⟨fun k hk=>by exact .inr (Nat.le_trans hb.out.size hk)⟩
 clear hs0 hs1 h hG
 have hmm:=@run_makeMap Tryz.prog
 have hi0:=opI0 w A0 l0.length c0 A1 l1.length c1 a2 a3
 have hi1:=opI1 w A0 l0.length c0 A1 l1.length c1 a2 a3
 have hi2:=opI2 w A0 l0.length c0 A1 l1.length c1 a2 a3
 have hi3:=opI3 w A0 l0.length c0 A1 l1.length c1 a2 a3
 have hi4:=opI4 w A0 l0.length c0 A1 l1.length c1 a2 a3
 have hi5:=opI5 w A0 l0.length c0 A1 l1.length c1 a2 a3
 have hi6:=opI6 w A0 l0.length c0 A1 l1.length c1 a2 a3
 have hi7:=opI7 w A0 l0.length c0 A1 l1.length c1 a2 a3
 have hl:=opL99 w A0 l0.length c0 A1 l1.length c1 a2 a3
 go_enter Tryz.func80,Tryz.ntmps80
 go_wp2_with (go_at_call 106;refine hc.out.mono ?_;rintro e w2 ⟨v,rfl,ho,hb2⟩;have HO:=zA ho;have HB2:=zA hb2;clear ho hb2)
 go_ret2
 exact ⟨_,rfl,OpEnd.of hb.out hq.out HO.out HB2.out⟩
set_option maxHeartbeats 1000000 in
set_option maxRecDepth 100000 in
theorem operand_101 (P0 P1:Nat→Prop)(A0:Option Addr)(c0:Nat)(l0:List Int)(A1:Option Addr)(c1:Nat)(l1:List Int)(a2 a3:Int)(r:List Int)(w:World)(hG:GL w)(hs0:Kd.V (Kd.int .u8) 5 w w.heap.size (fun k_=>P0 k_) (.slice A0 l0.length c0) l0)(hs1:Kd.V (Kd.int .u8) 5 w w.heap.size (fun k_=>P1 k_) (.slice A1 l1.length c1) l1)(h:oper_told_c.f l0 l1 a2 a3=some r) :
    Calls Tryz.prog 80 #[.agg #[.slice A0 l0.length c0,.slice A1 l1.length c1,.int .i64 a2,.int .i64 a3],.int .u8 101] w (OpPost w P0 P1 r true):=by
 have hc:=zA (oper_told_c.calls  _ _ l0 _ _ l1 a2 a3 r (((w.alloc (.cells #[.slice A0 l0.length c0,.slice A1 l1.length c1,.int .i64 a2,.int .i64 a3] 36)).alloc (.cells #[.slice A0 l0.length c0,.slice A1 l1.length c1,.int .i64 a2,.int .i64 a3] 136)).alloc (opM (.agg #[.slice A0 l0.length c0,.slice A1 l1.length c1,.int .i64 a2,.int .i64 a3]) 8)) (hG.below (opW_below w _ _)) (Kd.V_reads' (Kd.V_below hs0 (opW_below w _ _))).2.2 (Kd.V_reads' hs0).2.1 (Kd.V_reads' (Kd.V_below hs1 (opW_below w _ _))).2.2 (Kd.V_reads' hs1).2.1 h)
 have hb:=zA (opW_below w #[.slice A0 l0.length c0,.slice A1 l1.length c1,.int .i64 a2,.int .i64 a3] (opM (.agg #[.slice A0 l0.length c0,.slice A1 l1.length c1,.int .i64 a2,.int .i64 a3]) 8))
 have hq:Aside0 (∀ k,(fun k_=>((((w.alloc (.cells #[.slice A0 l0.length c0,.slice A1 l1.length c1,.int .i64 a2,.int .i64 a3] 36)).alloc (.cells #[.slice A0 l0.length c0,.slice A1 l1.length c1,.int .i64 a2,.int .i64 a3] 136)).alloc (opM (.agg #[.slice A0 l0.length c0,.slice A1 l1.length c1,.int .i64 a2,.int .i64 a3]) 8)).heap.size≤k_)) k→(P0 k∨P1 k)∨w.heap.size≤k):=⟨fun k hk=>by exact .inr (Nat.le_trans hb.out.size hk)⟩
 clear hs0 hs1 h hG
 have hmm:=@run_makeMap Tryz.prog
 have hi0:=opI0 w A0 l0.length c0 A1 l1.length c1 a2 a3
 have hi1:=opI1 w A0 l0.length c0 A1 l1.length c1 a2 a3
 have hi2:=opI2 w A0 l0.length c0 A1 l1.length c1 a2 a3
 have hi3:=opI3 w A0 l0.length c0 A1 l1.length c1 a2 a3
 have hi4:=opI4 w A0 l0.length c0 A1 l1.length c1 a2 a3
 have hi5:=opI5 w A0 l0.length c0 A1 l1.length c1 a2 a3
 have hi6:=opI6 w A0 l0.length c0 A1 l1.length c1 a2 a3
 have hi7:=opI7 w A0 l0.length c0 A1 l1.length c1 a2 a3
 have hl:=opL101 w A0 l0.length c0 A1 l1.length c1 a2 a3
 go_enter Tryz.func80,Tryz.ntmps80
 go_wp2_with (go_at_call 106;refine hc.out.mono ?_;rintro e w2 ⟨v,rfl,ho,hb2⟩;have HO:=zA ho;have HB2:=zA hb2;clear ho hb2)
 go_ret2
 exact ⟨_,rfl,OpEnd.of hb.out hq.out HO.out HB2.out⟩
set_option maxHeartbeats 1000000 in
set_option maxRecDepth 100000 in
theorem operand_part (P0 P1:Nat→Prop)(A0:Option Addr)(c0:Nat)(l0:List Int)(A1:Option Addr)(c1:Nat)(l1:List Int)(a2 a3:Int)(w:World)(hw:0<a2):Calls Tryz.prog 80 #[.agg #[.slice A0 l0.length c0,.slice A1 l1.length c1,.int .i64 a2,.int .i64 a3],.int .u8 110] w (OpPost w P0 P1 [] false):=by
 have hb:=zA (opW_below w #[.slice A0 l0.length c0,.slice A1 l1.length c1,.int .i64 a2,.int .i64 a3] (opM (.agg #[.slice A0 l0.length c0,.slice A1 l1.length c1,.int .i64 a2,.int .i64 a3]) 8))
 have hmm:=@run_makeMap Tryz.prog
 have hi0:=opI0 w A0 l0.length c0 A1 l1.length c1 a2 a3
 have hi1:=opI1 w A0 l0.length c0 A1 l1.length c1 a2 a3
 have hi2:=opI2 w A0 l0.length c0 A1 l1.length c1 a2 a3
 have hi3:=opI3 w A0 l0.length c0 A1 l1.length c1 a2 a3
 have hi4:=opI4 w A0 l0.length c0 A1 l1.length c1 a2 a3
 have hi5:=opI5 w A0 l0.length c0 A1 l1.length c1 a2 a3
 have hi6:=opI6 w A0 l0.length c0 A1 l1.length c1 a2 a3
 have hi7:=opI7 w A0 l0.length c0 A1 l1.length c1 a2 a3
 have hl:=opL110 w A0 l0.length c0 A1 l1.length c1 a2 a3
 go_enter Tryz.func80,Tryz.ntmps80
 go_wp2
 go_ret2
 exact ⟨_,rfl,Kd.V_nil _ _ _ _ _,hb.out⟩
theorem op_findNone (r:Value)(name:Int)(h110:¬ name=110)(h105:¬ name=105)(h118:¬ name=118)(h119:¬ name=119)(h102:¬ name=102)(h116:¬ name=116)(h99:¬ name=99)(h101:¬ name=101):Instr.findNow (.int .u8) (.int .u8 name) (opEs r) 0=some none:=by
 have e:∀ k:Int,¬ name=k→Instr.sameNow (.int .u8) (.int .u8 name) (.int .u8 k)=some false:=fun k hk=>by simp [Instr.sameNow,hk]
 simp only [opEs,Instr.findNow,e _ h110,e _ h105,e _ h118,e _ h119,e _ h102,e _ h116,e _ h99,e _ h101]
set_option maxHeartbeats 1000000 in
set_option maxRecDepth 100000 in
theorem operand_none (P0 P1:Nat→Prop)(A0:Option Addr)(c0:Nat)(l0:List Int)(A1:Option Addr)(c1:Nat)(l1:List Int)(a2 a3:Int)(name:Int)(w:World)(h110:¬ name=110)(h105:¬ name=105)(h118:¬ name=118)(h119:¬ name=119)(h102:¬ name=102)(h116:¬ name=116)(h99:¬ name=99)(h101:¬ name=101):Calls Tryz.prog 80 #[.agg #[.slice A0 l0.length c0,.slice A1 l1.length c1,.int .i64 a2,.int .i64 a3],.int .u8 name] w (OpPost w P0 P1 [] false):=by
 have hb:=zA (opW_below w #[.slice A0 l0.length c0,.slice A1 l1.length c1,.int .i64 a2,.int .i64 a3] (opM (.agg #[.slice A0 l0.length c0,.slice A1 l1.length c1,.int .i64 a2,.int .i64 a3]) 8))
 have hmm:=@run_makeMap Tryz.prog
 have hi0:=opI0 w A0 l0.length c0 A1 l1.length c1 a2 a3
 have hi1:=opI1 w A0 l0.length c0 A1 l1.length c1 a2 a3
 have hi2:=opI2 w A0 l0.length c0 A1 l1.length c1 a2 a3
 have hi3:=opI3 w A0 l0.length c0 A1 l1.length c1 a2 a3
 have hi4:=opI4 w A0 l0.length c0 A1 l1.length c1 a2 a3
 have hi5:=opI5 w A0 l0.length c0 A1 l1.length c1 a2 a3
 have hi6:=opI6 w A0 l0.length c0 A1 l1.length c1 a2 a3
 have hi7:=opI7 w A0 l0.length c0 A1 l1.length c1 a2 a3
 have hl:(Instr.lookup 138 (.map (some (w.heap.size+1+1))) (.int .u8 name) true).run Tryz.prog (((w.alloc (.cells #[.slice A0 l0.length c0,.slice A1 l1.length c1,.int .i64 a2,.int .i64 a3] 36)).alloc (.cells #[.slice A0 l0.length c0,.slice A1 l1.length c1,.int .i64 a2,.int .i64 a3] 136)).alloc (opM (.agg #[.slice A0 l0.length c0,.slice A1 l1.length c1,.int .i64 a2,.int .i64 a3]) 8)) = .ok (.tuple #[.nilFunc,.bool false]) (((w.alloc (.cells #[.slice A0 l0.length c0,.slice A1 l1.length c1,.int .i64 a2,.int .i64 a3] 36)).alloc (.cells #[.slice A0 l0.length c0,.slice A1 l1.length c1,.int .i64 a2,.int .i64 a3] 136)).alloc (opM (.agg #[.slice A0 l0.length c0,.slice A1 l1.length c1,.int .i64 a2,.int .i64 a3]) 8)):=run_look_none (opW w #[.slice A0 l0.length c0,.slice A1 l1.length c1,.int .i64 a2,.int .i64 a3]) Tryz.underlying138 Tryz.underlying5 _ (opW_size w _) _ 8 name .nilFunc true (fun w=>by kernel_rfl) (op_findNone (.agg #[.slice A0 l0.length c0,.slice A1 l1.length c1,.int .i64 a2,.int .i64 a3]) name h110 h105 h118 h119 h102 h116 h99 h101)
 clear h110 h105 h118 h119 h102 h116 h99 h101
 go_enter Tryz.func80,Tryz.ntmps80
 go_wp2
 go_ret2
 exact ⟨_,rfl,Kd.V_nil _ _ _ _ _,hb.out⟩
theorem wholeO_some {t:Option (List Int)}{r1:List Int}{r2:Bool}(h:wholeO t=some (r1,r2)):t=some r1∧r2=true:=by
 unfold wholeO at h
 cases t with
 | none=>cases h
 | some x=>simp at h;exact ⟨by rw [h.1],h.2⟩
theorem oper_Operand.calls (P0_0_:Nat→Prop)(A0_0:Option Addr)(c0_0:Nat)(l0_0:List Int)(P0_1_:Nat→Prop)(A0_1:Option Addr)(c0_1:Nat)(l0_1:List Int)(a0_2 a0_3:Int)(a1:Int)(r1:List Int)(r2:Bool)(w:World)(hG:GL w)(hs0_0:Kd.V (Kd.int .u8) 5 w w.heap.size (fun k_=>P0_0_ k_) (.slice A0_0 l0_0.length c0_0) l0_0)(hs0_1:Kd.V (Kd.int .u8) 5 w w.heap.size (fun k_=>P0_1_ k_) (.slice A0_1 l0_1.length c0_1) l0_1)(h:oper_Operand.f l0_0 l0_1 a0_2 a0_3 a1=some (r1,r2)) :
    Calls Tryz.prog 80 #[.agg #[.slice A0_0 l0_0.length c0_0,.slice A0_1 l0_1.length c0_1,.int .i64 a0_2,.int .i64 a0_3],.int .u8 a1] w fun e w'=>∃ v1_:Value,e = .returned (.tuple #[v1_,.bool r2])∧Kd.V (Kd.int .u8) 5 w' w.heap.size (fun k_=>((P0_0_ k_∨P0_1_ k_)∨w.heap.size≤k_)) v1_ r1∧Below w.heap.size w w':=by
 have H:∀ {r:List Int} {ok:Bool},r=r1→ok=r2→Calls Tryz.prog 80 #[.agg #[.slice A0_0 l0_0.length c0_0,.slice A0_1 l0_1.length c0_1,.int .i64 a0_2,.int .i64 a0_3],.int .u8 a1] w (OpPost w P0_0_ P0_1_ r ok)→Calls Tryz.prog 80 #[.agg #[.slice A0_0 l0_0.length c0_0,.slice A0_1 l0_1.length c0_1,.int .i64 a0_2,.int .i64 a0_3],.int .u8 a1] w fun e w'=>∃ v1_:Value,e = .returned (.tuple #[v1_,.bool r2])∧Kd.V (Kd.int .u8) 5 w' w.heap.size (fun k_=>((P0_0_ k_∨P0_1_ k_)∨w.heap.size≤k_)) v1_ r1∧Below w.heap.size w w':=by
  rintro r ok rfl rfl hc
  exact hc.mono fun e w' he=>he
 unfold oper_Operand.f at h
 by_cases h110:a1=110
 ·rw [if_pos h110] at h
  subst h110
  by_cases hw:a0_2>0
  ·rw [if_pos hw] at h
   simp only [Option.some.injEq,Prod.mk.injEq] at h
   exact H h.1 h.2 (operand_part _ _ _ _ _ _ _ _ _ _ w hw)
  rw [if_neg hw] at h
  obtain ⟨h1,rfl⟩:=wholeO_some h
  exact H rfl rfl (operand_110 _ _ _ _ _ _ _ _ _ _ _ w hw hs0_0 hs0_1 h1)
 rw [if_neg h110] at h
 by_cases h105:a1=105
 ·rw [if_pos h105] at h
  subst h105
  obtain ⟨h1,rfl⟩:=wholeO_some h
  exact H rfl rfl (operand_105 _ _ _ _ _ _ _ _ _ _ _ w hs0_0 hs0_1 h1)
 rw [if_neg h105] at h
 by_cases h118:a1=118
 ·rw [if_pos h118] at h
  subst h118
  obtain ⟨h1,rfl⟩:=wholeO_some h
  exact H rfl rfl (operand_118 _ _ _ _ _ _ _ _ _ _ _ w hG hs0_0 hs0_1 h1)
 rw [if_neg h118] at h
 by_cases h119:a1=119
 ·rw [if_pos h119] at h
  subst h119
  obtain ⟨h1,rfl⟩:=wholeO_some h
  exact H rfl rfl (operand_119 _ _ _ _ _ _ _ _ _ _ _ w hG hs0_0 hs0_1 h1)
 rw [if_neg h119] at h
 by_cases h102:a1=102
 ·rw [if_pos h102] at h
  subst h102
  obtain ⟨h1,rfl⟩:=wholeO_some h
  exact H rfl rfl (operand_102 _ _ _ _ _ _ _ _ _ _ _ w hs0_0 hs0_1 h1)
 rw [if_neg h102] at h
 by_cases h116:a1=116
 ·rw [if_pos h116] at h
  subst h116
  obtain ⟨h1,rfl⟩:=wholeO_some h
  exact H rfl rfl (operand_116 _ _ _ _ _ _ _ _ _ _ _ w hs0_0 hs0_1 h1)
 rw [if_neg h116] at h
 by_cases h99:a1=99
 ·rw [if_pos h99] at h
  subst h99
  obtain ⟨h1,rfl⟩:=wholeO_some h
  exact H rfl rfl (operand_99 _ _ _ _ _ _ _ _ _ _ _ w hG hs0_0 hs0_1 h1)
 rw [if_neg h99] at h
 by_cases h101:a1=101
 ·rw [if_pos h101] at h
  subst h101
  obtain ⟨h1,rfl⟩:=wholeO_some h
  exact H rfl rfl (operand_101 _ _ _ _ _ _ _ _ _ _ _ w hG hs0_0 hs0_1 h1)
 rw [if_neg h101] at h
 simp only [Option.some.injEq,Prod.mk.injEq] at h
 exact H h.1 h.2 (operand_none _ _ _ _ _ _ _ _ _ _ a1 w h110 h105 h118 h119 h102 h116 h99 h101)
end
set_option maxHeartbeats 4000000 in
set_option maxRecDepth 100000 in
theorem eq_rels (A0:Option Addr)(c0:Nat)(l0:List Rl)(A1:Option Addr)(c1:Nat)(l1:List Rl)(w:World)
    (h0:Kd.C k60 w A0 l0.length l0) (hc0:l0.length≤c0) (h1:Kd.C k60 w A1 l1.length l1) (hc1:l1.length≤c1) :
    Calls Tryz.prog 54 #[.slice A0 l0.length c0,.slice A1 l1.length c1,.func (.func 55) #[] #[]] w fun e w'=>e = .returned (.bool (decide (l0=l1)))∧Below w.heap.size w w':=by
 have L0:=zA (fun W (hb:Below w.heap.size w W)=>Kd.C_below h0 hb)
 have L1:=zA (fun W (hb:Below w.heap.size w W)=>Kd.C_below h1 hb)
 have hn:=h0.2.1
 clear h0 h1
 have ef:=enters_of Tryz.func55 (by kernel_rfl) rfl
 by_cases hl:l0.length=l1.length
 rotate_left
 ·have g2:((l0.length:Int) != (l1.length:Int))=true:=by simp;omega
  have g3:((l0.length:Int) == (l1.length:Int))=false:=by simp;omega
  have HN:=zA (show l0≠l1 from fun e=>hl (by rw [e]))
  clear hl
  go_enter Tryz.func54,Tryz.ntmps54
  go_wp2
  go_ret
  exact ⟨by rw [zD HN.out];rfl,Below.refl _ _⟩
 have g1:decide ((l0.length:Int)=(l1.length:Int))=true:=zC (by omega)
 have g2:((l0.length:Int) != (l1.length:Int))=false:=by rw [hl];simp
 have g3:((l0.length:Int) == (l1.length:Int))=true:=by rw [hl];simp
 have HL:=zA hl
 clear hl
 go_enter Tryz.func54,Tryz.ntmps54
 go_wp2
 go_loopg [7,8,9,17] l0.length (fun gg _ _ _ s17 wr=>∃ k:Nat,k≤l0.length∧l0.length - k≤gg∧s17 = .int .i64 k∧Aside0 (Below w.heap.size w wr)∧Aside0 (l0.take k=l1.take k))
 case atStart=>exact ⟨0,by omega,by omega,rfl,⟨Below.refl _ _⟩,⟨rfl⟩⟩
 case round=>
  obtain ⟨k,hk,hg,rfl,HB,HT⟩:=hrel
  by_cases hlt:k<l0.length
  rotate_left
  ·have j1:decide ((k:Int)<(l0.length:Int))=false:=zD (by omega)
   go_wp2
   go_ret
   refine ⟨?_,HB.out⟩
   rw [zC (same_end HL.out (by omega) HT.out)]
   rfl
  have j1:decide ((k:Int)<(l0.length:Int))=true:=zC (by omega)
  obtain ⟨ad,A3,c3,rfl,x0,x1,x2,x3,hx3,HX⟩:=rel_at (L0.out wr HB.out) k hlt
  obtain ⟨ae,B3,d3,rfl,y0,y1,y2,y3,hy3,HY⟩:=rel_at (L1.out wr HB.out) k (by rw [← HL.out];exact hlt)
  generalize hX:l0.getD k ⟨0,0,false,[]⟩=X at *
  generalize hY:l1.getD k ⟨0,0,false,[]⟩=Y at *
  have p0:(0≤(k:Int))=True:=eq_true (by omega)
  have m2:decide (k<l0.length)=true:=zC hlt
  have m3:((k:Int)<(l0.length:Int))=True:=eq_true (by omega)
  have m4:(k<l0.length)=True:=eq_true hlt
  have hlt1:k<l1.length:=by rw [← HL.out];exact hlt
  have n1:decide ((k:Int)<(l1.length:Int))=true:=zC (by omega)
  have n2:decide (k<l1.length)=true:=zC hlt1
  have n3:((k:Int)<(l1.length:Int))=True:=eq_true (by omega)
  have n4:(k<l1.length)=True:=eq_true hlt1
  have HF:=zA (fun W (hb:Below wr.heap.size wr W)=>same_rel X Y A3 c3 B3 d3 W (Kd.C_below HX hb) hx3 (Kd.C_below HY hb) hy3)
  clear HX HY hx3 hy3
  have z0:=fun o=>((below_alloc (Below.refl wr.heap.size wr) o).cell (World.block_lt_of_cell? wr _ y0)).trans y0
  have z1:=fun o=>((below_alloc (Below.refl wr.heap.size wr) o).cell (World.block_lt_of_cell? wr _ y1)).trans y1
  have z2:=fun o=>((below_alloc (Below.refl wr.heap.size wr) o).cell (World.block_lt_of_cell? wr _ y2)).trans y2
  have z3:=fun o=>((below_alloc (Below.refl wr.heap.size wr) o).cell (World.block_lt_of_cell? wr _ y3)).trans y3
  cases hq:decide (X=Y) with
  | false=>
   rw [hq] at HF
   go_wp2_with (go_at_call 55;(refine (HF.out _ (below_alloc (below_alloc (Below.refl _ _) _) _)).mono ?_);rintro e w5 ⟨rfl,hb5⟩;have hB:=below_step (below_alloc (below_alloc HB.out _) _) hb5;clear hb5)
   go_ret
   refine ⟨?_,hB⟩
   have hne:l0≠l1:=same_not (⟨0,0,false,[]⟩:Rl) (k:=k) (by rw [hX,hY];exact of_decide_eq_false hq)
   rw [zD hne]
   rfl
  | true=>
   rw [hq] at HF
   go_wp2_with (go_at_call 55;(refine (HF.out _ (below_alloc (below_alloc (Below.refl _ _) _) _)).mono ?_);rintro e w5 ⟨rfl,hb5⟩;have hB:=below_step (below_alloc (below_alloc HB.out _) _) hb5;clear hb5)
   go_roundg (l0.length - (k+1))
   case measure=>omega
   case rel=>exact ⟨k+1,by omega,by omega,by go_num,⟨hB⟩,⟨same_more (⟨0,0,false,[]⟩:Rl) HL.out hlt HT.out (by rw [hX,hY];exact zB hq)⟩⟩
theorem same_1 (A0:Option Addr)(c0:Nat)(l0:List Rl)(A1:Option Addr)(c1:Nat)(l1:List Rl)(w:World)
    (h0:Kd.C k60 w A0 l0.length l0) (hc0:l0.length≤c0) (h1:Kd.C k60 w A1 l1.length l1) (hc1:l1.length≤c1) :
    Calls Tryz.prog 53 #[.slice A0 l0.length c0,.slice A1 l1.length c1] w fun e w'=>e = .returned (.bool (decide (l0=l1)))∧Below w.heap.size w w':=by
 have HE:=eq_rels A0 c0 l0 A1 c1 l1 w h0 hc0 h1 hc1
 clear h0 h1 hc0 hc1
 go_enter Tryz.func53,Tryz.ntmps53
 go_wp2_with (go_at_call 54;refine HE.mono ?_;rintro e w5 ⟨rfl,hb5⟩)
 go_ret
 exact ⟨rfl,hb5⟩
set_option maxHeartbeats 4000000 in
set_option maxRecDepth 100000 in
theorem eq_conds (A0:Option Addr)(c0:Nat)(l0:List (List Rl))(A1:Option Addr)(c1:Nat)(l1:List (List Rl))(w:World)
    (h0:Kd.C (Kd.slice 60 k60) w A0 l0.length l0) (hc0:l0.length≤c0) (h1:Kd.C (Kd.slice 60 k60) w A1 l1.length l1) (hc1:l1.length≤c1) :
    Calls Tryz.prog 52 #[.slice A0 l0.length c0,.slice A1 l1.length c1,.func (.func 53) #[] #[]] w fun e w'=>e = .returned (.bool (decide (l0=l1)))∧Below w.heap.size w w':=by
 have L0:=zA (fun W (hb:Below w.heap.size w W)=>Kd.C_below h0 hb)
 have L1:=zA (fun W (hb:Below w.heap.size w W)=>Kd.C_below h1 hb)
 have hn:=h0.2.1
 clear h0 h1
 have ef:=enters_of Tryz.func53 (by kernel_rfl) rfl
 by_cases hl:l0.length=l1.length
 rotate_left
 ·have g2:((l0.length:Int) != (l1.length:Int))=true:=by simp;omega
  have g3:((l0.length:Int) == (l1.length:Int))=false:=by simp;omega
  have HN:=zA (show l0≠l1 from fun e=>hl (by rw [e]))
  clear hl
  go_enter Tryz.func52,Tryz.ntmps52
  go_wp2
  go_ret
  exact ⟨by rw [zD HN.out];rfl,Below.refl _ _⟩
 have g1:decide ((l0.length:Int)=(l1.length:Int))=true:=zC (by omega)
 have g2:((l0.length:Int) != (l1.length:Int))=false:=by rw [hl];simp
 have g3:((l0.length:Int) == (l1.length:Int))=true:=by rw [hl];simp
 have HL:=zA hl
 clear hl
 go_enter Tryz.func52,Tryz.ntmps52
 go_wp2
 go_loopg [7,8,9,17] l0.length (fun gg _ _ _ s17 wr=>∃ k:Nat,k≤l0.length∧l0.length - k≤gg∧s17 = .int .i64 k∧Aside0 (Below w.heap.size w wr)∧Aside0 (l0.take k=l1.take k))
 case atStart=>exact ⟨0,by omega,by omega,rfl,⟨Below.refl _ _⟩,⟨rfl⟩⟩
 case round=>
  obtain ⟨k,hk,hg,rfl,HB,HT⟩:=hrel
  by_cases hlt:k<l0.length
  rotate_left
  ·have j1:decide ((k:Int)<(l0.length:Int))=false:=zD (by omega)
   go_wp2
   go_ret
   refine ⟨?_,HB.out⟩
   rw [zC (same_end HL.out (by omega) HT.out)]
   rfl
  have j1:decide ((k:Int)<(l0.length:Int))=true:=zC (by omega)
  obtain ⟨ad,A3,c3,rfl,x0,hx3,HX⟩:=row_at (L0.out wr HB.out) k hlt
  obtain ⟨ae,B3,d3,rfl,y0,hy3,HY⟩:=row_at (L1.out wr HB.out) k (by rw [← HL.out];exact hlt)
  generalize hX:l0.getD k []=X at *
  generalize hY:l1.getD k []=Y at *
  have p0:(0≤(k:Int))=True:=eq_true (by omega)
  have m2:decide (k<l0.length)=true:=zC hlt
  have m3:((k:Int)<(l0.length:Int))=True:=eq_true (by omega)
  have m4:(k<l0.length)=True:=eq_true hlt
  have hlt1:k<l1.length:=by rw [← HL.out];exact hlt
  have n1:decide ((k:Int)<(l1.length:Int))=true:=zC (by omega)
  have n2:decide (k<l1.length)=true:=zC hlt1
  have n3:((k:Int)<(l1.length:Int))=True:=eq_true (by omega)
  have n4:(k<l1.length)=True:=eq_true hlt1
  have HF:=zA (fun W (hb:Below wr.heap.size wr W)=>same_1 A3 c3 X B3 d3 Y W (Kd.C_below HX hb) hx3 (Kd.C_below HY hb) hy3)
  clear HX HY hx3 hy3
  cases hq:decide (X=Y) with
  | false=>
   rw [hq] at HF
   go_wp2_with (go_at_call 53;(refine (HF.out _ (Below.refl _ _)).mono ?_);rintro e w5 ⟨rfl,hb5⟩;have hB:=below_step HB.out hb5;clear hb5)
   go_ret
   refine ⟨?_,hB⟩
   have hne:l0≠l1:=same_not ([]:List Rl) (k:=k) (by rw [hX,hY];exact of_decide_eq_false hq)
   rw [zD hne]
   rfl
  | true=>
   rw [hq] at HF
   go_wp2_with (go_at_call 53;(refine (HF.out _ (Below.refl _ _)).mono ?_);rintro e w5 ⟨rfl,hb5⟩;have hB:=below_step HB.out hb5;clear hb5)
   go_roundg (l0.length - (k+1))
   case measure=>omega
   case rel=>exact ⟨k+1,by omega,by omega,by go_num,⟨hB⟩,⟨same_more ([]:List Rl) HL.out hlt HT.out (by rw [hX,hY];exact zB hq)⟩⟩
def rule_Same.f (l0 l1:List (List Rl)):Option Bool:=some (decide (l0=l1))
set_option maxHeartbeats 2000000 in
set_option maxRecDepth 100000 in
theorem rule_Same.calls (A0:Option Addr)(c0:Nat)(l0:List (List Rl))(A1:Option Addr)(c1:Nat)(l1:List (List Rl))(r:Bool)(w:World)
    (hr0:Kd.C (Kd.slice 60 k60) w A0 l0.length l0) (hc0:l0.length≤c0) (hr1:Kd.C (Kd.slice 60 k60) w A1 l1.length l1) (hc1:l1.length≤c1) (h:rule_Same.f l0 l1=some r) :
    Calls Tryz.prog 33 #[.slice A0 l0.length c0,.slice A1 l1.length c1] w fun e w'=>e = .returned (.bool r)∧Below w.heap.size w w':=by
 obtain rfl:=zE h
 have HE:=eq_conds A0 c0 l0 A1 c1 l1 w hr0 hc0 hr1 hc1
 clear hr0 hr1 hc0 hc1 h
 go_enter Tryz.func33,Tryz.ntmps33
 go_wp2_with (go_at_call 52;refine HE.mono ?_;rintro e w5 ⟨rfl,hb5⟩)
 go_ret
 exact ⟨rfl,hb5⟩
end Go.Proofs.YtgfajgkjbckkgaaGreatDoor.PZ
end
section
set_option maxRecDepth 100000
namespace Go.Proofs.YtgfajgkjbckkgaaGreatDoor.PZ
open Go.ChangeShapes Go.WideShapes Go.ChangeAt Go.RowKit Go.Proofs.YtgfajgkjbckkgaaGreatDoorW.PrintWords
theorem open_t28 {H:Type}{enc:TypeId×Value→H}{W:World}{fuel:Nat}{cs:List Value}{y:DataW H×List MemPlace}(h:DataW.trod enc Tryz.prog W 0 (fun _=>true) true fuel 28 cs=some y)(hz:∀ n ∈ y.1.weights Tryz.prog 28,n≤reachBytes) :
    ∃ (Ax:Option Addr) (x:List S65) (cx:Nat),cs=[.slice Ax x.length cx]∧Kd.C k65 W Ax x.length x∧x.length≤cx∧OkRus x:=by
 obtain ⟨A,l,c,e1,e2,e3,e4⟩:=sl_ru h hz
 exact ⟨A,l,c,e1,e2,e3,e4⟩
theorem gl_of_laid {W : World} (h : laidMetH Tryz.prog [("math/bits.deBruijn32tab", Rows.laid_math_bits_deBruijn32tab), ("math/bits.deBruijn64tab", Rows.laid_math_bits_deBruijn64tab), ("internal/strconv.uint64pow10", Rows.laid_internal_strconv_uint64pow10), ("unicode/utf8.acceptRanges", Rows.laid_unicode_utf8_acceptRanges), ("strconv.ErrRange", Rows.laid_strconv_ErrRange), ("strconv.ErrSyntax", Rows.laid_strconv_ErrSyntax), ("unicode/utf8.first", Rows.laid_unicode_utf8_first)] W) : GL W := by
 rw [MakeChecks.laidMetH_plain _ _ _ (by kernel_rfl)] at h
 obtain ⟨ps,⟨g0,t0,cs0,f0,p0,q0,_,_,_,_,⟨g1,t1,cs1,f1,p1,q1,_,_,_,_,⟨g',t',cs,fuel,p,q,hg',ht',hvar,hd,⟨g3,t3,cs3,f3,p3,q3,_,_,_,_,⟨g4,t4,cs4,f4,p4,q4,hg4,ht4,hv4,hd4,⟨g5,t5,cs5,f5,p5,q5,hg5,ht5,hv5,hd5,_,_⟩,_⟩,_⟩,_⟩,_⟩,_⟩,_,_⟩:=h
 have e:(Rows.laid_internal_strconv_uint64pow10:DataW Unit)=Lib.tabData .u64 Lib.pow10Tab:=by kernel_rfl
 rw [e] at hd
 obtain rfl := zE ((show Tryz.prog.globalNamed "internal/strconv.uint64pow10" = some 1 by kernel_rfl).symm.trans hg')
 obtain rfl:=zE ((show (Tryz.prog.globals[1]?).map (·.type)=some 168 by kernel_rfl).symm.trans ht')
 obtain rfl := zE ((show Tryz.prog.globalNamed "strconv.ErrRange" = some 3 by kernel_rfl).symm.trans hg4)
 obtain rfl:=zE ((show (Tryz.prog.globals[3]?).map (·.type)=some 118 by kernel_rfl).symm.trans ht4)
 obtain rfl := zE ((show Tryz.prog.globalNamed "strconv.ErrSyntax" = some 2 by kernel_rfl).symm.trans hg5)
 obtain rfl:=zE ((show (Tryz.prog.globals[2]?).map (·.type)=some 118 by kernel_rfl).symm.trans ht5)
 obtain ⟨tp4,v4,e4⟩:=trod_error Tryz.underlying118 hd4
 obtain ⟨tp5,v5,e5⟩:=trod_error Tryz.underlying118 hd5
 refine ⟨?_,⟨tp5,v5,?_⟩,⟨tp4,v4,?_⟩⟩
 ·unfold Lib.TabIs
  rw [hvar,← Lib.cells_of_tab Tryz.underlying168 Tryz.underlying141 (by kernel_rfl) (by kernel_rfl) hd]
 · rw [hv5];congr 1;cases cs5;simpa using e5
 rw [hv4];congr 1;cases cs4;simpa using e4
end Go.Proofs.YtgfajgkjbckkgaaGreatDoor.PZ
end
