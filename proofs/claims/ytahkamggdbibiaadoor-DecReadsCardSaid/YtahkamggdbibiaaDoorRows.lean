/-
  NARROWER THAN 'FOR EVERY INPUT', by the rows' own cells (each row's printed sentence says how): DecReads: laid · DecBack: laid · DecOrder: laid · DecFigures: laid · DecNought: laid · DecSides: laid · DecShifts: laid.
  DERIVED. THE GIVEN ROWS OF THIS SEAT. 7 by the template 'for every input the law returns true; each argument reads behind the call as it read before'; 0 by the template 'total and deterministic' (their statements: YtahkamggdbibiaaDoorTotals.lean).
  GIVEN WITH THE SEED: the statements are not yours to turn. If you find one false, say at which input.
  Laid BY PROGRAM, IN A SANDBOX (cutbox-rows.mjs): the forced cells as the released guide's own fill.sh prints them over the translation 9b902b6286524037… (all of the seat's roots in one cut). By AI agents, Wed Nov 11 2026. No macro, syntax, notation, axiom, sorry.
-/
import Derived.Test.YtahkamggdbibiaaDoorChecked
import GoSem.Claim
import GoSem.ClaimJoined
import GoSem.ClaimMapViews
import Derived.JoinedTies
import Derived.KernelRfl
namespace Go.Proofs.YtahkamggdbibiaaDoor
/- THE CELL 'sum', in the pinned program and in every row, IS THE sha256 OF THE DUMP (.gsa) THAT YtahkamggdbibiaaDoorProg.lean LOADS. Nothing in Lean hashes anything: it is a label: what it is worth is what the hold of that sum in a sandbox is worth. -/
noncomputable def Tryd.pinned : Pinned := { name := "ytahkamggdbibiaadoor", sum := "9b902b6286524037b1376a79b30e9ee657b5eb3b334b925231e436207491cec6", checked := Tryd.checked }
namespace Rows
def none {H : Type} : Left H := { results := [], args := [] }

/- WHAT THE LISTED PACKAGE-LEVEL VARIABLES READ AS WHEN THE CALL BEGINS. Each datum BY PROGRAM (the guide's laid-datum.mjs) off the statement by which the dump's own 'gosem.cut.vars' lays the variable. In a bare row this is a premise. The card (YtahkamggdbibiaaDoorCards.lean) ties it to the program's text. -/
def laid_math_bits_deBruijn32tab {H : Type} : DataW H := .agg [.lit (.int .u8 0), .lit (.int .u8 1), .lit (.int .u8 28), .lit (.int .u8 2), .lit (.int .u8 29), .lit (.int .u8 14), .lit (.int .u8 24), .lit (.int .u8 3), .lit (.int .u8 30), .lit (.int .u8 22), .lit (.int .u8 20), .lit (.int .u8 15), .lit (.int .u8 25), .lit (.int .u8 17), .lit (.int .u8 4), .lit (.int .u8 8), .lit (.int .u8 31), .lit (.int .u8 27), .lit (.int .u8 13), .lit (.int .u8 23), .lit (.int .u8 21), .lit (.int .u8 19), .lit (.int .u8 16), .lit (.int .u8 7), .lit (.int .u8 26), .lit (.int .u8 12), .lit (.int .u8 18), .lit (.int .u8 6), .lit (.int .u8 11), .lit (.int .u8 5), .lit (.int .u8 10), .lit (.int .u8 9)]
def laid_math_bits_deBruijn64tab {H : Type} : DataW H := .agg [.lit (.int .u8 0), .lit (.int .u8 1), .lit (.int .u8 56), .lit (.int .u8 2), .lit (.int .u8 57), .lit (.int .u8 49), .lit (.int .u8 28), .lit (.int .u8 3), .lit (.int .u8 61), .lit (.int .u8 58), .lit (.int .u8 42), .lit (.int .u8 50), .lit (.int .u8 38), .lit (.int .u8 29), .lit (.int .u8 17), .lit (.int .u8 4), .lit (.int .u8 62), .lit (.int .u8 47), .lit (.int .u8 59), .lit (.int .u8 36), .lit (.int .u8 45), .lit (.int .u8 43), .lit (.int .u8 51), .lit (.int .u8 22), .lit (.int .u8 53), .lit (.int .u8 39), .lit (.int .u8 33), .lit (.int .u8 30), .lit (.int .u8 24), .lit (.int .u8 18), .lit (.int .u8 12), .lit (.int .u8 5), .lit (.int .u8 63), .lit (.int .u8 55), .lit (.int .u8 48), .lit (.int .u8 27), .lit (.int .u8 60), .lit (.int .u8 41), .lit (.int .u8 37), .lit (.int .u8 16), .lit (.int .u8 46), .lit (.int .u8 35), .lit (.int .u8 44), .lit (.int .u8 21), .lit (.int .u8 52), .lit (.int .u8 32), .lit (.int .u8 23), .lit (.int .u8 11), .lit (.int .u8 54), .lit (.int .u8 26), .lit (.int .u8 40), .lit (.int .u8 15), .lit (.int .u8 34), .lit (.int .u8 20), .lit (.int .u8 31), .lit (.int .u8 10), .lit (.int .u8 25), .lit (.int .u8 14), .lit (.int .u8 19), .lit (.int .u8 9), .lit (.int .u8 13), .lit (.int .u8 8), .lit (.int .u8 7), .lit (.int .u8 6)]
def laid_internal_strconv_uint64pow10 {H : Type} : DataW H := .agg [.lit (.int .u64 1), .lit (.int .u64 10), .lit (.int .u64 100), .lit (.int .u64 1000), .lit (.int .u64 10000), .lit (.int .u64 100000), .lit (.int .u64 1000000), .lit (.int .u64 10000000), .lit (.int .u64 100000000), .lit (.int .u64 1000000000), .lit (.int .u64 10000000000), .lit (.int .u64 100000000000), .lit (.int .u64 1000000000000), .lit (.int .u64 10000000000000), .lit (.int .u64 100000000000000), .lit (.int .u64 1000000000000000), .lit (.int .u64 10000000000000000), .lit (.int .u64 100000000000000000), .lit (.int .u64 1000000000000000000), .lit (.int .u64 10000000000000000000)]

/-- 'exerguelaw05.DecReads': WHATEVER THE INPUT: true; the input reads as it did. -/
def decReadsSpec : ChangeSpec := { name := "decReads", fn := fun _ => fun
  | [d1, d2] => { results := [.lit (.bool true)], args := [d1, d2] }
  | _ => none }
def decReadsRow : OpenClaim := { program := "ytahkamggdbibiaadoor", sum := "9b902b6286524037b1376a79b30e9ee657b5eb3b334b925231e436207491cec6", func := "exergue/exerguelaw05.DecReads", spec := "decReads", inPlace := ["internal/abi.NoEscape"], unfollowed := true, recurses := true, named := ["internal/strconv.uint64pow10", "math/bits.deBruijn32tab", "math/bits.deBruijn64tab"], apart := false, laid := [("math/bits.deBruijn32tab", laid_math_bits_deBruijn32tab), ("math/bits.deBruijn64tab", laid_math_bits_deBruijn64tab), ("internal/strconv.uint64pow10", laid_internal_strconv_uint64pow10)] }
def DecReadsSaid : Prop := decReadsRow.holds Tryd.pinned (OpenSpec.ofChange decReadsSpec)

/-- ITS FALSE NEIGHBOUR: 'it returns false'. Refute it at one input. -/
def decReadsWrong : ChangeSpec := { name := "decReads", fn := fun _ => fun
  | [d1, d2] => { results := [.lit (.bool false)], args := [d1, d2] }
  | _ => none }
def DecReadsWrongFalsely : Prop := decReadsRow.holds Tryd.pinned (OpenSpec.ofChange decReadsWrong)

/-- 'exerguelaw05.DecBack': WHATEVER THE INPUT: true; the input reads as it did. -/
def decBackSpec : ChangeSpec := { name := "decBack", fn := fun _ => fun
  | [d1, d2] => { results := [.lit (.bool true)], args := [d1, d2] }
  | _ => none }
def decBackRow : OpenClaim := { program := "ytahkamggdbibiaadoor", sum := "9b902b6286524037b1376a79b30e9ee657b5eb3b334b925231e436207491cec6", func := "exergue/exerguelaw05.DecBack", spec := "decBack", inPlace := ["internal/abi.NoEscape"], unfollowed := true, recurses := true, named := ["internal/strconv.uint64pow10", "math/bits.deBruijn32tab", "math/bits.deBruijn64tab"], apart := false, laid := [("math/bits.deBruijn32tab", laid_math_bits_deBruijn32tab), ("math/bits.deBruijn64tab", laid_math_bits_deBruijn64tab), ("internal/strconv.uint64pow10", laid_internal_strconv_uint64pow10)] }
def DecBackSaid : Prop := decBackRow.holds Tryd.pinned (OpenSpec.ofChange decBackSpec)

/-- ITS FALSE NEIGHBOUR: 'it returns false'. Refute it at one input. -/
def decBackWrong : ChangeSpec := { name := "decBack", fn := fun _ => fun
  | [d1, d2] => { results := [.lit (.bool false)], args := [d1, d2] }
  | _ => none }
def DecBackWrongFalsely : Prop := decBackRow.holds Tryd.pinned (OpenSpec.ofChange decBackWrong)

/-- 'exerguelaw05.DecOrder': WHATEVER THE INPUT: true; the input reads as it did. -/
def decOrderSpec : ChangeSpec := { name := "decOrder", fn := fun _ => fun
  | [d1, d2, d3] => { results := [.lit (.bool true)], args := [d1, d2, d3] }
  | _ => none }
def decOrderRow : OpenClaim := { program := "ytahkamggdbibiaadoor", sum := "9b902b6286524037b1376a79b30e9ee657b5eb3b334b925231e436207491cec6", func := "exergue/exerguelaw05.DecOrder", spec := "decOrder", inPlace := ["internal/abi.NoEscape"], unfollowed := true, recurses := true, named := ["internal/strconv.uint64pow10", "math/bits.deBruijn32tab", "math/bits.deBruijn64tab"], apart := false, laid := [("math/bits.deBruijn32tab", laid_math_bits_deBruijn32tab), ("math/bits.deBruijn64tab", laid_math_bits_deBruijn64tab), ("internal/strconv.uint64pow10", laid_internal_strconv_uint64pow10)] }
def DecOrderSaid : Prop := decOrderRow.holds Tryd.pinned (OpenSpec.ofChange decOrderSpec)

/-- ITS FALSE NEIGHBOUR: 'it returns false'. Refute it at one input. -/
def decOrderWrong : ChangeSpec := { name := "decOrder", fn := fun _ => fun
  | [d1, d2, d3] => { results := [.lit (.bool false)], args := [d1, d2, d3] }
  | _ => none }
def DecOrderWrongFalsely : Prop := decOrderRow.holds Tryd.pinned (OpenSpec.ofChange decOrderWrong)

/-- 'exerguelaw05.DecFigures': WHATEVER THE INPUT: true; the input reads as it did. -/
def decFiguresSpec : ChangeSpec := { name := "decFigures", fn := fun _ => fun
  | [d1, d2] => { results := [.lit (.bool true)], args := [d1, d2] }
  | _ => none }
def decFiguresRow : OpenClaim := { program := "ytahkamggdbibiaadoor", sum := "9b902b6286524037b1376a79b30e9ee657b5eb3b334b925231e436207491cec6", func := "exergue/exerguelaw05.DecFigures", spec := "decFigures", inPlace := ["internal/abi.NoEscape"], unfollowed := true, recurses := true, named := ["internal/strconv.uint64pow10", "math/bits.deBruijn32tab", "math/bits.deBruijn64tab"], apart := false, laid := [("math/bits.deBruijn32tab", laid_math_bits_deBruijn32tab), ("math/bits.deBruijn64tab", laid_math_bits_deBruijn64tab), ("internal/strconv.uint64pow10", laid_internal_strconv_uint64pow10)] }
def DecFiguresSaid : Prop := decFiguresRow.holds Tryd.pinned (OpenSpec.ofChange decFiguresSpec)

/-- ITS FALSE NEIGHBOUR: 'it returns false'. Refute it at one input. -/
def decFiguresWrong : ChangeSpec := { name := "decFigures", fn := fun _ => fun
  | [d1, d2] => { results := [.lit (.bool false)], args := [d1, d2] }
  | _ => none }
def DecFiguresWrongFalsely : Prop := decFiguresRow.holds Tryd.pinned (OpenSpec.ofChange decFiguresWrong)

/-- 'exerguelaw05.DecNought': WHATEVER THE INPUT: true; the input reads as it did. -/
def decNoughtSpec : ChangeSpec := { name := "decNought", fn := fun _ => fun
  | [d] => { results := [.lit (.bool true)], args := [d] }
  | _ => none }
def decNoughtRow : OpenClaim := { program := "ytahkamggdbibiaadoor", sum := "9b902b6286524037b1376a79b30e9ee657b5eb3b334b925231e436207491cec6", func := "exergue/exerguelaw05.DecNought", spec := "decNought", inPlace := ["internal/abi.NoEscape"], unfollowed := true, recurses := true, named := ["internal/strconv.uint64pow10", "math/bits.deBruijn32tab", "math/bits.deBruijn64tab"], apart := false, laid := [("math/bits.deBruijn32tab", laid_math_bits_deBruijn32tab), ("math/bits.deBruijn64tab", laid_math_bits_deBruijn64tab), ("internal/strconv.uint64pow10", laid_internal_strconv_uint64pow10)] }
def DecNoughtSaid : Prop := decNoughtRow.holds Tryd.pinned (OpenSpec.ofChange decNoughtSpec)

/-- ITS FALSE NEIGHBOUR: 'it returns false'. Refute it at one input. -/
def decNoughtWrong : ChangeSpec := { name := "decNought", fn := fun _ => fun
  | [d] => { results := [.lit (.bool false)], args := [d] }
  | _ => none }
def DecNoughtWrongFalsely : Prop := decNoughtRow.holds Tryd.pinned (OpenSpec.ofChange decNoughtWrong)

/-- 'exerguelaw05.DecSides': WHATEVER THE INPUT: true; the input reads as it did. -/
def decSidesSpec : ChangeSpec := { name := "decSides", fn := fun _ => fun
  | [d1, d2] => { results := [.lit (.bool true)], args := [d1, d2] }
  | _ => none }
def decSidesRow : OpenClaim := { program := "ytahkamggdbibiaadoor", sum := "9b902b6286524037b1376a79b30e9ee657b5eb3b334b925231e436207491cec6", func := "exergue/exerguelaw05.DecSides", spec := "decSides", inPlace := ["internal/abi.NoEscape"], unfollowed := true, recurses := true, named := ["internal/strconv.uint64pow10", "math/bits.deBruijn32tab", "math/bits.deBruijn64tab"], apart := false, laid := [("math/bits.deBruijn32tab", laid_math_bits_deBruijn32tab), ("math/bits.deBruijn64tab", laid_math_bits_deBruijn64tab), ("internal/strconv.uint64pow10", laid_internal_strconv_uint64pow10)] }
def DecSidesSaid : Prop := decSidesRow.holds Tryd.pinned (OpenSpec.ofChange decSidesSpec)

/-- ITS FALSE NEIGHBOUR: 'it returns false'. Refute it at one input. -/
def decSidesWrong : ChangeSpec := { name := "decSides", fn := fun _ => fun
  | [d1, d2] => { results := [.lit (.bool false)], args := [d1, d2] }
  | _ => none }
def DecSidesWrongFalsely : Prop := decSidesRow.holds Tryd.pinned (OpenSpec.ofChange decSidesWrong)

/-- 'exerguelaw05.DecShifts': WHATEVER THE INPUT: true; the input reads as it did. -/
def decShiftsSpec : ChangeSpec := { name := "decShifts", fn := fun _ => fun
  | [d] => { results := [.lit (.bool true)], args := [d] }
  | _ => none }
def decShiftsRow : OpenClaim := { program := "ytahkamggdbibiaadoor", sum := "9b902b6286524037b1376a79b30e9ee657b5eb3b334b925231e436207491cec6", func := "exergue/exerguelaw05.DecShifts", spec := "decShifts", inPlace := ["internal/abi.NoEscape"], unfollowed := true, recurses := true, named := ["internal/strconv.uint64pow10", "math/bits.deBruijn32tab", "math/bits.deBruijn64tab"], apart := false, laid := [("math/bits.deBruijn32tab", laid_math_bits_deBruijn32tab), ("math/bits.deBruijn64tab", laid_math_bits_deBruijn64tab), ("internal/strconv.uint64pow10", laid_internal_strconv_uint64pow10)] }
def DecShiftsSaid : Prop := decShiftsRow.holds Tryd.pinned (OpenSpec.ofChange decShiftsSpec)

/-- ITS FALSE NEIGHBOUR: 'it returns false'. Refute it at one input. -/
def decShiftsWrong : ChangeSpec := { name := "decShifts", fn := fun _ => fun
  | [d] => { results := [.lit (.bool false)], args := [d] }
  | _ => none }
def DecShiftsWrongFalsely : Prop := decShiftsRow.holds Tryd.pinned (OpenSpec.ofChange decShiftsWrong)

/- THE SECOND FORM. 'bulk': how many values and letters a reading holds, each counted each time it is reached (what is shared counts as often as it is met; a slice's spare places count too). A statement '..UptoSaid' is the law's where the arguments, and the package variables that the reading takes, are together of bulk at most 1048576: NARROWER than '..Said'. Prove '..Said' where nothing that the law and all that it calls make is longer than what came in: it says more and counts as full. Else prove '..UptoSaid'. A law counts once. -/
mutual
def uptoBulk {H : Type} : DataW H → Nat
  | .lit (.string bytes) => bytes.length + 1
  | .lit _ => 1
  | .nil => 1
  | .ptr d => uptoBulk d + 1
  | .slice elems spare => uptoBulkAll elems + uptoBulkAll spare + 1
  | .agg parts => uptoBulkAll parts + 1
  | .iface _ d => uptoBulk d + 1
  | .map entries => uptoBulkEntries entries + 1
  | .held _ => 1
def uptoBulkAll {H : Type} : List (DataW H) → Nat
  | [] => 0
  | d :: r => uptoBulk d + uptoBulkAll r
def uptoBulkEntries {H : Type} : List (Lit × DataW H) → Nat
  | [] => 0
  | x :: r => uptoBulkEntry x + uptoBulkEntries r
def uptoBulkEntry {H : Type} : Lit × DataW H → Nat
  | (.string bytes, d) => bytes.length + uptoBulk d + 1
  | (_, d) => uptoBulk d + 1
 end
def uptoSmall : (H : Type) → List (DataW H) → Bool := fun _ ds => decide (uptoBulkAll ds ≤ 1048576)
def OpenSpec.upto (s : _root_.Go.ChangeSpec) : _root_.Go.OpenSpec := { _root_.Go.OpenSpec.ofChange s with cond := some uptoSmall }

/-- 'exerguelaw05.DecReads', WHERE WHAT IT READS IS OF BULK AT MOST 1048576: true; the input reads as it did. -/
def decReadsUptoRow : OpenClaim := { program := "ytahkamggdbibiaadoor", sum := "9b902b6286524037b1376a79b30e9ee657b5eb3b334b925231e436207491cec6", func := "exergue/exerguelaw05.DecReads", spec := "decReads", inPlace := ["internal/abi.NoEscape"], unfollowed := true, recurses := true, named := ["internal/strconv.uint64pow10", "math/bits.deBruijn32tab", "math/bits.deBruijn64tab"], apart := false, laid := [("math/bits.deBruijn32tab", laid_math_bits_deBruijn32tab), ("math/bits.deBruijn64tab", laid_math_bits_deBruijn64tab), ("internal/strconv.uint64pow10", laid_internal_strconv_uint64pow10)], narrowed := true }
def DecReadsUptoSaid : Prop := decReadsUptoRow.holds Tryd.pinned (OpenSpec.upto decReadsSpec)

/-- 'exerguelaw05.DecBack', WHERE WHAT IT READS IS OF BULK AT MOST 1048576: true; the input reads as it did. -/
def decBackUptoRow : OpenClaim := { program := "ytahkamggdbibiaadoor", sum := "9b902b6286524037b1376a79b30e9ee657b5eb3b334b925231e436207491cec6", func := "exergue/exerguelaw05.DecBack", spec := "decBack", inPlace := ["internal/abi.NoEscape"], unfollowed := true, recurses := true, named := ["internal/strconv.uint64pow10", "math/bits.deBruijn32tab", "math/bits.deBruijn64tab"], apart := false, laid := [("math/bits.deBruijn32tab", laid_math_bits_deBruijn32tab), ("math/bits.deBruijn64tab", laid_math_bits_deBruijn64tab), ("internal/strconv.uint64pow10", laid_internal_strconv_uint64pow10)], narrowed := true }
def DecBackUptoSaid : Prop := decBackUptoRow.holds Tryd.pinned (OpenSpec.upto decBackSpec)

/-- 'exerguelaw05.DecOrder', WHERE WHAT IT READS IS OF BULK AT MOST 1048576: true; the input reads as it did. -/
def decOrderUptoRow : OpenClaim := { program := "ytahkamggdbibiaadoor", sum := "9b902b6286524037b1376a79b30e9ee657b5eb3b334b925231e436207491cec6", func := "exergue/exerguelaw05.DecOrder", spec := "decOrder", inPlace := ["internal/abi.NoEscape"], unfollowed := true, recurses := true, named := ["internal/strconv.uint64pow10", "math/bits.deBruijn32tab", "math/bits.deBruijn64tab"], apart := false, laid := [("math/bits.deBruijn32tab", laid_math_bits_deBruijn32tab), ("math/bits.deBruijn64tab", laid_math_bits_deBruijn64tab), ("internal/strconv.uint64pow10", laid_internal_strconv_uint64pow10)], narrowed := true }
def DecOrderUptoSaid : Prop := decOrderUptoRow.holds Tryd.pinned (OpenSpec.upto decOrderSpec)

/-- 'exerguelaw05.DecFigures', WHERE WHAT IT READS IS OF BULK AT MOST 1048576: true; the input reads as it did. -/
def decFiguresUptoRow : OpenClaim := { program := "ytahkamggdbibiaadoor", sum := "9b902b6286524037b1376a79b30e9ee657b5eb3b334b925231e436207491cec6", func := "exergue/exerguelaw05.DecFigures", spec := "decFigures", inPlace := ["internal/abi.NoEscape"], unfollowed := true, recurses := true, named := ["internal/strconv.uint64pow10", "math/bits.deBruijn32tab", "math/bits.deBruijn64tab"], apart := false, laid := [("math/bits.deBruijn32tab", laid_math_bits_deBruijn32tab), ("math/bits.deBruijn64tab", laid_math_bits_deBruijn64tab), ("internal/strconv.uint64pow10", laid_internal_strconv_uint64pow10)], narrowed := true }
def DecFiguresUptoSaid : Prop := decFiguresUptoRow.holds Tryd.pinned (OpenSpec.upto decFiguresSpec)

/-- 'exerguelaw05.DecNought', WHERE WHAT IT READS IS OF BULK AT MOST 1048576: true; the input reads as it did. -/
def decNoughtUptoRow : OpenClaim := { program := "ytahkamggdbibiaadoor", sum := "9b902b6286524037b1376a79b30e9ee657b5eb3b334b925231e436207491cec6", func := "exergue/exerguelaw05.DecNought", spec := "decNought", inPlace := ["internal/abi.NoEscape"], unfollowed := true, recurses := true, named := ["internal/strconv.uint64pow10", "math/bits.deBruijn32tab", "math/bits.deBruijn64tab"], apart := false, laid := [("math/bits.deBruijn32tab", laid_math_bits_deBruijn32tab), ("math/bits.deBruijn64tab", laid_math_bits_deBruijn64tab), ("internal/strconv.uint64pow10", laid_internal_strconv_uint64pow10)], narrowed := true }
def DecNoughtUptoSaid : Prop := decNoughtUptoRow.holds Tryd.pinned (OpenSpec.upto decNoughtSpec)

/-- 'exerguelaw05.DecSides', WHERE WHAT IT READS IS OF BULK AT MOST 1048576: true; the input reads as it did. -/
def decSidesUptoRow : OpenClaim := { program := "ytahkamggdbibiaadoor", sum := "9b902b6286524037b1376a79b30e9ee657b5eb3b334b925231e436207491cec6", func := "exergue/exerguelaw05.DecSides", spec := "decSides", inPlace := ["internal/abi.NoEscape"], unfollowed := true, recurses := true, named := ["internal/strconv.uint64pow10", "math/bits.deBruijn32tab", "math/bits.deBruijn64tab"], apart := false, laid := [("math/bits.deBruijn32tab", laid_math_bits_deBruijn32tab), ("math/bits.deBruijn64tab", laid_math_bits_deBruijn64tab), ("internal/strconv.uint64pow10", laid_internal_strconv_uint64pow10)], narrowed := true }
def DecSidesUptoSaid : Prop := decSidesUptoRow.holds Tryd.pinned (OpenSpec.upto decSidesSpec)

/-- 'exerguelaw05.DecShifts', WHERE WHAT IT READS IS OF BULK AT MOST 1048576: true; the input reads as it did. -/
def decShiftsUptoRow : OpenClaim := { program := "ytahkamggdbibiaadoor", sum := "9b902b6286524037b1376a79b30e9ee657b5eb3b334b925231e436207491cec6", func := "exergue/exerguelaw05.DecShifts", spec := "decShifts", inPlace := ["internal/abi.NoEscape"], unfollowed := true, recurses := true, named := ["internal/strconv.uint64pow10", "math/bits.deBruijn32tab", "math/bits.deBruijn64tab"], apart := false, laid := [("math/bits.deBruijn32tab", laid_math_bits_deBruijn32tab), ("math/bits.deBruijn64tab", laid_math_bits_deBruijn64tab), ("internal/strconv.uint64pow10", laid_internal_strconv_uint64pow10)], narrowed := true }
def DecShiftsUptoSaid : Prop := decShiftsUptoRow.holds Tryd.pinned (OpenSpec.upto decShiftsSpec)

end Rows
end Go.Proofs.YtahkamggdbibiaaDoor
