/-
  NARROWER THAN 'FOR EVERY INPUT', by the rows' own cells (each row's printed sentence says how): ShapeWrites: laid · ShapeReads: laid · ShapeBack: laid · ShapeFew: laid · ShapeValue: laid · ShapeSide: laid · ShapeShort: laid · ShapeRead: laid.
  DERIVED. THE GIVEN ROWS OF THIS SEAT. 8 by the template 'for every input the law returns true; each argument reads behind the call as it read before'; 0 by the template 'total and deterministic' (their statements: YtklebhlanidloaaGreatDoorTotals.lean).
  GIVEN WITH THE SEED: the statements are not yours to turn. If you find one false, say at which input.
  Laid BY PROGRAM, IN A SANDBOX (cutbox-rows.mjs): the forced cells as the released guide's own fill.sh prints them over the translation e9f4291947b9d15f… (all of the seat's roots in one cut). By AI agents, Wed Nov 11 2026. No macro, syntax, notation, axiom, sorry.
-/
import Derived.Test.YtklebhlanidloaaGreatDoorChecked
import GoSem.Claim
import GoSem.ClaimJoined
import GoSem.ClaimMapViews
import Derived.JoinedTies
import Derived.KernelRfl
namespace Go.Proofs.YtklebhlanidloaaGreatDoor
/- THE CELL 'sum', in the pinned program and in every row, IS THE sha256 OF THE DUMP (.gsa) THAT YtklebhlanidloaaGreatDoorProg.lean LOADS. Nothing in Lean hashes anything: it is a label: what it is worth is what the hold of that sum in a sandbox is worth. -/
noncomputable def Tryz.pinned : Pinned := { name := "ytklebhlanidloaagreatdoor", sum := "e9f4291947b9d15fa805e95d8e3df072e5777d788e137d1e5ddbc66514088ebb", checked := Tryz.checked }
namespace Rows
def none {H : Type} : Left H := { results := [], args := [] }

/- WHAT THE LISTED PACKAGE-LEVEL VARIABLES READ AS WHEN THE CALL BEGINS. Each datum BY PROGRAM (the guide's laid-datum.mjs) off the statement by which the dump's own 'gosem.cut.vars' lays the variable. In a bare row this is a premise. The card (YtklebhlanidloaaGreatDoorCards.lean) ties it to the program's text. -/
def laid_math_bits_deBruijn32tab {H : Type} : DataW H := .agg [.lit (.int .u8 0), .lit (.int .u8 1), .lit (.int .u8 28), .lit (.int .u8 2), .lit (.int .u8 29), .lit (.int .u8 14), .lit (.int .u8 24), .lit (.int .u8 3), .lit (.int .u8 30), .lit (.int .u8 22), .lit (.int .u8 20), .lit (.int .u8 15), .lit (.int .u8 25), .lit (.int .u8 17), .lit (.int .u8 4), .lit (.int .u8 8), .lit (.int .u8 31), .lit (.int .u8 27), .lit (.int .u8 13), .lit (.int .u8 23), .lit (.int .u8 21), .lit (.int .u8 19), .lit (.int .u8 16), .lit (.int .u8 7), .lit (.int .u8 26), .lit (.int .u8 12), .lit (.int .u8 18), .lit (.int .u8 6), .lit (.int .u8 11), .lit (.int .u8 5), .lit (.int .u8 10), .lit (.int .u8 9)]
def laid_math_bits_deBruijn64tab {H : Type} : DataW H := .agg [.lit (.int .u8 0), .lit (.int .u8 1), .lit (.int .u8 56), .lit (.int .u8 2), .lit (.int .u8 57), .lit (.int .u8 49), .lit (.int .u8 28), .lit (.int .u8 3), .lit (.int .u8 61), .lit (.int .u8 58), .lit (.int .u8 42), .lit (.int .u8 50), .lit (.int .u8 38), .lit (.int .u8 29), .lit (.int .u8 17), .lit (.int .u8 4), .lit (.int .u8 62), .lit (.int .u8 47), .lit (.int .u8 59), .lit (.int .u8 36), .lit (.int .u8 45), .lit (.int .u8 43), .lit (.int .u8 51), .lit (.int .u8 22), .lit (.int .u8 53), .lit (.int .u8 39), .lit (.int .u8 33), .lit (.int .u8 30), .lit (.int .u8 24), .lit (.int .u8 18), .lit (.int .u8 12), .lit (.int .u8 5), .lit (.int .u8 63), .lit (.int .u8 55), .lit (.int .u8 48), .lit (.int .u8 27), .lit (.int .u8 60), .lit (.int .u8 41), .lit (.int .u8 37), .lit (.int .u8 16), .lit (.int .u8 46), .lit (.int .u8 35), .lit (.int .u8 44), .lit (.int .u8 21), .lit (.int .u8 52), .lit (.int .u8 32), .lit (.int .u8 23), .lit (.int .u8 11), .lit (.int .u8 54), .lit (.int .u8 26), .lit (.int .u8 40), .lit (.int .u8 15), .lit (.int .u8 34), .lit (.int .u8 20), .lit (.int .u8 31), .lit (.int .u8 10), .lit (.int .u8 25), .lit (.int .u8 14), .lit (.int .u8 19), .lit (.int .u8 9), .lit (.int .u8 13), .lit (.int .u8 8), .lit (.int .u8 7), .lit (.int .u8 6)]
def laid_internal_strconv_uint64pow10 {H : Type} : DataW H := .agg [.lit (.int .u64 1), .lit (.int .u64 10), .lit (.int .u64 100), .lit (.int .u64 1000), .lit (.int .u64 10000), .lit (.int .u64 100000), .lit (.int .u64 1000000), .lit (.int .u64 10000000), .lit (.int .u64 100000000), .lit (.int .u64 1000000000), .lit (.int .u64 10000000000), .lit (.int .u64 100000000000), .lit (.int .u64 1000000000000), .lit (.int .u64 10000000000000), .lit (.int .u64 100000000000000), .lit (.int .u64 1000000000000000), .lit (.int .u64 10000000000000000), .lit (.int .u64 100000000000000000), .lit (.int .u64 1000000000000000000), .lit (.int .u64 10000000000000000000)]

/-- 'exerguelaw17.ShapeWrites': WHATEVER THE INPUT: true; the input reads as it did. -/
def shapeWritesSpec : ChangeSpec := { name := "shapeWrites", fn := fun _ => fun
  | [d] => { results := [.lit (.bool true)], args := [d] }
  | _ => none }
def shapeWritesRow : OpenClaim := { program := "ytklebhlanidloaagreatdoor", sum := "e9f4291947b9d15fa805e95d8e3df072e5777d788e137d1e5ddbc66514088ebb", func := "exergue/exerguelaw17.ShapeWrites", spec := "shapeWrites", inPlace := ["internal/bytealg.Compare", "slices.overlaps[byte]"], unfollowed := true, recurses := true, named := ["internal/strconv.uint64pow10", "math/bits.deBruijn32tab", "math/bits.deBruijn64tab"], apart := false, laid := [("math/bits.deBruijn32tab", laid_math_bits_deBruijn32tab), ("math/bits.deBruijn64tab", laid_math_bits_deBruijn64tab), ("internal/strconv.uint64pow10", laid_internal_strconv_uint64pow10)] }
def ShapeWritesSaid : Prop := shapeWritesRow.holds Tryz.pinned (OpenSpec.ofChange shapeWritesSpec)

/-- ITS FALSE NEIGHBOUR: 'it returns false'. Refute it at one input. -/
def shapeWritesWrong : ChangeSpec := { name := "shapeWrites", fn := fun _ => fun
  | [d] => { results := [.lit (.bool false)], args := [d] }
  | _ => none }
def ShapeWritesWrongFalsely : Prop := shapeWritesRow.holds Tryz.pinned (OpenSpec.ofChange shapeWritesWrong)

/-- 'exerguelaw17.ShapeReads': WHATEVER THE INPUT: true; the input reads as it did. -/
def shapeReadsSpec : ChangeSpec := { name := "shapeReads", fn := fun _ => fun
  | [d1, d2, d3] => { results := [.lit (.bool true)], args := [d1, d2, d3] }
  | _ => none }
def shapeReadsRow : OpenClaim := { program := "ytklebhlanidloaagreatdoor", sum := "e9f4291947b9d15fa805e95d8e3df072e5777d788e137d1e5ddbc66514088ebb", func := "exergue/exerguelaw17.ShapeReads", spec := "shapeReads", inPlace := ["internal/bytealg.Compare", "slices.overlaps[byte]"], unfollowed := true, recurses := true, named := ["internal/strconv.uint64pow10", "math/bits.deBruijn32tab", "math/bits.deBruijn64tab"], apart := false, laid := [("math/bits.deBruijn32tab", laid_math_bits_deBruijn32tab), ("math/bits.deBruijn64tab", laid_math_bits_deBruijn64tab), ("internal/strconv.uint64pow10", laid_internal_strconv_uint64pow10)] }
def ShapeReadsSaid : Prop := shapeReadsRow.holds Tryz.pinned (OpenSpec.ofChange shapeReadsSpec)

/-- ITS FALSE NEIGHBOUR: 'it returns false'. Refute it at one input. -/
def shapeReadsWrong : ChangeSpec := { name := "shapeReads", fn := fun _ => fun
  | [d1, d2, d3] => { results := [.lit (.bool false)], args := [d1, d2, d3] }
  | _ => none }
def ShapeReadsWrongFalsely : Prop := shapeReadsRow.holds Tryz.pinned (OpenSpec.ofChange shapeReadsWrong)

/-- 'exerguelaw17.ShapeBack': WHATEVER THE INPUT: true; the input reads as it did. -/
def shapeBackSpec : ChangeSpec := { name := "shapeBack", fn := fun _ => fun
  | [d] => { results := [.lit (.bool true)], args := [d] }
  | _ => none }
def shapeBackRow : OpenClaim := { program := "ytklebhlanidloaagreatdoor", sum := "e9f4291947b9d15fa805e95d8e3df072e5777d788e137d1e5ddbc66514088ebb", func := "exergue/exerguelaw17.ShapeBack", spec := "shapeBack", inPlace := ["internal/bytealg.Compare", "slices.overlaps[byte]"], unfollowed := true, recurses := true, named := ["internal/strconv.uint64pow10", "math/bits.deBruijn32tab", "math/bits.deBruijn64tab"], apart := false, laid := [("math/bits.deBruijn32tab", laid_math_bits_deBruijn32tab), ("math/bits.deBruijn64tab", laid_math_bits_deBruijn64tab), ("internal/strconv.uint64pow10", laid_internal_strconv_uint64pow10)] }
def ShapeBackSaid : Prop := shapeBackRow.holds Tryz.pinned (OpenSpec.ofChange shapeBackSpec)

/-- ITS FALSE NEIGHBOUR: 'it returns false'. Refute it at one input. -/
def shapeBackWrong : ChangeSpec := { name := "shapeBack", fn := fun _ => fun
  | [d] => { results := [.lit (.bool false)], args := [d] }
  | _ => none }
def ShapeBackWrongFalsely : Prop := shapeBackRow.holds Tryz.pinned (OpenSpec.ofChange shapeBackWrong)

/-- 'exerguelaw17.ShapeFew': WHATEVER THE INPUT: true; the input reads as it did. -/
def shapeFewSpec : ChangeSpec := { name := "shapeFew", fn := fun _ => fun
  | [d] => { results := [.lit (.bool true)], args := [d] }
  | _ => none }
def shapeFewRow : OpenClaim := { program := "ytklebhlanidloaagreatdoor", sum := "e9f4291947b9d15fa805e95d8e3df072e5777d788e137d1e5ddbc66514088ebb", func := "exergue/exerguelaw17.ShapeFew", spec := "shapeFew", inPlace := ["internal/bytealg.Compare", "slices.overlaps[byte]"], unfollowed := true, recurses := true, named := ["internal/strconv.uint64pow10", "math/bits.deBruijn32tab", "math/bits.deBruijn64tab"], apart := false, laid := [("math/bits.deBruijn32tab", laid_math_bits_deBruijn32tab), ("math/bits.deBruijn64tab", laid_math_bits_deBruijn64tab), ("internal/strconv.uint64pow10", laid_internal_strconv_uint64pow10)] }
def ShapeFewSaid : Prop := shapeFewRow.holds Tryz.pinned (OpenSpec.ofChange shapeFewSpec)

/-- ITS FALSE NEIGHBOUR: 'it returns false'. Refute it at one input. -/
def shapeFewWrong : ChangeSpec := { name := "shapeFew", fn := fun _ => fun
  | [d] => { results := [.lit (.bool false)], args := [d] }
  | _ => none }
def ShapeFewWrongFalsely : Prop := shapeFewRow.holds Tryz.pinned (OpenSpec.ofChange shapeFewWrong)

/-- 'exerguelaw17.ShapeValue': WHATEVER THE INPUT: true; the input reads as it did. -/
def shapeValueSpec : ChangeSpec := { name := "shapeValue", fn := fun _ => fun
  | [d1, d2, d3] => { results := [.lit (.bool true)], args := [d1, d2, d3] }
  | _ => none }
def shapeValueRow : OpenClaim := { program := "ytklebhlanidloaagreatdoor", sum := "e9f4291947b9d15fa805e95d8e3df072e5777d788e137d1e5ddbc66514088ebb", func := "exergue/exerguelaw17.ShapeValue", spec := "shapeValue", inPlace := ["internal/bytealg.Compare", "slices.overlaps[byte]"], unfollowed := true, recurses := true, named := ["internal/strconv.uint64pow10", "math/bits.deBruijn32tab", "math/bits.deBruijn64tab"], apart := false, laid := [("math/bits.deBruijn32tab", laid_math_bits_deBruijn32tab), ("math/bits.deBruijn64tab", laid_math_bits_deBruijn64tab), ("internal/strconv.uint64pow10", laid_internal_strconv_uint64pow10)] }
def ShapeValueSaid : Prop := shapeValueRow.holds Tryz.pinned (OpenSpec.ofChange shapeValueSpec)

/-- ITS FALSE NEIGHBOUR: 'it returns false'. Refute it at one input. -/
def shapeValueWrong : ChangeSpec := { name := "shapeValue", fn := fun _ => fun
  | [d1, d2, d3] => { results := [.lit (.bool false)], args := [d1, d2, d3] }
  | _ => none }
def ShapeValueWrongFalsely : Prop := shapeValueRow.holds Tryz.pinned (OpenSpec.ofChange shapeValueWrong)

/-- 'exerguelaw17.ShapeSide': WHATEVER THE INPUT: true; the input reads as it did. -/
def shapeSideSpec : ChangeSpec := { name := "shapeSide", fn := fun _ => fun
  | [d] => { results := [.lit (.bool true)], args := [d] }
  | _ => none }
def shapeSideRow : OpenClaim := { program := "ytklebhlanidloaagreatdoor", sum := "e9f4291947b9d15fa805e95d8e3df072e5777d788e137d1e5ddbc66514088ebb", func := "exergue/exerguelaw17.ShapeSide", spec := "shapeSide", inPlace := ["internal/bytealg.Compare", "slices.overlaps[byte]"], unfollowed := true, recurses := true, named := ["internal/strconv.uint64pow10", "math/bits.deBruijn32tab", "math/bits.deBruijn64tab"], apart := false, laid := [("math/bits.deBruijn32tab", laid_math_bits_deBruijn32tab), ("math/bits.deBruijn64tab", laid_math_bits_deBruijn64tab), ("internal/strconv.uint64pow10", laid_internal_strconv_uint64pow10)] }
def ShapeSideSaid : Prop := shapeSideRow.holds Tryz.pinned (OpenSpec.ofChange shapeSideSpec)

/-- ITS FALSE NEIGHBOUR: 'it returns false'. Refute it at one input. -/
def shapeSideWrong : ChangeSpec := { name := "shapeSide", fn := fun _ => fun
  | [d] => { results := [.lit (.bool false)], args := [d] }
  | _ => none }
def ShapeSideWrongFalsely : Prop := shapeSideRow.holds Tryz.pinned (OpenSpec.ofChange shapeSideWrong)

/-- 'exerguelaw17.ShapeShort': WHATEVER THE INPUT: true; the input reads as it did. -/
def shapeShortSpec : ChangeSpec := { name := "shapeShort", fn := fun _ => fun
  | [d1, d2, d3] => { results := [.lit (.bool true)], args := [d1, d2, d3] }
  | _ => none }
def shapeShortRow : OpenClaim := { program := "ytklebhlanidloaagreatdoor", sum := "e9f4291947b9d15fa805e95d8e3df072e5777d788e137d1e5ddbc66514088ebb", func := "exergue/exerguelaw17.ShapeShort", spec := "shapeShort", inPlace := ["internal/bytealg.Compare", "slices.overlaps[byte]"], unfollowed := true, recurses := true, named := ["internal/strconv.uint64pow10", "math/bits.deBruijn32tab", "math/bits.deBruijn64tab"], apart := false, laid := [("math/bits.deBruijn32tab", laid_math_bits_deBruijn32tab), ("math/bits.deBruijn64tab", laid_math_bits_deBruijn64tab), ("internal/strconv.uint64pow10", laid_internal_strconv_uint64pow10)] }
def ShapeShortSaid : Prop := shapeShortRow.holds Tryz.pinned (OpenSpec.ofChange shapeShortSpec)

/-- ITS FALSE NEIGHBOUR: 'it returns false'. Refute it at one input. -/
def shapeShortWrong : ChangeSpec := { name := "shapeShort", fn := fun _ => fun
  | [d1, d2, d3] => { results := [.lit (.bool false)], args := [d1, d2, d3] }
  | _ => none }
def ShapeShortWrongFalsely : Prop := shapeShortRow.holds Tryz.pinned (OpenSpec.ofChange shapeShortWrong)

/-- 'exerguelaw17.ShapeRead': WHATEVER THE INPUT: true; the input reads as it did. -/
def shapeReadSpec : ChangeSpec := { name := "shapeRead", fn := fun _ => fun
  | [d1, d2, d3] => { results := [.lit (.bool true)], args := [d1, d2, d3] }
  | _ => none }
def shapeReadRow : OpenClaim := { program := "ytklebhlanidloaagreatdoor", sum := "e9f4291947b9d15fa805e95d8e3df072e5777d788e137d1e5ddbc66514088ebb", func := "exergue/exerguelaw17.ShapeRead", spec := "shapeRead", inPlace := ["internal/bytealg.Compare", "slices.overlaps[byte]"], unfollowed := true, recurses := true, named := ["internal/strconv.uint64pow10", "math/bits.deBruijn32tab", "math/bits.deBruijn64tab"], apart := false, laid := [("math/bits.deBruijn32tab", laid_math_bits_deBruijn32tab), ("math/bits.deBruijn64tab", laid_math_bits_deBruijn64tab), ("internal/strconv.uint64pow10", laid_internal_strconv_uint64pow10)] }
def ShapeReadSaid : Prop := shapeReadRow.holds Tryz.pinned (OpenSpec.ofChange shapeReadSpec)

/-- ITS FALSE NEIGHBOUR: 'it returns false'. Refute it at one input. -/
def shapeReadWrong : ChangeSpec := { name := "shapeRead", fn := fun _ => fun
  | [d1, d2, d3] => { results := [.lit (.bool false)], args := [d1, d2, d3] }
  | _ => none }
def ShapeReadWrongFalsely : Prop := shapeReadRow.holds Tryz.pinned (OpenSpec.ofChange shapeReadWrong)

/- THE SECOND FORM. 'bulk': how many values and letters a reading holds, each counted each time it is reached (what is shared counts as often as it is met; a slice's spare places count too). A statement '..UptoSaid' is the law's where the arguments, and the package variables that the reading takes, are together of bulk at most 1048576: NARROWER than '..Said'. Prove '..Said' where nothing that the law and all that it calls make is longer than what came in: it says more and counts as full. Else prove '..UptoSaid'. A law counts once. -/
mutual
def uptoBulk {H : Type} : DataW H → Nat
  | .lit (.string bytes) => bytes.length + 1
  | .lit _ => 1
  | .nil => 1
  | .ptr d => uptoBulk d + 1
  | .slice elems spare => uptoBulkAll elems + uptoBulkAll spare + 1
  | .agg parts => uptoBulkAll parts + 1
  | .iface _ d => uptoBulk d + 1
  | .map entries => uptoBulkEntries entries + 1
  | .held _ => 1
def uptoBulkAll {H : Type} : List (DataW H) → Nat
  | [] => 0
  | d :: r => uptoBulk d + uptoBulkAll r
def uptoBulkEntries {H : Type} : List (Lit × DataW H) → Nat
  | [] => 0
  | x :: r => uptoBulkEntry x + uptoBulkEntries r
def uptoBulkEntry {H : Type} : Lit × DataW H → Nat
  | (.string bytes, d) => bytes.length + uptoBulk d + 1
  | (_, d) => uptoBulk d + 1
 end
def uptoSmall : (H : Type) → List (DataW H) → Bool := fun _ ds => decide (uptoBulkAll ds ≤ 1048576)
def OpenSpec.upto (s : _root_.Go.ChangeSpec) : _root_.Go.OpenSpec := { _root_.Go.OpenSpec.ofChange s with cond := some uptoSmall }

/-- 'exerguelaw17.ShapeWrites', WHERE WHAT IT READS IS OF BULK AT MOST 1048576: true; the input reads as it did. -/
def shapeWritesUptoRow : OpenClaim := { program := "ytklebhlanidloaagreatdoor", sum := "e9f4291947b9d15fa805e95d8e3df072e5777d788e137d1e5ddbc66514088ebb", func := "exergue/exerguelaw17.ShapeWrites", spec := "shapeWrites", inPlace := ["internal/bytealg.Compare", "slices.overlaps[byte]"], unfollowed := true, recurses := true, named := ["internal/strconv.uint64pow10", "math/bits.deBruijn32tab", "math/bits.deBruijn64tab"], apart := false, laid := [("math/bits.deBruijn32tab", laid_math_bits_deBruijn32tab), ("math/bits.deBruijn64tab", laid_math_bits_deBruijn64tab), ("internal/strconv.uint64pow10", laid_internal_strconv_uint64pow10)], narrowed := true }
def ShapeWritesUptoSaid : Prop := shapeWritesUptoRow.holds Tryz.pinned (OpenSpec.upto shapeWritesSpec)

/-- 'exerguelaw17.ShapeReads', WHERE WHAT IT READS IS OF BULK AT MOST 1048576: true; the input reads as it did. -/
def shapeReadsUptoRow : OpenClaim := { program := "ytklebhlanidloaagreatdoor", sum := "e9f4291947b9d15fa805e95d8e3df072e5777d788e137d1e5ddbc66514088ebb", func := "exergue/exerguelaw17.ShapeReads", spec := "shapeReads", inPlace := ["internal/bytealg.Compare", "slices.overlaps[byte]"], unfollowed := true, recurses := true, named := ["internal/strconv.uint64pow10", "math/bits.deBruijn32tab", "math/bits.deBruijn64tab"], apart := false, laid := [("math/bits.deBruijn32tab", laid_math_bits_deBruijn32tab), ("math/bits.deBruijn64tab", laid_math_bits_deBruijn64tab), ("internal/strconv.uint64pow10", laid_internal_strconv_uint64pow10)], narrowed := true }
def ShapeReadsUptoSaid : Prop := shapeReadsUptoRow.holds Tryz.pinned (OpenSpec.upto shapeReadsSpec)

/-- 'exerguelaw17.ShapeBack', WHERE WHAT IT READS IS OF BULK AT MOST 1048576: true; the input reads as it did. -/
def shapeBackUptoRow : OpenClaim := { program := "ytklebhlanidloaagreatdoor", sum := "e9f4291947b9d15fa805e95d8e3df072e5777d788e137d1e5ddbc66514088ebb", func := "exergue/exerguelaw17.ShapeBack", spec := "shapeBack", inPlace := ["internal/bytealg.Compare", "slices.overlaps[byte]"], unfollowed := true, recurses := true, named := ["internal/strconv.uint64pow10", "math/bits.deBruijn32tab", "math/bits.deBruijn64tab"], apart := false, laid := [("math/bits.deBruijn32tab", laid_math_bits_deBruijn32tab), ("math/bits.deBruijn64tab", laid_math_bits_deBruijn64tab), ("internal/strconv.uint64pow10", laid_internal_strconv_uint64pow10)], narrowed := true }
def ShapeBackUptoSaid : Prop := shapeBackUptoRow.holds Tryz.pinned (OpenSpec.upto shapeBackSpec)

/-- 'exerguelaw17.ShapeFew', WHERE WHAT IT READS IS OF BULK AT MOST 1048576: true; the input reads as it did. -/
def shapeFewUptoRow : OpenClaim := { program := "ytklebhlanidloaagreatdoor", sum := "e9f4291947b9d15fa805e95d8e3df072e5777d788e137d1e5ddbc66514088ebb", func := "exergue/exerguelaw17.ShapeFew", spec := "shapeFew", inPlace := ["internal/bytealg.Compare", "slices.overlaps[byte]"], unfollowed := true, recurses := true, named := ["internal/strconv.uint64pow10", "math/bits.deBruijn32tab", "math/bits.deBruijn64tab"], apart := false, laid := [("math/bits.deBruijn32tab", laid_math_bits_deBruijn32tab), ("math/bits.deBruijn64tab", laid_math_bits_deBruijn64tab), ("internal/strconv.uint64pow10", laid_internal_strconv_uint64pow10)], narrowed := true }
def ShapeFewUptoSaid : Prop := shapeFewUptoRow.holds Tryz.pinned (OpenSpec.upto shapeFewSpec)

/-- 'exerguelaw17.ShapeValue', WHERE WHAT IT READS IS OF BULK AT MOST 1048576: true; the input reads as it did. -/
def shapeValueUptoRow : OpenClaim := { program := "ytklebhlanidloaagreatdoor", sum := "e9f4291947b9d15fa805e95d8e3df072e5777d788e137d1e5ddbc66514088ebb", func := "exergue/exerguelaw17.ShapeValue", spec := "shapeValue", inPlace := ["internal/bytealg.Compare", "slices.overlaps[byte]"], unfollowed := true, recurses := true, named := ["internal/strconv.uint64pow10", "math/bits.deBruijn32tab", "math/bits.deBruijn64tab"], apart := false, laid := [("math/bits.deBruijn32tab", laid_math_bits_deBruijn32tab), ("math/bits.deBruijn64tab", laid_math_bits_deBruijn64tab), ("internal/strconv.uint64pow10", laid_internal_strconv_uint64pow10)], narrowed := true }
def ShapeValueUptoSaid : Prop := shapeValueUptoRow.holds Tryz.pinned (OpenSpec.upto shapeValueSpec)

/-- 'exerguelaw17.ShapeSide', WHERE WHAT IT READS IS OF BULK AT MOST 1048576: true; the input reads as it did. -/
def shapeSideUptoRow : OpenClaim := { program := "ytklebhlanidloaagreatdoor", sum := "e9f4291947b9d15fa805e95d8e3df072e5777d788e137d1e5ddbc66514088ebb", func := "exergue/exerguelaw17.ShapeSide", spec := "shapeSide", inPlace := ["internal/bytealg.Compare", "slices.overlaps[byte]"], unfollowed := true, recurses := true, named := ["internal/strconv.uint64pow10", "math/bits.deBruijn32tab", "math/bits.deBruijn64tab"], apart := false, laid := [("math/bits.deBruijn32tab", laid_math_bits_deBruijn32tab), ("math/bits.deBruijn64tab", laid_math_bits_deBruijn64tab), ("internal/strconv.uint64pow10", laid_internal_strconv_uint64pow10)], narrowed := true }
def ShapeSideUptoSaid : Prop := shapeSideUptoRow.holds Tryz.pinned (OpenSpec.upto shapeSideSpec)

/-- 'exerguelaw17.ShapeShort', WHERE WHAT IT READS IS OF BULK AT MOST 1048576: true; the input reads as it did. -/
def shapeShortUptoRow : OpenClaim := { program := "ytklebhlanidloaagreatdoor", sum := "e9f4291947b9d15fa805e95d8e3df072e5777d788e137d1e5ddbc66514088ebb", func := "exergue/exerguelaw17.ShapeShort", spec := "shapeShort", inPlace := ["internal/bytealg.Compare", "slices.overlaps[byte]"], unfollowed := true, recurses := true, named := ["internal/strconv.uint64pow10", "math/bits.deBruijn32tab", "math/bits.deBruijn64tab"], apart := false, laid := [("math/bits.deBruijn32tab", laid_math_bits_deBruijn32tab), ("math/bits.deBruijn64tab", laid_math_bits_deBruijn64tab), ("internal/strconv.uint64pow10", laid_internal_strconv_uint64pow10)], narrowed := true }
def ShapeShortUptoSaid : Prop := shapeShortUptoRow.holds Tryz.pinned (OpenSpec.upto shapeShortSpec)

/-- 'exerguelaw17.ShapeRead', WHERE WHAT IT READS IS OF BULK AT MOST 1048576: true; the input reads as it did. -/
def shapeReadUptoRow : OpenClaim := { program := "ytklebhlanidloaagreatdoor", sum := "e9f4291947b9d15fa805e95d8e3df072e5777d788e137d1e5ddbc66514088ebb", func := "exergue/exerguelaw17.ShapeRead", spec := "shapeRead", inPlace := ["internal/bytealg.Compare", "slices.overlaps[byte]"], unfollowed := true, recurses := true, named := ["internal/strconv.uint64pow10", "math/bits.deBruijn32tab", "math/bits.deBruijn64tab"], apart := false, laid := [("math/bits.deBruijn32tab", laid_math_bits_deBruijn32tab), ("math/bits.deBruijn64tab", laid_math_bits_deBruijn64tab), ("internal/strconv.uint64pow10", laid_internal_strconv_uint64pow10)], narrowed := true }
def ShapeReadUptoSaid : Prop := shapeReadUptoRow.holds Tryz.pinned (OpenSpec.upto shapeReadSpec)

end Rows
end Go.Proofs.YtklebhlanidloaaGreatDoor
