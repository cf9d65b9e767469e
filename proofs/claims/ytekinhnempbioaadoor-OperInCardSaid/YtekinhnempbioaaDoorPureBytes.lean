/- Rows of figures as bytes: how they compare.
   Conditions: they are figures. -/
import Derived.Test.YtekinhnempbioaaDoorNum
import Derived.Test.YtekinhnempbioaaDoorCompare
set_option linter.unusedSimpArgs false
set_option linter.unusedVariables false
namespace Go.Proofs.YtekinhnempbioaaDoor.PZ
open Go.RowKit Go.Proofs.YtekinhnempbioaaDoorW.PrintWords Go.Proofs.YtekinhnempbioaaDoorW.PrintLast
theorem u8_lt {x y : Int} (hx : 0 ≤ x ∧ x ≤ 9) (hy : 0 ≤ y ∧ y ≤ 9) : x.toNat.toUInt8 < y.toNat.toUInt8 ↔ x < y := by
  rw [UInt8.lt_iff_toNat_lt]
  simp
  omega
theorem compare_num : ∀ (a b : List Int), Figs a → Figs b → a.length = b.length → Lib.compareBytes (Lib.bytesOf a) (Lib.bytesOf b) = sg (num a - num b)
  | [], [], _, _, _ => rfl
  | [], _ :: _, _, _, h => by simp at h
  | _ :: _, [], _, _, h => by simp at h
  | x :: a, y :: b, ha, hb, hl => by
    have hl' : a.length = b.length := by simpa using hl
    have ih := compare_num a b ha.tail hb.tail hl'
    have na := num_lt ha.tail
    have nb := num_lt hb.tail
    rw [hl'] at na
    have l1 := u8_lt ha.head hb.head
    have l2 := u8_lt hb.head ha.head
    rw [num_cons, num_cons, hl']
    show Lib.compareBytes (x.toNat.toUInt8 :: Lib.bytesOf a) (y.toNat.toUInt8 :: Lib.bytesOf b) = _
    unfold Lib.compareBytes
    by_cases h1 : x < y
    · rw [if_pos (l1.2 h1), sg_ahead na nb (by omega), sg_of_neg (by omega)]
    · rw [if_neg (fun z => h1 (l1.1 z))]
      by_cases h2 : y < x
      · rw [if_pos (l2.2 h2), sg_ahead na nb (by omega), sg_of_pos (by omega)]
      · have : x = y := by omega
        subst this
        rw [if_neg (fun z => h2 (l2.1 z)), ih]
        congr 1
        omega
end Go.Proofs.YtekinhnempbioaaDoor.PZ
