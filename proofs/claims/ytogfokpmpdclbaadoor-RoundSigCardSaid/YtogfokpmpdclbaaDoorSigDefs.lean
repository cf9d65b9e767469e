-- made by wip/xprint.py (a program of this session over the kit's print.py). Not trusted: Lean checks it.
import Derived.Test.YtogfokpmpdclbaaDoorPZx0
import Derived.Test.YtogfokpmpdclbaaDoorPZx10
import Derived.Test.YtogfokpmpdclbaaDoorPZx11
import Derived.Test.YtogfokpmpdclbaaDoorGl
import Derived.Test.YtogfokpmpdclbaaDoorShown06
namespace Go.Proofs.YtogfokpmpdclbaaDoor.PZ
open Go.RowKit Go.Proofs.YtogfokpmpdclbaaDoorW.PrintWords Go.Proofs.YtogfokpmpdclbaaDoorW.PrintLast Go.Proofs.YtogfokpmpdclbaaDoorW.PrintMore
attribute [local go_sem] max2_int min2_int max_two min_two max_three min_three max_four min_four   -- for this text's walks alone
set_option linter.unusedVariables false
set_option linter.unusedSimpArgs false

/-! ### exerguelaw06_RoundSig: function 7 -/
def exerguelaw06_RoundSig.j0 : Nat → Int → Bool → Int → Bool → Bool → List Int → Int → Option (Bool)
  | 0, _, _, _, _, _, _, _ => none
  | k + 1, x2, x7, x8, x25, x279000, x279001, x279002 => if x25 = true then (some x7) else ((round_Sig.f k x279000 x279001 x279002 x8 x2).bind fun bt282 => ((exergueref05_Mag.f x279000 x279001 x279002).bind fun t289 => ((round_To.f k x279000 x279001 x279002 (wrap64 ((wrap64 (t289 - x8)) + 1)) x2).bind fun bt290 => (if x7 = true then (if bt282.2.2.2 = 0 then (if bt290.2.2.2 = 0 then (if (bt282.2.1.length : Int) ≤ x8 then (if (x279001.length : Int) > x8 then (if (x279001.length : Int) = 0 then (some true) else ((exergueref05_Same.f k bt282.1 bt282.2.1 bt282.2.2.1 bt290.1 bt290.2.1 bt290.2.2.1).bind fun t297 => (some t297))) else ((exergueref05_Same.f k bt282.1 bt282.2.1 bt282.2.2.1 x279000 x279001 x279002).bind fun t298 => (if t298 = true then (if (x279001.length : Int) = 0 then (some true) else ((exergueref05_Same.f k bt282.1 bt282.2.1 bt282.2.2.1 bt290.1 bt290.2.1 bt290.2.2.1).bind fun t299 => (some t299))) else (none)))) else (none)) else (none)) else (none)) else (none)))))
def exerguelaw06_RoundSig.f (k : Nat) (a0_0 : Bool) (l0_1 : List Int) (a0_2 : Int) (a1 : Int) (a2 : Int) : Option (Bool) := (exerguelaw06_shown.f k).bind fun t279 => ((exergueref06_Near.f k a0_0 l0_1 a0_2).bind fun t280 => (if t280 = true then ((exergueref06_Is.f a2).bind fun t281 => (exerguelaw06_RoundSig.j0 k a2 t279 (wrap64 ((wrap64 (Int.tmod a1 60)) + 1)) (!t281) a0_0 l0_1 a0_2)) else (exerguelaw06_RoundSig.j0 k a2 t279 (wrap64 ((wrap64 (Int.tmod a1 60)) + 1)) true a0_0 l0_1 a0_2)))
theorem exerguelaw06_RoundSig.mono_l : ∀ k, (∀ y0 y1 y2 y3 y4 y5 y6, LeO (exerguelaw06_RoundSig.j0 k y0 y1 y2 y3 y4 y5 y6) (exerguelaw06_RoundSig.j0 (k + 1) y0 y1 y2 y3 y4 y5 y6))
  | 0 => fun _ _ _ _ _ _ _ r h => by simp [exerguelaw06_RoundSig.j0] at h
  | k + 1 => by
    have ih0 := exerguelaw06_RoundSig.mono_l k
    · intro y0 y1 y2 y3 y4 y5 y6
      unfold exerguelaw06_RoundSig.j0
      repeat' first
      | (with_reducible exact ih0 _ _ _ _ _ _ _)
      | (with_reducible exact exerguelaw06_shown.mono _)
      | (with_reducible exact exergueref05_Same.mono _ _ _ _ _ _ _)
      | (with_reducible exact exergueref06_Near.mono _ _ _ _)
      | (with_reducible exact round_Sig.mono _ _ _ _ _ _)
      | (with_reducible exact round_To.mono _ _ _ _ _ _)
      | (with_reducible exact LeO.refl _)
      | (with_reducible exact LeO.none _)
      | (with_reducible refine LeO.ite ?_ ?_)
      | (with_reducible refine LeO.bind ?_ (fun _ => ?_))
      | exact ih0 _ _ _ _ _ _ _
      | exact exerguelaw06_shown.mono _
      | exact exergueref05_Same.mono _ _ _ _ _ _ _
      | exact exergueref06_Near.mono _ _ _ _
      | exact round_Sig.mono _ _ _ _ _ _
      | exact round_To.mono _ _ _ _ _ _
      | exact LeO.none _
      | refine LeO.ite ?_ ?_
      | refine LeO.bind ?_ (fun _ => ?_)
theorem exerguelaw06_RoundSig.mono : ∀ a0 a1 a2 a3 a4 k, LeO (exerguelaw06_RoundSig.f k a0 a1 a2 a3 a4) (exerguelaw06_RoundSig.f (k + 1) a0 a1 a2 a3 a4) := by
  intro a0 a1 a2 a3 a4 k
  have ih0 := exerguelaw06_RoundSig.mono_l k
  unfold exerguelaw06_RoundSig.f
  repeat' first
      | (with_reducible exact ih0 _ _ _ _ _ _ _)
      | (with_reducible exact exerguelaw06_shown.mono _)
      | (with_reducible exact exergueref05_Same.mono _ _ _ _ _ _ _)
      | (with_reducible exact exergueref06_Near.mono _ _ _ _)
      | (with_reducible exact round_Sig.mono _ _ _ _ _ _)
      | (with_reducible exact round_To.mono _ _ _ _ _ _)
      | (with_reducible exact LeO.refl _)
      | (with_reducible exact LeO.none _)
      | (with_reducible refine LeO.ite ?_ ?_)
      | (with_reducible refine LeO.bind ?_ (fun _ => ?_))
      | exact ih0 _ _ _ _ _ _ _
      | exact exerguelaw06_shown.mono _
      | exact exergueref05_Same.mono _ _ _ _ _ _ _
      | exact exergueref06_Near.mono _ _ _ _
      | exact round_Sig.mono _ _ _ _ _ _
      | exact round_To.mono _ _ _ _ _ _
      | exact LeO.none _
      | refine LeO.ite ?_ ?_
      | refine LeO.bind ?_ (fun _ => ?_)
def exerguelaw06_RoundSig.T6 : Bool × List (List Nat × List Nat) := (true, [([], []), ([], []), ([1], [1]), ([], []), ([2, 3], [2, 3]), ([4], [4]), ([], []), ([0, 5, 6, 2], [0, 5, 6]), ([7], [7]), ([8], [8]), ([8], [8]), ([], []), ([11, 9, 7, 0, 1, 2, 3, 4, 5, 6, 7, 8, 9, 11], [9, 11]), ([10, 12, 0, 1, 2, 3, 4, 5, 6, 7, 8, 9, 10, 11, 12], [10])])
def exerguelaw06_RoundSig.B6 : List Nat := [0, 0, 2, 0, 14, 30, 0, 127, 255, 511, 511, 0, 3071, 8191]
theorem exerguelaw06_RoundSig.tab6 : rtab .any (opsOf Tryd.f7 6) = exerguelaw06_RoundSig.T6 := by kernel_rfl
theorem exerguelaw06_RoundSig.bits6 : waitsOk exerguelaw06_RoundSig.T6.2 exerguelaw06_RoundSig.B6 = true := by kernel_rfl
end Go.Proofs.YtogfokpmpdclbaaDoor.PZ
