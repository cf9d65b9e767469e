-- made by wip/xprint.py (a program of this session over the kit's print.py). Not trusted: Lean checks it.
import Derived.Test.YtahkamggdbibiaaDoorPZx0
namespace Go.Proofs.YtahkamggdbibiaaDoor.PZ
open Go.RowKit Go.Proofs.YtahkamggdbibiaaDoorW.PrintWords Go.Proofs.YtahkamggdbibiaaDoorW.PrintLast Go.Proofs.YtahkamggdbibiaaDoorW.PrintMore
attribute [local go_sem] max2_int min2_int max_two min_two max_three min_three max_four min_four   -- for this text's walks alone
set_option linter.unusedVariables false
set_option linter.unusedSimpArgs false

-- BY HAND: function 37 (slices_ContainsFunc_byte_byte)

/-! ### dec_odd: function 38 -/
def dec_odd.f (a0 : Int) : Option (Bool) := some (decide (a0 > 9))
set_option maxHeartbeats 8000000 in
set_option maxRecDepth 100000 in
theorem dec_odd.calls (a0 : Int) (r : Bool) (w : World) (h : dec_odd.f a0 = some r) :
    Calls Tryd.prog 38 #[.int .u8 a0] w fun e w' => e = .returned (.bool r) ∧ Drawn0 w w' := by
  have H : (some (decide (a0 > 9))) = some r := h
  clear h
  obtain rfl := Option.some.inj H
  go_enter Tryd.func38, Tryd.ntmps38
  go_wp2
  go_ret
  exact ⟨by first | rfl | (simp; done) | (simp [*]; done), by repeat (first | exact Drawn0.refl _ | apply Drawn0.step)⟩

/-! ### dec_tooFar: function 39 -/
def dec_tooFar.f (a0 : Int) (a1 : Int) : Option (Bool) := if a0 < (wrap64 (-a1)) then (some true) else (some (decide (a0 > a1)))
set_option maxHeartbeats 8000000 in
set_option maxRecDepth 100000 in
theorem dec_tooFar.calls (a0 : Int) (a1 : Int) (r : Bool) (w : World) (h : dec_tooFar.f a0 a1 = some r) :
    Calls Tryd.prog 39 #[.int .i64 a0, .int .i64 a1] w fun e w' => e = .returned (.bool r) ∧ Drawn0 w w' := by
  have H : (if a0 < (wrap64 (-a1)) then (some true) else (some (decide (a0 > a1)))) = some r := h
  clear h
  by_cases c3 : a0 < (wrap64 (-a1))
  · rw [if_pos c3] at H
    have c3b0 : decide (a0 < (wrap64 (-a1))) = true := decide_eq_true c3
    clear c3
    obtain rfl := Option.some.inj H
    go_enter Tryd.func39, Tryd.ntmps39
    go_wp2
    go_ret
    exact ⟨by first | rfl | (simp; done) | (simp [*]; done), by repeat (first | exact Drawn0.refl _ | apply Drawn0.step)⟩
  · rw [if_neg c3] at H
    have c3b0 : decide (a0 < (wrap64 (-a1))) = false := decide_eq_false c3
    clear c3
    obtain rfl := Option.some.inj H
    go_enter Tryd.func39, Tryd.ntmps39
    go_wp2
    go_ret
    exact ⟨by first | rfl | (simp; done) | (simp [*]; done), by repeat (first | exact Drawn0.refl _ | apply Drawn0.step)⟩

end Go.Proofs.YtahkamggdbibiaaDoor.PZ
