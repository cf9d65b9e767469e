/- DecFigures, the pure statement: what the law computes is true.
   Conditions: none. -/
import Derived.Test.YtahkamggdbibiaaDoorPZx28
import Derived.Test.YtahkamggdbibiaaDoorPureRight
import Derived.Test.YtahkamggdbibiaaDoorPureShown
set_option linter.unusedSimpArgs false
namespace Go.Proofs.YtahkamggdbibiaaDoor.PZ
open Go.RowKit Go.Proofs.YtahkamggdbibiaaDoorW.PrintWords Go.Proofs.YtahkamggdbibiaaDoorW.PrintLast
theorem wf_i16 {n : Int} (h : (Lit.int .i16 n).wf = true) : -32768 ≤ n ∧ n ≤ 32767 := by
  have h1 : (decide (IntKind.i16.min ≤ n) && decide (n ≤ IntKind.i16.max)) = true := h
  have e1 : IntKind.i16.min = -32768 := rfl
  have e2 : IntKind.i16.max = 32767 := rfl
  rw [e1, e2] at h1
  simpa using h1
theorem mag_f (g : Bool) (l : List Int) (e : Int) (hl : l.length ≤ 1000) (he : -1000 ≤ e ∧ e ≤ 1000) : dec_Mag.f g l e = some (mx (l.length : Int) 1 + e - 1) := by
  unfold dec_Mag.f
  have hm : 0 ≤ mx (l.length : Int) 1 ∧ mx (l.length : Int) 1 ≤ 1000 := by unfold mx; split <;> omega
  generalize mx (l.length : Int) 1 = m at hm ⊢
  rw [w64 (m + e) (by omega) (by omega), w64 _ (by omega) (by omega)]
theorem at_f (g : Bool) (l : List Int) (e n : Int) (hl : l.length ≤ 1000) (he : -1000 ≤ e ∧ e ≤ 1000) (hn : -100000 ≤ n ∧ n ≤ 100000) :
    dec_At.f g l e n = some (if (l.length : Int) = 0 ∨ mx (l.length : Int) 1 + e - 1 - n < 0 ∨ (l.length : Int) ≤ mx (l.length : Int) 1 + e - 1 - n then 0 else rd l (mx (l.length : Int) 1 + e - 1 - n)) := by
  have hm : 0 ≤ mx (l.length : Int) 1 ∧ mx (l.length : Int) 1 ≤ 1000 := by unfold mx; split <;> omega
  unfold dec_At.f
  rw [mag_f g l e hl he]
  simp only [Option.bind_some]
  generalize mx (l.length : Int) 1 = m at hm ⊢
  rw [w64 (m + e - 1 - n) (by omega) (by omega)]
  by_cases h0 : (l.length : Int) = 0
  · simp [h0]
  · by_cases h1 : m + e - 1 - n < 0
    · simp [h0, h1]
    · by_cases h2 : (l.length : Int) ≤ m + e - 1 - n
      · have : m + e - 1 - n ≥ (l.length : Int) := h2
        simp [h0, h1, h2]
      · have h3 : ¬ (m + e - 1 - n ≥ (l.length : Int)) := h2
        have h4 : 0 ≤ m + e - 1 - n := by omega
        have h5 : m + e - 1 - n < (l.length : Int) := by omega
        simp only [h0, h1, h2, h3, h4, h5, if_true, if_false, false_or]
theorem figures_l0 (g : Bool) (l : List Int) (e b : Int) (hl : l.length ≤ 1000) (he : -1000 ≤ e ∧ e ≤ 1000) (hb : -32768 ≤ b ∧ b ≤ 32767) (n : Nat) : ∀ i : Nat, i + n = l.length →
    exerguelaw05_DecFigures.l0 (n + 1) b true (mx (l.length : Int) 1 + e - 1) (i : Int) g l e = some true := by
  have hm : 0 ≤ mx (l.length : Int) 1 ∧ mx (l.length : Int) 1 ≤ 1000 ∧ (0 < l.length → mx (l.length : Int) 1 = l.length) := by unfold mx; split <;> omega
  induction n with
  | zero =>
    intro i hi
    have h1 : ¬ ((i : Int) < (l.length : Int)) := by omega
    have h2 : wrap64 b = b := w64 _ (by omega) (by omega)
    rw [exerguelaw05_DecFigures.l0]
    simp only [h1, if_false, h2, if_true]
    by_cases h3 : b ≥ 0
    · rw [if_pos h3, w64 (mx (l.length : Int) 1 + e - 1 + 1) (by omega) (by omega), w64 (mx (l.length : Int) 1 + e - 1 + 1 + b) (by omega) (by omega), at_f g l e _ hl he (by omega), if_pos (by omega)]
      rfl
    · have hn : mn e (mx (l.length : Int) 1 + e - 1) ≤ e ∧ -2000 ≤ mn e (mx (l.length : Int) 1 + e - 1) := by unfold mn; split <;> omega
      rw [if_neg h3, w64 (mn e (mx (l.length : Int) 1 + e - 1) + b) (by omega) (by omega), at_f g l e _ hl he (by omega), if_pos (by omega)]
      rfl
  | succ n ih =>
    intro i hi
    have h1 : ((i : Int) < (l.length : Int)) = True := eq_true (by omega)
    have h2 : wrap64 ((i : Int) + 1) = ((i + 1 : Nat) : Int) := by rw [w64 _ (by omega) (by omega)]; omega
    have h3 : ((0 : Int) ≤ (i : Int)) = True := eq_true (by omega)
    have h4 := hm.2.2 (by omega)
    rw [exerguelaw05_DecFigures.l0]
    simp only [h1, if_true]
    rw [w64 (mx (l.length : Int) 1 + e - 1 - (i : Int)) (by omega) (by omega), at_f g l e _ hl he (by omega)]
    rw [if_neg (by omega)]
    have h5 : mx (l.length : Int) 1 + e - 1 - (mx (l.length : Int) 1 + e - 1 - (i : Int)) = (i : Int) := by omega
    simp only [h5, Option.bind_some, h3, if_true, h2]
    exact ih (i + 1) (by omega)
end Go.Proofs.YtahkamggdbibiaaDoor.PZ
namespace Go.Proofs.YtahkamggdbibiaaDoor
open PZ Go.RowKit Go.Proofs.YtahkamggdbibiaaDoorW.PrintWords
theorem Pure.DecFigures : ∀ (x0_0 : Bool) (x0_1 : List Int) (x0_2 : Int) (x1 : Int), x0_1.length ≤ maxLen → (∀ b_ ∈ x0_1, (Lit.int .u8 b_).wf = true) → (Lit.int .i64 x0_2).wf = true → (Lit.int .i16 x1).wf = true → ∃ k, exerguelaw05_DecFigures.f k x0_0 x0_1 x0_2 x1 = some true := by
  intro g l e b hm _ _ hb
  have hb := wf_i16 hb
  obtain ⟨t, k, hk, hi⟩ := right_many g l e (by have : maxLen = 9223372036854775807 := rfl; omega)
  refine ⟨12 + k + l.length + 1, ?_⟩
  unfold exerguelaw05_DecFigures.f
  rw [at_rounds exerguelaw05_shown.mono (show 12 ≤ 12 + k + l.length + 1 by omega) shown_true, Option.bind_some, hk _ (by omega), Option.bind_some]
  by_cases ht : t = true
  · rw [if_pos ht]
    have hR := (hi.1 ht).2
    have hl : l.length ≤ 1000 := by rcases hR with h | h <;> omega
    have he : -1000 ≤ e ∧ e ≤ 1000 := by rcases hR with h | h <;> omega
    rw [mag_f g l e hl he, Option.bind_some]
    exact at_rounds (g := fun k => exerguelaw05_DecFigures.l0 k b true (mx (l.length : Int) 1 + e - 1) 0 g l e) (fun k => exerguelaw05_DecFigures.mono_l k _ _ _ _ _ _ _) (by omega) (figures_l0 g l e b hl he hb l.length 0 (by omega))
  · rw [if_neg ht]
end Go.Proofs.YtahkamggdbibiaaDoor
