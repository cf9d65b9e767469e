/- A whole number's figures, and its text.
   Conditions: none. -/
import Derived.Test.YtogfokpmpdclbaaDoorNum
import Derived.Lib.ItoaNum
set_option linter.unusedSimpArgs false
set_option linter.unusedVariables false
namespace Go.Proofs.YtogfokpmpdclbaaDoor.PZ
open Go.RowKit Go.Proofs.YtogfokpmpdclbaaDoorW.PrintWords Go.Proofs.YtogfokpmpdclbaaDoorW.PrintLast
/-- A whole number's figures. -/
def digsN (u : Nat) : List Int := if h : u < 10 then [(u : Int)] else digsN (u / 10) ++ [((u % 10 : Nat) : Int)]
termination_by u
decreasing_by omega
theorem digsN_small {u : Nat} (h : u < 10) : digsN u = [(u : Int)] := by rw [digsN, dif_pos h]
theorem digsN_big {u : Nat} (h : ¬ u < 10) : digsN u = digsN (u / 10) ++ [((u % 10 : Nat) : Int)] := by rw [digsN, dif_neg h]
theorem digsN_figs (u : Nat) : Figs (digsN u) := by
  induction u using Nat.strongRecOn with
  | _ u ih =>
    by_cases h : u < 10
    · rw [digsN_small h]
      exact Figs.cons (by omega) (by omega) Figs.nil
    · rw [digsN_big h]
      exact (ih (u / 10) (by omega)).append (Figs.cons (by omega) (by omega) Figs.nil)
theorem digsN_num (u : Nat) : num (digsN u) = u := by
  induction u using Nat.strongRecOn with
  | _ u ih =>
    by_cases h : u < 10
    · rw [digsN_small h, num_one]
    · rw [digsN_big h, num_snoc, ih (u / 10) (by omega)]
      omega
theorem eq_snoc {α : Type} (l : List α) (h : 0 < l.length) : ∃ a x, l = a ++ [x] := by
  refine ⟨l.dropLast, l.getLast (List.length_pos_iff.1 h), ?_⟩
  exact (List.dropLast_concat_getLast _).symm
def chr (d : Int) : Int := 48 + d
/-- A power's text; a number's. -/
def pw (e : Int) : List Int := if e < 0 then 45 :: (digsN e.natAbs).map chr else (digsN e.toNat).map chr
theorem bytes_list (l : List UInt8) : bytesOf ⟨l.toArray⟩ = l.map fun b => (b.toNat : Int) := by unfold bytesOf; rfl
theorem decDigits_map (u : Nat) : ((Lib.decDigits u).map fun b => (b.toNat : Int)) = (digsN u).map chr := by
  induction u using Nat.strongRecOn with
  | _ u ih =>
    by_cases h : u < 10
    · rw [digsN_small h, Lib.decDigits, dif_pos h]
      simp only [List.map_cons, List.map_nil, chr]
      congr 1
      simp [UInt8.toNat_ofNat']
      omega
    · rw [digsN_big h, Lib.decDigits, dif_neg h, List.map_append, List.map_append, ih (u / 10) (by omega)]
      congr 1
      simp only [List.map_cons, List.map_nil, chr]
      congr 1
      simp [UInt8.toNat_ofNat']
      omega
theorem itoa_map (e : Int) : ((Lib.itoa e).map fun b => (b.toNat : Int)) = pw e := by
  unfold Lib.itoa pw
  split
  · rw [List.map_cons, decDigits_map]; rfl
  · rw [decDigits_map]
end Go.Proofs.YtogfokpmpdclbaaDoor.PZ
