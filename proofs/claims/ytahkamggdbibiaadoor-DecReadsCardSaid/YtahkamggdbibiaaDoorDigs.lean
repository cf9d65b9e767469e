/- A whole number's figures, and its text.
   Conditions: none. -/
import Derived.Test.YtahkamggdbibiaaDoorNum
import Derived.Lib.ItoaNum
set_option linter.unusedSimpArgs false
set_option linter.unusedVariables false
namespace Go.Proofs.YtahkamggdbibiaaDoor.PZ
open Go.RowKit Go.Proofs.YtahkamggdbibiaaDoorW.PrintWords Go.Proofs.YtahkamggdbibiaaDoorW.PrintLast
/-- A whole number's figures. -/
def digsN (u : Nat) : List Int := if h : u < 10 then [(u : Int)] else digsN (u / 10) ++ [((u % 10 : Nat) : Int)]
termination_by u
decreasing_by omega
theorem digsN_small {u : Nat} (h : u < 10) : digsN u = [(u : Int)] := by rw [digsN, dif_pos h]
theorem digsN_big {u : Nat} (h : ¬ u < 10) : digsN u = digsN (u / 10) ++ [((u % 10 : Nat) : Int)] := by rw [digsN, dif_neg h]
theorem digsN_figs (u : Nat) : Figs (digsN u) := by
  induction u using Nat.strongRecOn with
  | _ u ih =>
    by_cases h : u < 10
    · rw [digsN_small h]
      exact Figs.cons (by omega) (by omega) Figs.nil
    · rw [digsN_big h]
      exact (ih (u / 10) (by omega)).append (Figs.cons (by omega) (by omega) Figs.nil)
theorem digsN_num (u : Nat) : num (digsN u) = u := by
  induction u using Nat.strongRecOn with
  | _ u ih =>
    by_cases h : u < 10
    · rw [digsN_small h, num_one]
    · rw [digsN_big h, num_snoc, ih (u / 10) (by omega)]
      omega
theorem digsN_pos (u : Nat) : 0 < (digsN u).length := by
  by_cases h : u < 10
  · rw [digsN_small h]; simp
  · rw [digsN_big h]; simp
theorem digsN_first (u : Nat) (hu : 0 < u) : 0 < rd (digsN u) 0 := by
  induction u using Nat.strongRecOn with
  | _ u ih =>
    by_cases h : u < 10
    · rw [digsN_small h]
      simpa [rd] using hu
    · rw [digsN_big h]
      have := rd_append_left (digsN (u / 10)) [((u % 10 : Nat) : Int)] 0 (digsN_pos _)
      rw [Int.natCast_zero] at this
      rw [this]
      exact ih (u / 10) (by omega) (by omega)
theorem digsN_length (k : Nat) : ∀ u : Nat, u < 10 ^ (k + 1) → (digsN u).length ≤ k + 1 := by
  induction k with
  | zero => intro u h; rw [digsN_small (by simpa using h)]; simp
  | succ k ih =>
    intro u h
    by_cases h1 : u < 10
    · rw [digsN_small h1]; simp
    · rw [digsN_big h1, List.length_append]
      have := ih (u / 10) (by rw [Nat.pow_succ] at h; omega)
      simpa using this
theorem eq_snoc {α : Type} (l : List α) (h : 0 < l.length) : ∃ a x, l = a ++ [x] := by
  refine ⟨l.dropLast, l.getLast (List.length_pos_iff.1 h), ?_⟩
  exact (List.dropLast_concat_getLast _).symm
theorem digsN_of (n : Nat) : ∀ l : List Int, l.length = n + 1 → Figs l → (0 < rd l 0 ∨ l.length = 1) → digsN (num l).toNat = l := by
  induction n with
  | zero =>
    intro l hl hf _
    cases l with
    | nil => simp at hl
    | cons d l =>
      have : l = [] := List.eq_nil_of_length_eq_zero (by simpa using hl)
      subst this
      have := hf.head
      rw [num_one, digsN_small (by omega)]
      congr 1
      omega
  | succ n ih =>
    intro l hl hf h0
    have h0 : 0 < rd l 0 := by omega
    obtain ⟨a, d, rfl⟩ := eq_snoc l (by omega)
    have ha : a.length = n + 1 := by simpa using hl
    have hd := (hf.right).head
    have r0 := rd_append_left a [d] 0 (by omega)
    rw [Int.natCast_zero] at r0
    rw [r0] at h0
    have hp := num_pos hf.left (by omega) h0
    have hp' := T10_pos (a.length - 1)
    have e := ih a ha hf.left (.inl h0)
    rw [num_snoc, digsN_big (by omega)]
    have e1 : (num a * 10 + d).toNat / 10 = (num a).toNat := by omega
    have e2 : (((num a * 10 + d).toNat % 10 : Nat) : Int) = d := by omega
    rw [e1, e2, e]
def chr (d : Int) : Int := 48 + d
/-- A power's text; a number's. -/
def pw (e : Int) : List Int := if e < 0 then 45 :: (digsN e.natAbs).map chr else (digsN e.toNat).map chr
theorem bytes_list (l : List UInt8) : bytesOf ⟨l.toArray⟩ = l.map fun b => (b.toNat : Int) := by unfold bytesOf; rfl
theorem decDigits_map (u : Nat) : ((Lib.decDigits u).map fun b => (b.toNat : Int)) = (digsN u).map chr := by
  induction u using Nat.strongRecOn with
  | _ u ih =>
    by_cases h : u < 10
    · rw [digsN_small h, Lib.decDigits, dif_pos h]
      simp only [List.map_cons, List.map_nil, chr]
      congr 1
      simp [UInt8.toNat_ofNat']
      omega
    · rw [digsN_big h, Lib.decDigits, dif_neg h, List.map_append, List.map_append, ih (u / 10) (by omega)]
      congr 1
      simp only [List.map_cons, List.map_nil, chr]
      congr 1
      simp [UInt8.toNat_ofNat']
      omega
theorem itoa_map (e : Int) : ((Lib.itoa e).map fun b => (b.toNat : Int)) = pw e := by
  unfold Lib.itoa pw
  split
  · rw [List.map_cons, decDigits_map]; rfl
  · rw [decDigits_map]
end Go.Proofs.YtahkamggdbibiaaDoor.PZ
