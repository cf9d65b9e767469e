/- Figures as numbers: rows of figures, what they are worth, and how they compare.
   Conditions: none. -/
import Derived.Test.YtahkamggdbibiaaDoorWMore
set_option linter.unusedSimpArgs false
set_option linter.unusedVariables false
namespace Go.Proofs.YtahkamggdbibiaaDoor.PZ
open Go.RowKit Go.Proofs.YtahkamggdbibiaaDoorW.PrintWords Go.Proofs.YtahkamggdbibiaaDoorW.PrintLast
def T10 (n : Nat) : Int := 10 ^ n
theorem T10_zero : T10 0 = 1 := rfl
theorem T10_succ (n : Nat) : T10 (n + 1) = T10 n * 10 := by unfold T10; exact Int.pow_succ 10 n
theorem T10_pos (n : Nat) : 0 < T10 n := by
  induction n with
  | zero => decide
  | succ n ih => rw [T10_succ]; omega
theorem T10_le {a b : Nat} (h : a ≤ b) : T10 a ≤ T10 b := by
  obtain ⟨c, rfl⟩ : ∃ c, b = a + c := ⟨b - a, by omega⟩
  induction c with
  | zero => exact Int.le_refl _
  | succ c ih => have := ih (by omega); have := T10_pos (a + c); rw [← Nat.add_assoc, T10_succ]; omega
theorem T10_lt {a b : Nat} (h : T10 a < T10 b) : a < b := by
  rcases Nat.lt_or_ge a b with h1 | h1
  · exact h1
  · have := T10_le h1; omega
def num (l : List Int) : Int := l.foldl (fun n d => n * 10 + d) 0
def Figs (l : List Int) : Prop := ∀ d ∈ l, 0 ≤ d ∧ d ≤ 9
theorem Figs.nil : Figs [] := fun _ h => by cases h
theorem Figs.cons {d : Int} {l : List Int} (h0 : 0 ≤ d) (h1 : d ≤ 9) (h : Figs l) : Figs (d :: l) := by
  intro x hx
  rcases List.mem_cons.1 hx with rfl | hx
  · exact ⟨h0, h1⟩
  · exact h x hx
theorem Figs.head {d : Int} {l : List Int} (h : Figs (d :: l)) : 0 ≤ d ∧ d ≤ 9 := h d List.mem_cons_self
theorem Figs.tail {d : Int} {l : List Int} (h : Figs (d :: l)) : Figs l := fun x hx => h x (List.mem_cons_of_mem _ hx)
theorem Figs.append {a b : List Int} (h : Figs a) (k : Figs b) : Figs (a ++ b) := by
  intro x hx
  rcases List.mem_append.1 hx with hx | hx
  · exact h x hx
  · exact k x hx
theorem Figs.left {a b : List Int} (h : Figs (a ++ b)) : Figs a := fun x hx => h x (List.mem_append_left _ hx)
theorem Figs.right {a b : List Int} (h : Figs (a ++ b)) : Figs b := fun x hx => h x (List.mem_append_right _ hx)
theorem Figs.drop {l : List Int} (h : Figs l) (n : Nat) : Figs (l.drop n) := fun x hx => h x (List.mem_of_mem_drop hx)
theorem Figs.take {l : List Int} (h : Figs l) (n : Nat) : Figs (l.take n) := fun x hx => h x (List.mem_of_mem_take hx)
theorem Figs.zeros (n : Nat) : Figs (List.replicate n 0) := fun x hx => by
  have := List.eq_of_mem_replicate hx
  subst this
  omega
theorem Figs.reverse {l : List Int} (h : Figs l) : Figs l.reverse := fun x hx => h x (List.mem_reverse.1 hx)
theorem num_foldl (l : List Int) (n : Int) : l.foldl (fun n d => n * 10 + d) n = n * T10 l.length + num l := by
  induction l generalizing n with
  | nil => simp [num, T10_zero]
  | cons d l ih =>
    have h1 : num (d :: l) = d * T10 l.length + num l := by
      unfold num
      rw [List.foldl_cons, ih]
      simp [num]
    rw [List.foldl_cons, ih, h1, List.length_cons, T10_succ]
    grind
theorem num_nil : num [] = 0 := rfl
theorem num_cons (d : Int) (l : List Int) : num (d :: l) = d * T10 l.length + num l := by
  unfold num
  rw [List.foldl_cons, num_foldl]
  simp [num]
theorem num_append (a b : List Int) : num (a ++ b) = num a * T10 b.length + num b := by
  unfold num
  rw [List.foldl_append, num_foldl]
  rfl
theorem num_one (d : Int) : num [d] = d := by simp [num]
theorem num_snoc (a : List Int) (d : Int) : num (a ++ [d]) = num a * 10 + d := by
  rw [num_append, num_one]
  rfl
theorem num_lt {l : List Int} (h : Figs l) : 0 ≤ num l ∧ num l < T10 l.length := by
  induction l with
  | nil => exact ⟨by decide, by decide⟩
  | cons d l ih =>
    have h1 := ih h.tail
    have h2 := h.head
    have h3 := T10_pos l.length
    rw [num_cons, List.length_cons, T10_succ]
    have a1 : 0 ≤ d * T10 l.length := Int.mul_nonneg h2.1 (by omega)
    have a2 : d * T10 l.length ≤ 9 * T10 l.length := Int.mul_le_mul_of_nonneg_right h2.2 (by omega)
    omega
theorem num_ge {d : Int} {l : List Int} (h : Figs (d :: l)) (hd : 0 < d) : T10 l.length ≤ num (d :: l) := by
  have h1 := num_lt h.tail
  have h3 := T10_pos l.length
  rw [num_cons]
  have a2 : 1 * T10 l.length ≤ d * T10 l.length := Int.mul_le_mul_of_nonneg_right (by omega) (by omega)
  omega
/-- -1, 0, 1. -/
def sg (x : Int) : Int := if x < 0 then -1 else if 0 < x then 1 else 0
/-- A figure at a place from the first one on; 0 behind. -/
theorem rd_nat (l : List Int) (i : Nat) : rd l (i : Int) = l.getD i 0 := by simp [rd]
theorem drop_cons (l : List Int) (k : Nat) (hk : k < l.length) : l.drop k = rd l k :: l.drop (k + 1) := by
  rw [List.drop_eq_getElem_cons hk]
  congr 1
  simp [rd, List.getD_eq_getElem?_getD, List.getElem?_eq_getElem hk]
theorem rd_mem (l : List Int) (k : Nat) (hk : k < l.length) : rd l k ∈ l := by
  have : rd l k = l[k] := by simp [rd, List.getD_eq_getElem?_getD, List.getElem?_eq_getElem hk]
  rw [this]
  exact List.getElem_mem hk
theorem rd_out (l : List Int) (k : Nat) (hk : l.length ≤ k) : rd l k = 0 := by
  simp [rd, List.getD_eq_getElem?_getD, List.getElem?_eq_none hk]
theorem rd_figs {l : List Int} (h : Figs l) (k : Nat) : 0 ≤ rd l k ∧ rd l k ≤ 9 := by
  by_cases hk : k < l.length
  · exact h _ (rd_mem l k hk)
  · rw [rd_out l k (by omega)]; omega
theorem rd_append_left (a b : List Int) (k : Nat) (hk : k < a.length) : rd (a ++ b) k = rd a k := by
  simp [rd, List.getD_eq_getElem?_getD, List.getElem?_append_left hk]
theorem rd_append_right (a b : List Int) (k : Nat) (hk : a.length ≤ k) : rd (a ++ b) k = rd b ((k - a.length : Nat) : Int) := by
  simp [rd, List.getD_eq_getElem?_getD, List.getElem?_append_right hk]
theorem num_pos {l : List Int} (h : Figs l) (hl : 0 < l.length) (h0 : 0 < rd l 0) : T10 (l.length - 1) ≤ num l := by
  cases l with
  | nil => simp at hl
  | cons d l => simpa using num_ge h (by simpa [rd] using h0)
theorem w64 (n : Int) (h1 : -9223372036854775808 ≤ n) (h2 : n ≤ 9223372036854775807) : wrap64 n = n := by unfold wrap64; omega
theorem wf_u8 {n : Int} (h : (Lit.int .u8 n).wf = true) : 0 ≤ n ∧ n ≤ 255 := by
  have h1 : (decide (IntKind.u8.min ≤ n) && decide (n ≤ IntKind.u8.max)) = true := h
  have e1 : IntKind.u8.min = 0 := rfl
  have e2 : IntKind.u8.max = 255 := rfl
  rw [e1, e2] at h1
  simpa using h1
theorem len_max {l : List Int} (h : l.length ≤ maxLen) : l.length ≤ 9223372036854775807 := by
  have : maxLen = 9223372036854775807 := rfl
  omega
theorem Ev_shift {α : Type} {g : Nat → Option α} {r : α} (h : Ev (fun n => g (n + 1)) r) : Ev g r := Ev.step (fun _ => rfl) h
end Go.Proofs.YtahkamggdbibiaaDoor.PZ
