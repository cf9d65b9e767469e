/- Figures as numbers: rows of figures, what they are worth, and how they compare.
   Conditions: none. -/
import Derived.Test.YtekinhnempbioaaDoorWMore
set_option linter.unusedSimpArgs false
set_option linter.unusedVariables false
namespace Go.Proofs.YtekinhnempbioaaDoor.PZ
open Go.RowKit Go.Proofs.YtekinhnempbioaaDoorW.PrintWords Go.Proofs.YtekinhnempbioaaDoorW.PrintLast
def T10 (n : Nat) : Int := 10 ^ n
theorem T10_zero : T10 0 = 1 := rfl
theorem T10_succ (n : Nat) : T10 (n + 1) = T10 n * 10 := by unfold T10; exact Int.pow_succ 10 n
theorem T10_add (a b : Nat) : T10 (a + b) = T10 a * T10 b := by unfold T10; exact Int.pow_add 10 a b
theorem T10_pos (n : Nat) : 0 < T10 n := by
  induction n with
  | zero => decide
  | succ n ih => rw [T10_succ]; omega
theorem T10_le {a b : Nat} (h : a ≤ b) : T10 a ≤ T10 b := by
  obtain ⟨c, rfl⟩ : ∃ c, b = a + c := ⟨b - a, by omega⟩
  induction c with
  | zero => exact Int.le_refl _
  | succ c ih => have := ih (by omega); have := T10_pos (a + c); rw [← Nat.add_assoc, T10_succ]; omega
theorem T10_lt {a b : Nat} (h : T10 a < T10 b) : a < b := by
  rcases Nat.lt_or_ge a b with h1 | h1
  · exact h1
  · have := T10_le h1; omega
def num (l : List Int) : Int := l.foldl (fun n d => n * 10 + d) 0
def Figs (l : List Int) : Prop := ∀ d ∈ l, 0 ≤ d ∧ d ≤ 9
theorem Figs.nil : Figs [] := fun _ h => by cases h
theorem Figs.cons {d : Int} {l : List Int} (h0 : 0 ≤ d) (h1 : d ≤ 9) (h : Figs l) : Figs (d :: l) := by
  intro x hx
  rcases List.mem_cons.1 hx with rfl | hx
  · exact ⟨h0, h1⟩
  · exact h x hx
theorem Figs.head {d : Int} {l : List Int} (h : Figs (d :: l)) : 0 ≤ d ∧ d ≤ 9 := h d List.mem_cons_self
theorem Figs.tail {d : Int} {l : List Int} (h : Figs (d :: l)) : Figs l := fun x hx => h x (List.mem_cons_of_mem _ hx)
theorem Figs.append {a b : List Int} (h : Figs a) (k : Figs b) : Figs (a ++ b) := by
  intro x hx
  rcases List.mem_append.1 hx with hx | hx
  · exact h x hx
  · exact k x hx
theorem Figs.left {a b : List Int} (h : Figs (a ++ b)) : Figs a := fun x hx => h x (List.mem_append_left _ hx)
theorem Figs.right {a b : List Int} (h : Figs (a ++ b)) : Figs b := fun x hx => h x (List.mem_append_right _ hx)
theorem Figs.drop {l : List Int} (h : Figs l) (n : Nat) : Figs (l.drop n) := fun x hx => h x (List.mem_of_mem_drop hx)
theorem Figs.take {l : List Int} (h : Figs l) (n : Nat) : Figs (l.take n) := fun x hx => h x (List.mem_of_mem_take hx)
theorem Figs.zeros (n : Nat) : Figs (List.replicate n 0) := fun x hx => by
  have := List.eq_of_mem_replicate hx
  subst this
  omega
theorem Figs.reverse {l : List Int} (h : Figs l) : Figs l.reverse := fun x hx => h x (List.mem_reverse.1 hx)
theorem num_foldl (l : List Int) (n : Int) : l.foldl (fun n d => n * 10 + d) n = n * T10 l.length + num l := by
  induction l generalizing n with
  | nil => simp [num, T10_zero]
  | cons d l ih =>
    have h1 : num (d :: l) = d * T10 l.length + num l := by
      unfold num
      rw [List.foldl_cons, ih]
      simp [num]
    rw [List.foldl_cons, ih, h1, List.length_cons, T10_succ]
    grind
theorem num_nil : num [] = 0 := rfl
theorem num_cons (d : Int) (l : List Int) : num (d :: l) = d * T10 l.length + num l := by
  unfold num
  rw [List.foldl_cons, num_foldl]
  simp [num]
theorem num_append (a b : List Int) : num (a ++ b) = num a * T10 b.length + num b := by
  unfold num
  rw [List.foldl_append, num_foldl]
  rfl
theorem num_one (d : Int) : num [d] = d := by simp [num]
theorem num_snoc (a : List Int) (d : Int) : num (a ++ [d]) = num a * 10 + d := by
  rw [num_append, num_one]
  rfl
theorem num_zeros (n : Nat) : num (List.replicate n 0) = 0 := by
  induction n with
  | zero => rfl
  | succ n ih => rw [List.replicate_succ, num_cons, ih]; omega
theorem num_lt {l : List Int} (h : Figs l) : 0 ≤ num l ∧ num l < T10 l.length := by
  induction l with
  | nil => exact ⟨by decide, by decide⟩
  | cons d l ih =>
    have h1 := ih h.tail
    have h2 := h.head
    have h3 := T10_pos l.length
    rw [num_cons, List.length_cons, T10_succ]
    have a1 : 0 ≤ d * T10 l.length := Int.mul_nonneg h2.1 (by omega)
    have a2 : d * T10 l.length ≤ 9 * T10 l.length := Int.mul_le_mul_of_nonneg_right h2.2 (by omega)
    omega
theorem num_ge {d : Int} {l : List Int} (h : Figs (d :: l)) (hd : 0 < d) : T10 l.length ≤ num (d :: l) := by
  have h1 := num_lt h.tail
  have h3 := T10_pos l.length
  rw [num_cons]
  have a2 : 1 * T10 l.length ≤ d * T10 l.length := Int.mul_le_mul_of_nonneg_right (by omega) (by omega)
  omega
/-- -1, 0, 1. -/
def sg (x : Int) : Int := if x < 0 then -1 else if 0 < x then 1 else 0
theorem sg_clamp (x : Int) : mn (mx x (-1)) 1 = sg x := by unfold mn mx sg; repeat' split <;> omega
theorem sg_neg (x : Int) : sg (-x) = -sg x := by unfold sg; repeat' split <;> omega
theorem sg_range (x : Int) : -1 ≤ sg x ∧ sg x ≤ 1 := by unfold sg; repeat' split <;> omega
theorem sg_zero {x : Int} : sg x = 0 ↔ x = 0 := by unfold sg; split <;> (try split) <;> omega
theorem sg_pos {x : Int} : 0 < sg x ↔ 0 < x := by unfold sg; split <;> (try split) <;> omega
theorem sg_lt {x : Int} : sg x < 0 ↔ x < 0 := by unfold sg; split <;> (try split) <;> omega
theorem sg_mul {x p : Int} (hp : 0 < p) : sg (x * p) = sg x := by
  unfold sg
  rcases Int.lt_trichotomy x 0 with h | h | h
  · have : x * p < 0 := Int.mul_neg_of_neg_of_pos h hp
    rw [if_pos this, if_pos h]
  · subst h; simp
  · have : 0 < x * p := Int.mul_pos h hp
    rw [if_neg (by omega), if_pos this, if_neg (by omega), if_pos h]
theorem sg_eq {x y : Int} (h1 : x < 0 ↔ y < 0) (h2 : 0 < x ↔ 0 < y) : sg x = sg y := by
  unfold sg
  split <;> rename_i a
  · rw [if_pos (h1.1 a)]
  · rw [if_neg (fun b => a (h1.2 b))]
    split <;> rename_i a
    · rw [if_pos (h2.1 a)]
    · rw [if_neg (fun b => a (h2.2 b))]
/-- One figure ahead decides. -/
theorem sg_ahead {x y u v p : Int} (hu : 0 ≤ u ∧ u < p) (hv : 0 ≤ v ∧ v < p) (hne : x ≠ y) : sg ((x * p + u) - (y * p + v)) = sg (x - y) := by
  rcases Int.lt_or_gt_of_ne hne with h | h
  · have : (x + 1) * p ≤ y * p := Int.mul_le_mul_of_nonneg_right (by omega) (by omega)
    have e : (x + 1) * p = x * p + p := by rw [Int.add_mul, Int.one_mul]
    exact sg_eq (by omega) (by omega)
  · have : (y + 1) * p ≤ x * p := Int.mul_le_mul_of_nonneg_right (by omega) (by omega)
    have e : (y + 1) * p = y * p + p := by rw [Int.add_mul, Int.one_mul]
    exact sg_eq (by omega) (by omega)
theorem num_inj {a b : List Int} (ha : Figs a) (hb : Figs b) (hl : a.length = b.length) (h : num a = num b) : a = b := by
  induction a generalizing b with
  | nil => cases b with
    | nil => rfl
    | cons y b => simp at hl
  | cons x a ih =>
    cases b with
    | nil => simp at hl
    | cons y b =>
      have hl' : a.length = b.length := by simpa using hl
      rw [num_cons, num_cons, hl'] at h
      have h1 := num_lt ha.tail
      have h2 := num_lt hb.tail
      rw [hl'] at h1
      have hxy : x = y := by
        apply Classical.byContradiction
        intro hne
        have e := sg_ahead (x := x) (y := y) h1 h2 hne
        rw [h, Int.sub_self] at e
        have : sg (x - y) = 0 := by rw [← e]; rfl
        rw [sg_zero] at this
        omega
      subst hxy
      rw [ih ha.tail hb.tail hl' (by omega)]
/-- A figure at a place from the first one on; 0 behind. -/
theorem rd_nat (l : List Int) (i : Nat) : rd l (i : Int) = l.getD i 0 := by simp [rd]
theorem drop_cons (l : List Int) (k : Nat) (hk : k < l.length) : l.drop k = rd l k :: l.drop (k + 1) := by
  rw [List.drop_eq_getElem_cons hk]
  congr 1
  simp [rd, List.getD_eq_getElem?_getD, List.getElem?_eq_getElem hk]
theorem rd_mem (l : List Int) (k : Nat) (hk : k < l.length) : rd l k ∈ l := by
  have : rd l k = l[k] := by simp [rd, List.getD_eq_getElem?_getD, List.getElem?_eq_getElem hk]
  rw [this]
  exact List.getElem_mem hk
theorem rd_out (l : List Int) (k : Nat) (hk : l.length ≤ k) : rd l k = 0 := by
  simp [rd, List.getD_eq_getElem?_getD, List.getElem?_eq_none hk]
theorem rd_figs {l : List Int} (h : Figs l) (k : Nat) : 0 ≤ rd l k ∧ rd l k ≤ 9 := by
  by_cases hk : k < l.length
  · exact h _ (rd_mem l k hk)
  · rw [rd_out l k (by omega)]; omega
theorem rd_append_left (a b : List Int) (k : Nat) (hk : k < a.length) : rd (a ++ b) k = rd a k := by
  simp [rd, List.getD_eq_getElem?_getD, List.getElem?_append_left hk]
theorem rd_append_right (a b : List Int) (k : Nat) (hk : a.length ≤ k) : rd (a ++ b) k = rd b ((k - a.length : Nat) : Int) := by
  simp [rd, List.getD_eq_getElem?_getD, List.getElem?_append_right hk]
theorem rd_zeros (n k : Nat) : rd (List.replicate n 0) k = 0 := by
  by_cases hk : k < n
  · simp [rd, List.getD_eq_getElem?_getD, List.getElem?_replicate, hk]
  · exact rd_out _ _ (by simpa using hk)
/-- Figures with noughts behind, so many in all. -/
def pad (l : List Int) (n : Nat) : List Int := l ++ List.replicate (n - l.length) 0
theorem pad_length (l : List Int) (n : Nat) (h : l.length ≤ n) : (pad l n).length = n := by simp [pad]; omega
theorem pad_figs {l : List Int} (h : Figs l) (n : Nat) : Figs (pad l n) := h.append (Figs.zeros _)
theorem pad_num (l : List Int) (n : Nat) : num (pad l n) = num l * T10 (n - l.length) := by
  unfold pad
  rw [num_append, num_zeros, List.length_replicate]
  omega
theorem pad_rd (l : List Int) (n k : Nat) : rd (pad l n) k = rd l k := by
  unfold pad
  by_cases h : k < l.length
  · rw [rd_append_left _ _ _ h]
  · rw [rd_append_right _ _ _ (by omega), rd_zeros, rd_out l k (by omega)]
/-- What a number with figures l and power e is worth, in units of ten to the power -3000. -/
def valN (l : List Int) (e : Int) : Int := num l * T10 (e + 3000).toNat
def val (g : Bool) (l : List Int) (e : Int) : Int := if g then - valN l e else valN l e
theorem val_nil (g : Bool) (e : Int) : val g [] e = 0 := by unfold val valN; rw [num_nil]; split <;> simp
theorem val_neg (g : Bool) (l : List Int) (e : Int) : val (!g) l e = - val g l e := by unfold val; cases g <;> simp
theorem val_true (l : List Int) (e : Int) : val true l e = - valN l e := rfl
theorem val_false (l : List Int) (e : Int) : val false l e = valN l e := rfl
theorem sg_of_pos {x : Int} (h : 0 < x) : sg x = 1 := by unfold sg; rw [if_neg (by omega), if_pos h]
theorem sg_of_neg {x : Int} (h : x < 0) : sg x = -1 := by unfold sg; rw [if_pos h]
theorem valN_nonneg {l : List Int} (h : Figs l) (e : Int) : 0 ≤ valN l e := Int.mul_nonneg (num_lt h).1 (Int.le_of_lt (T10_pos _))
theorem num_pos {l : List Int} (h : Figs l) (hl : 0 < l.length) (h0 : 0 < rd l 0) : T10 (l.length - 1) ≤ num l := by
  cases l with
  | nil => simp at hl
  | cons d l => simpa using num_ge h (by simpa [rd] using h0)
theorem valN_pos {l : List Int} (h : Figs l) (hl : 0 < l.length) (h0 : 0 < rd l 0) (e : Int) : 0 < valN l e :=
  Int.mul_pos (by have := num_pos h hl h0; have := T10_pos (l.length - 1); omega) (T10_pos _)
theorem valN_bounds {l : List Int} (h : Figs l) (hl : 0 < l.length) (h0 : 0 < rd l 0) (e : Int) (he : -3000 ≤ e) :
    T10 (l.length + e + 2999).toNat ≤ valN l e ∧ valN l e < T10 (l.length + e + 3000).toNat := by
  have h1 := num_pos h hl h0
  have h2 := num_lt h
  have h3 := T10_pos (e + 3000).toNat
  have e1 : (l.length + e + 2999).toNat = (l.length - 1) + (e + 3000).toNat := by omega
  have e2 : (l.length + e + 3000).toNat = l.length + (e + 3000).toNat := by omega
  rw [e1, e2, T10_add, T10_add]
  unfold valN
  exact ⟨Int.mul_le_mul_of_nonneg_right h1 (by omega), Int.mul_lt_mul_of_pos_right h2.2 h3⟩
/-- Of two rows of equal length. -/
theorem valN_pad {l : List Int} (e : Int) (n : Nat) (h : l.length ≤ n) (he : (n : Int) ≤ l.length + e + 3000) : valN l e = num (pad l n) * T10 (l.length + e + 3000 - n).toNat := by
  rw [pad_num]
  unfold valN
  have : (e + 3000).toNat = (n - l.length) + (l.length + e + 3000 - n).toNat := by omega
  rw [this, T10_add]
  grind
theorem w64 (n : Int) (h1 : -9223372036854775808 ≤ n) (h2 : n ≤ 9223372036854775807) : wrap64 n = n := by unfold wrap64; omega
theorem wf_u8 {n : Int} (h : (Lit.int .u8 n).wf = true) : 0 ≤ n ∧ n ≤ 255 := by
  have h1 : (decide (IntKind.u8.min ≤ n) && decide (n ≤ IntKind.u8.max)) = true := h
  have e1 : IntKind.u8.min = 0 := rfl
  have e2 : IntKind.u8.max = 255 := rfl
  rw [e1, e2] at h1
  simpa using h1
theorem wf_i64 {n : Int} (h : (Lit.int .i64 n).wf = true) : -9223372036854775808 ≤ n ∧ n ≤ 9223372036854775807 := by
  have h1 : (decide (IntKind.i64.min ≤ n) && decide (n ≤ IntKind.i64.max)) = true := h
  have e1 : IntKind.i64.min = -9223372036854775808 := rfl
  have e2 : IntKind.i64.max = 9223372036854775807 := rfl
  rw [e1, e2] at h1
  simpa using h1
theorem len_max {l : List Int} (h : l.length ≤ maxLen) : l.length ≤ 9223372036854775807 := by
  have : maxLen = 9223372036854775807 := rfl
  omega
theorem wf_i16 {n : Int} (h : (Lit.int .i16 n).wf = true) : -32768 ≤ n ∧ n ≤ 32767 := by
  have h1 : (decide (IntKind.i16.min ≤ n) && decide (n ≤ IntKind.i16.max)) = true := h
  have e1 : IntKind.i16.min = -32768 := rfl
  have e2 : IntKind.i16.max = 32767 := rfl
  rw [e1, e2] at h1
  simpa using h1
theorem wf_u16 {n : Int} (h : (Lit.int .u16 n).wf = true) : 0 ≤ n ∧ n ≤ 65535 := by
  have h1 : (decide (IntKind.u16.min ≤ n) && decide (n ≤ IntKind.u16.max)) = true := h
  have e1 : IntKind.u16.min = 0 := rfl
  have e2 : IntKind.u16.max = 65535 := rfl
  rw [e1, e2] at h1
  simpa using h1
theorem wf_i32 {n : Int} (h : (Lit.int .i32 n).wf = true) : -2147483648 ≤ n ∧ n ≤ 2147483647 := by
  have h1 : (decide (IntKind.i32.min ≤ n) && decide (n ≤ IntKind.i32.max)) = true := h
  have e1 : IntKind.i32.min = -2147483648 := rfl
  have e2 : IntKind.i32.max = 2147483647 := rfl
  rw [e1, e2] at h1
  simpa using h1
theorem Ev_shift {α : Type} {g : Nat → Option α} {r : α} (h : Ev (fun n => g (n + 1)) r) : Ev g r := Ev.step (fun _ => rfl) h
end Go.Proofs.YtekinhnempbioaaDoor.PZ
