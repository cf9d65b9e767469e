/- oper's functions and the document's, plainly: what figures leave over, whether they are between two numbers, and what a written number tells.
   Conditions: the rows are short, their bytes are bytes. -/
import Derived.Test.YtekinhnempbioaaDoorPureBytes
import Derived.Test.YtekinhnempbioaaDoorPZx1
import Derived.Test.YtekinhnempbioaaDoorPZx4
import Derived.Test.YtekinhnempbioaaDoorPZx7
import Derived.Test.YtekinhnempbioaaDoorOperand
import Derived.Test.YtekinhnempbioaaDoorOperRight
import Derived.Test.YtekinhnempbioaaDoorPureRow
import Derived.Test.YtekinhnempbioaaDoorDigs
set_option linter.unusedSimpArgs false
set_option linter.unusedVariables false
namespace Go.Proofs.YtekinhnempbioaaDoor.PZ
open Go.RowKit Go.Proofs.YtekinhnempbioaaDoorW.PrintWords Go.Proofs.YtekinhnempbioaaDoorW.PrintLast
theorem bareL_figs {l : List Int} (h : Figs l) : Figs (bareL l) := fun x hx => h x ((List.dropWhile_sublist _).subset hx)
theorem bareL_len (l : List Int) : (bareL l).length ≤ l.length := (List.dropWhile_sublist _).length_le
theorem bareL_num (l : List Int) : num (bareL l) = num l := by
  induction l with
  | nil => rfl
  | cons d l ih =>
    by_cases h : d = 0
    · subst h; rw [bareL_zero, ih, num_cons]; omega
    · rw [bareL_other l h]
/-- Without noughts ahead. -/
def Bare (l : List Int) : Prop := l = [] ∨ rd l 0 ≠ 0
theorem bareL_bare (l : List Int) : Bare (bareL l) := by
  induction l with
  | nil => exact .inl rfl
  | cons d l ih =>
    by_cases h : d = 0
    · subst h; exact ih
    · rw [bareL_other l h]; exact .inr (by simpa [rd] using h)
theorem bareL_of {l : List Int} (h : Bare l) : bareL l = l := by
  cases l with
  | nil => rfl
  | cons d l =>
    rcases h with h | h
    · cases h
    · exact bareL_other l (by simpa [rd] using h)
theorem bareL_same (l : List Int) : (bareL l).length = l.length ↔ Bare l := by
  constructor
  · intro h
    cases l with
    | nil => exact .inl rfl
    | cons d l =>
      by_cases hd : d = 0
      · subst hd
        rw [bareL_zero] at h
        have := bareL_len l
        simp at h
        omega
      · exact .inr (by simpa [rd] using hd)
  · intro h; rw [bareL_of h]
theorem Ev_id {α : Type} {g : Nat → Option α} {r : α} (h : Ev g r) : Ev (fun n => (g n).bind fun t => some t) r := Ev.bind h (Ev.now r)
theorem bare_ev (l : List Int) : Ev (fun _ => oper_bare.f l) (bareL l) := Ev.now _
theorem full_ev (l : List Int) (_ : l.length ≤ 1000000000) : Ev (fun _ => oper_full.f l) (fullN l : Int) := Ev.now _
/-- A number's figures; of 0 none. -/
def ndL (n : Int) : List Int := if n = 0 then [] else digsN n.toNat
theorem ndL_figs (n : Int) : Figs (ndL n) := by unfold ndL; split; exact Figs.nil; exact digsN_figs _
theorem ndL_num {n : Int} (h : 0 ≤ n) : num (ndL n) = n := by
  unfold ndL
  split
  · rename_i h0; rw [h0]; rfl
  · rw [digsN_num]; omega
theorem ndL_bare {n : Int} (h : 0 ≤ n) : Bare (ndL n) := by
  unfold ndL
  split
  · exact .inl rfl
  · have := digsN_first n.toNat (by omega)
    exact .inr (by omega)
theorem number_f {n : Int} (h : 0 ≤ n) (h1 : n ≤ 9223372036854775807) : oper_number.f n = some (ndL n) := by
  unfold oper_number.f ndL
  rw [if_pos ⟨by omega, h1⟩]
  split
  · rfl
  · unfold numText
    rw [bytes_list, itoa_map]
    unfold pw
    rw [if_neg (by omega), List.map_map]
    congr 1
    conv => rhs; rw [← List.map_id (digsN n.toNat)]
    apply List.map_congr_left
    intro d hd
    have := digsN_figs n.toNat d hd
    simp only [Function.comp_apply, chr, lessB, id]
    omega
theorem bare_lt {a b : List Int} (ha : Figs a) (hb : Figs b) (hB : Bare b) (h : a.length < b.length) : num a < num b := by
  have h1 := num_lt ha
  rcases hB with rfl | h0
  · simp at h
  · have f0 := rd_figs hb 0
    rw [Int.natCast_zero] at f0
    have h2 := num_pos hb (by omega) (by omega)
    have h3 := T10_le (show a.length ≤ b.length - 1 by omega)
    omega
theorem compared_f {a b : List Int} (ha : Figs a) (hb : Figs b) (hA : Bare a) (hB : Bare b) (la : a.length ≤ 1000000) (lb : b.length ≤ 1000000) : ∃ c, oper_compared.f a b = some c ∧ (c ≤ 0 ↔ num a ≤ num b) ∧ (c ≥ 0 ↔ num b ≤ num a) := by
  unfold oper_compared.f
  by_cases hl : a.length = b.length
  · rw [if_pos (by omega)]
    unfold bytes_Compare.f
    refine ⟨sg (num a - num b), by rw [compare_num a b ha hb hl]; rfl, ?_, ?_⟩
    · have h1 : ¬ 0 < sg (num a - num b) ↔ ¬ 0 < num a - num b := not_congr sg_pos
      omega
    · have h1 : ¬ sg (num a - num b) < 0 ↔ ¬ num a - num b < 0 := not_congr sg_lt
      omega
  · rw [if_neg (by omega), w64 _ (by omega) (by omega)]
    refine ⟨_, rfl, ?_⟩
    rcases Nat.lt_or_gt_of_ne hl with h | h
    · have := bare_lt ha hb hB h
      constructor <;> omega
    · have := bare_lt hb ha hA h
      constructor <;> omega
theorem ndL_len {n : Int} (h : 0 ≤ n) (h1 : n ≤ 9223372036854775807) : (ndL n).length ≤ 19 := by
  unfold ndL
  split
  · simp
  · exact digsN_length 18 n.toNat (by omega)
/-- In: between two numbers. -/
def inD (l : List Int) (from_ to_ : Int) : Bool := decide (0 ≤ to_ ∧ (0 ≤ from_ → from_ ≤ num l) ∧ num l ≤ to_)
theorem in_ev {l : List Int} (hf : Figs l) (hl : l.length ≤ 1000000) (x y : Int) (hx : -9223372036854775808 ≤ x ∧ x ≤ 9223372036854775807) (hy : -9223372036854775808 ≤ y ∧ y ≤ 9223372036854775807) : Ev (fun _ => oper_In.f l x y) (inD l x y) := by
  have hn := num_lt hf
  have hbl := bareL_len l
  unfold oper_In.f
  refine Ev.bind (bare_ev l) ?_
  by_cases h0 : y ≥ 0
  · have hmx : 0 ≤ mx x 0 ∧ mx x 0 ≤ 9223372036854775807 ∧ (mx x 0 ≤ num l ↔ (0 ≤ x → x ≤ num l)) := by
      unfold mx
      split
      · exact ⟨by omega, by omega, by omega⟩
      · exact ⟨by omega, by omega, by omega⟩
    have l1 := ndL_len hmx.1 hmx.2.1
    have l2 := ndL_len h0 hy.2
    obtain ⟨c, hc, c1, c2⟩ := compared_f (bareL_figs hf) (ndL_figs (mx x 0)) (bareL_bare l) (ndL_bare hmx.1) (by omega) (by omega)
    obtain ⟨d, hd, d1, d2⟩ := compared_f (bareL_figs hf) (ndL_figs y) (bareL_bare l) (ndL_bare h0) (by omega) (by omega)
    rw [bareL_num, ndL_num hmx.1] at c1 c2
    rw [bareL_num, ndL_num h0] at d1 d2
    simp only [if_pos h0, number_f hmx.1 hmx.2.1, number_f h0 hy.2, Option.bind_some, hc, hd]
    by_cases hc0 : c ≥ 0
    · simp only [if_pos hc0]
      have : decide (d ≤ 0) = inD l x y := by
        unfold inD
        rw [decide_eq_decide]
        have := hmx.2.2.1 (c2.1 hc0)
        constructor
        · intro h; exact ⟨h0, this, d1.1 h⟩
        · intro h; exact d1.2 h.2.2
      rw [this]
      exact Ev.now _
    · simp only [if_neg hc0]
      have : inD l x y = false := by
        unfold inD
        rw [decide_eq_false_iff_not]
        intro h
        exact hc0 (c2.2 (hmx.2.2.2 h.2.1))
      rw [this]
      exact Ev.now _
  · simp only [if_neg h0]
    have : inD l x y = false := by
      unfold inD
      rw [decide_eq_false_iff_not]
      intro h
      omega
    rw [this]
    exact Ev.now _
theorem take_succ_snoc (l : List Int) (k : Nat) (hk : k < l.length) : l.take (k + 1) = l.take k ++ [rd l k] := by
  rw [List.take_succ_eq_append_getElem hk]
  congr 2
  simp [rd, List.getD_eq_getElem?_getD, List.getElem?_eq_getElem hk]
theorem mod_step (a d m : Int) : (a % m * 10 + d) % m = (a * 10 + d) % m := by
  rw [Int.add_emod, Int.mul_emod, Int.emod_emod, ← Int.mul_emod, ← Int.add_emod]
theorem mod_l0 {l : List Int} (hf : Figs l) (hl : l.length ≤ 1000000) {m : Int} (hm : 1 ≤ m ∧ m ≤ 1000000000) (n : Nat) : ∀ i : Nat, i + n = l.length → oper_Mod.l0 (n + 1) m (num (l.take i) % m) l (l.length : Int) (i : Int) = some (num l % m) := by
  induction n with
  | zero =>
    intro i hi
    rw [oper_Mod.l0, if_neg (by omega), List.take_of_length_le (by omega)]
  | succ n ih =>
    intro i hi
    have hd := rd_figs hf i
    have h1 := Int.emod_nonneg (num (l.take i)) (show m ≠ 0 by omega)
    have h2 := Int.emod_lt_of_pos (num (l.take i)) (show 0 < m by omega)
    rw [oper_Mod.l0, if_pos (by omega), if_pos (by omega), if_pos (by omega), if_neg (by omega)]
    rw [w64 (_ * 10) (by omega) (by omega), w64 (rd l i) (by omega) (by omega), w64 (_ + _) (by omega) (by omega), w64 ((i : Int) + 1) (by omega) (by omega)]
    rw [Int.tmod_eq_emod_of_nonneg (by omega), mod_step]
    have := ih (i + 1) (by omega)
    rw [take_succ_snoc l i (by omega), num_snoc] at this
    simpa using this
theorem mod_ev {l : List Int} (hf : Figs l) (hl : l.length ≤ 1000000) {m : Int} (hm : 1 ≤ m ∧ m ≤ 1000000000) : Ev (fun k => oper_Mod.f k l m) (num l % m) := by
  refine Ev.of (k := l.length + 1) (fun k => oper_Mod.mono _ _ k) ?_
  unfold oper_Mod.f
  have := mod_l0 hf hl hm l.length 0 (by omega)
  simpa [num_nil] using this
theorem figsB_iff {l : List Int} (hw : ∀ b_ ∈ l, (Lit.int .u8 b_).wf = true) : figsB l = true ↔ Figs l := by
  unfold figsB
  constructor
  · intro h x hx
    have h1 := wf_u8 (hw x hx)
    simp only [Bool.not_eq_true', List.any_eq_false] at h
    have := h x hx
    simp at this
    omega
  · intro h
    simp only [Bool.not_eq_true', List.any_eq_false]
    intro x hx
    have := h x hx
    simp; omega
/-- An Oper is right. -/
def RightO (i f : List Int) (w c : Int) : Prop := figsB i = true ∧ figsB f = true ∧ Bare i ∧ w = (fullN f : Int) ∧ 0 ≤ c ∧ c ≤ 1000
instance (l : List Int) : Decidable (Bare l) := by unfold Bare; exact inferInstance
instance (i f : List Int) (w c : Int) : Decidable (RightO i f w c) := by unfold RightO; exact inferInstance
theorem rightO_f (i f : List Int) (w c : Int) : oper_Right.f i f w c = some (decide (RightO i f w c)) := by
  unfold oper_Right.f RightO
  have e : decide ((bareL i).length = i.length) = decide (Bare i) := by rw [decide_eq_decide]; exact bareL_same i
  rw [e]
  congr 1
  rw [Bool.eq_iff_iff]
  simp only [Bool.and_eq_true, decide_eq_true_eq]
  exact decide_eq_true_iff.symm
theorem rightO_ev (i f : List Int) (w c : Int) (_ : f.length ≤ 1000000000) : Ev (fun _ => oper_Right.f i f w c) (decide (RightO i f w c)) := by
  rw [rightO_f]
  exact Ev.now _
/-- What Of answers. -/
def ofR (a b : List Int) (c : Int) : List Int × List Int × Int × Int × Int := if figsB a = true ∧ figsB b = true ∧ 0 ≤ c ∧ c ≤ 1000 then (bareL a, b, (fullN b : Int), c, 0) else ([], [], 0, 0, 1)
theorem figsB_bare (l : List Int) : figsB (bareL l) = figsB l := by
  unfold figsB
  congr 1
  induction l with
  | nil => rfl
  | cons d l ih =>
    by_cases h : d = 0
    · subst h
      rw [bareL_zero, ih]
      simp
    · rw [bareL_other l h]
theorem of_ev (a b : List Int) (c : Int) (ha : a.length ≤ 1000000000) (hb : b.length ≤ 1000000000) : Ev (fun _ => oper_Of.f a b c) (ofR a b c) := by
  unfold oper_Of.f
  have ca : slices_Clone_byte_byte.f a = some a := by unfold slices_Clone_byte_byte.f; rw [if_pos (by omega)]
  have cb : slices_Clone_byte_byte.f b = some b := by unfold slices_Clone_byte_byte.f; rw [if_pos (by omega)]
  rw [ca, cb]
  simp only [Option.bind_some]
  refine Ev.bind (bare_ev a) ?_
  refine Ev.bind (full_ev b hb) ?_
  refine Ev.bind (rightO_ev (bareL a) b (fullN b : Int) c hb) ?_
  unfold ofR
  have e : RightO (bareL a) b (fullN b : Int) c ↔ (figsB a = true ∧ figsB b = true ∧ 0 ≤ c ∧ c ≤ 1000) := by
    unfold RightO
    rw [figsB_bare]
    exact ⟨fun h => ⟨h.1, h.2.1, h.2.2.2.2.1, h.2.2.2.2.2⟩, fun h => ⟨h.1, h.2.1, bareL_bare a, rfl, h.2.2.1, h.2.2.2⟩⟩
  by_cases h : RightO (bareL a) b (fullN b : Int) c
  · simp only [decide_eq_true h, if_true, if_pos (e.1 h)]
    exact Ev.now _
  · simp only [decide_eq_false h, Bool.false_eq_true, if_false, if_neg (fun z => h (e.2 z))]
    exact Ev.now _
/-- What Operand answers of a right Oper. -/
def operandR (i f : List Int) (w c : Int) (name : Int) : List Int × Bool :=
  if name = 110 then (if w > 0 then ([], false) else (i, true)) else if name = 105 then (i, true) else if name = 118 then (ndL f.length, true) else if name = 119 then (ndL w, true)
  else if name = 102 then (bareL f, true) else if name = 116 then (bareL (f.take w.toNat), true) else if name = 99 then (ndL c, true) else if name = 101 then (ndL c, true) else ([], false)
theorem wholeO_ev {g : Nat → Option (List Int)} {r : List Int} (h : Ev g r) : Ev (fun k => wholeO (g k)) (r, true) := Ev.bind h (Ev.now _)
theorem operand_ev (i f : List Int) (w c : Int) (name : Int) (hf : f.length ≤ 1000000000) (hw : 0 ≤ w ∧ w ≤ f.length) (hc : 0 ≤ c ∧ c ≤ 1000) : Ev (fun _ => oper_Operand.f i f w c name) (operandR i f w c name) := by
  unfold oper_Operand.f operandR
  by_cases h1 : name = 110
  · simp only [if_pos h1]
    by_cases h2 : w > 0
    · simp only [if_pos h2]; exact Ev.now _
    · simp only [if_neg h2]; exact Ev.now _
  simp only [if_neg h1]
  by_cases h1 : name = 105
  · simp only [if_pos h1]; exact Ev.now _
  simp only [if_neg h1]
  by_cases h1 : name = 118
  · simp only [if_pos h1]
    refine wholeO_ev ?_
    unfold oper_told_v.f
    rw [number_f (by omega) (by omega)]
    exact Ev.now _
  simp only [if_neg h1]
  by_cases h1 : name = 119
  · simp only [if_pos h1]
    refine wholeO_ev ?_
    unfold oper_told_w.f
    rw [number_f (by omega) (by omega)]
    exact Ev.now _
  simp only [if_neg h1]
  by_cases h1 : name = 102
  · simp only [if_pos h1]
    refine wholeO_ev ?_
    unfold oper_told_f.f
    exact Ev.now _
  simp only [if_neg h1]
  by_cases h1 : name = 116
  · simp only [if_pos h1]
    refine wholeO_ev ?_
    unfold oper_told_t.f
    simp only [if_pos hw.1, if_pos hw.2]
    exact Ev.now _
  simp only [if_neg h1]
  by_cases h1 : name = 99
  · simp only [if_pos h1]
    refine wholeO_ev ?_
    unfold oper_told_c.f
    rw [number_f (by omega) (by omega)]
    exact Ev.now _
  simp only [if_neg h1]
  by_cases h1 : name = 101
  · simp only [if_pos h1]
    refine wholeO_ev ?_
    unfold oper_told_c.f
    rw [number_f (by omega) (by omega)]
    exact Ev.now _
  simp only [if_neg h1]
  exact Ev.now _
end Go.Proofs.YtekinhnempbioaaDoor.PZ
