/- oper's functions and the document's, plainly: what figures leave over, whether they are between two numbers, and what a written number tells.
   Conditions: the rows are short, their bytes are bytes. -/
import Derived.Test.YtekinhnempbioaaDoorPZx1
import Derived.Test.YtekinhnempbioaaDoorPZx5
import Derived.Test.YtekinhnempbioaaDoorPZx10
import Derived.Test.YtekinhnempbioaaDoorPZx8
import Derived.Test.YtekinhnempbioaaDoorPZx9
import Derived.Test.YtekinhnempbioaaDoorOperand
import Derived.Test.YtekinhnempbioaaDoorPureRow
import Derived.Test.YtekinhnempbioaaDoorDigs
set_option linter.unusedSimpArgs false
set_option linter.unusedVariables false
namespace Go.Proofs.YtekinhnempbioaaDoor.PZ
open Go.RowKit Go.Proofs.YtekinhnempbioaaDoorW.PrintWords Go.Proofs.YtekinhnempbioaaDoorW.PrintLast
/-- Figures without noughts ahead. -/
def bareL (l : List Int) : List Int := l.dropWhile fun d => decide (d = 0)
theorem bareL_nil : bareL [] = [] := rfl
theorem bareL_zero (l : List Int) : bareL (0 :: l) = bareL l := rfl
theorem bareL_other {d : Int} (l : List Int) (h : d ≠ 0) : bareL (d :: l) = d :: l := by unfold bareL; rw [List.dropWhile_cons_of_neg (by simpa using h)]
theorem bareL_figs {l : List Int} (h : Figs l) : Figs (bareL l) := fun x hx => h x ((List.dropWhile_sublist _).subset hx)
theorem bareL_len (l : List Int) : (bareL l).length ≤ l.length := (List.dropWhile_sublist _).length_le
theorem bareL_num (l : List Int) : num (bareL l) = num l := by
  induction l with
  | nil => rfl
  | cons d l ih =>
    by_cases h : d = 0
    · subst h; rw [bareL_zero, ih, num_cons]; omega
    · rw [bareL_other l h]
/-- Without noughts ahead. -/
def Bare (l : List Int) : Prop := l = [] ∨ rd l 0 ≠ 0
theorem bareL_bare (l : List Int) : Bare (bareL l) := by
  induction l with
  | nil => exact .inl rfl
  | cons d l ih =>
    by_cases h : d = 0
    · subst h; exact ih
    · rw [bareL_other l h]; exact .inr (by simpa [rd] using h)
theorem bareL_of {l : List Int} (h : Bare l) : bareL l = l := by
  cases l with
  | nil => rfl
  | cons d l =>
    rcases h with h | h
    · cases h
    · exact bareL_other l (by simpa [rd] using h)
theorem bareL_same (l : List Int) : (bareL l).length = l.length ↔ Bare l := by
  constructor
  · intro h
    cases l with
    | nil => exact .inl rfl
    | cons d l =>
      by_cases hd : d = 0
      · subst hd
        rw [bareL_zero] at h
        have := bareL_len l
        simp at h
        omega
      · exact .inr (by simpa [rd] using hd)
  · intro h; rw [bareL_of h]
theorem Ev_id {α : Type} {g : Nat → Option α} {r : α} (h : Ev g r) : Ev (fun n => (g n).bind fun t => some t) r := Ev.bind h (Ev.now r)
theorem len_cons_pos (d : Int) (l : List Int) : (((d :: l).length : Nat) : Int) > 0 := by simp
theorem trimL_ev (l : List Int) : Ev (fun k => bytes_trimLeftByte.l0 k l 0) (bareL l) := by
  induction l with
  | nil =>
    refine Ev_shift ?_
    have h1 : ¬ ((([] : List Int).length : Nat) : Int) > 0 := by decide
    have h2 : ((([] : List Int).length : Nat) : Int) = 0 := rfl
    simp only [bytes_trimLeftByte.l0, if_neg h1, if_pos h2]
    exact Ev.now _
  | cons d l ih =>
    refine Ev_shift ?_
    have h1 := len_cons_pos d l
    have h2 : (0 : Int) < (((d :: l).length : Nat) : Int) := h1
    have h3 : (1 : Int) ≤ (((d :: l).length : Nat) : Int) := h1
    have h4 : ¬ (((d :: l).length : Nat) : Int) = 0 := by omega
    have h5 : rd (d :: l) 0 = d := rfl
    simp only [bytes_trimLeftByte.l0, if_pos h1, if_pos h2, if_pos h3, if_neg h4, h5, List.drop_succ_cons, List.drop_zero]
    by_cases hd : d = 0
    · subst hd
      simp only [if_true]
      exact ih
    · simp only [if_neg hd, bareL_other l hd]
      exact Ev.now _
theorem nul_toList : ¬ ((⟨#[0]⟩ : ByteArray).toList = ([] : List UInt8)) := by simp [ByteArray.toList, ByteArray.toList.loop, ByteArray.size]
theorem nul_bt : bt (⟨#[0]⟩ : ByteArray) 0 = 0 := rfl
theorem nul_ascii : decide (bt (⟨#[0]⟩ : ByteArray) 0 < 128) = true := decide_eq_true (by rw [nul_bt]; decide)
theorem nul_size : (((⟨#[0]⟩ : ByteArray).size : Nat) : Int) = 1 := rfl
theorem bare_ev (l : List Int) : Ev (fun k => oper_bare.f k l) (bareL l) := by
  unfold oper_bare.f bytes_TrimLeft.f
  simp only [nul_toList, nul_size, nul_ascii, if_false, if_true]
  by_cases h0 : (l.length : Int) = 0
  · have : l = [] := List.eq_nil_of_length_eq_zero (by omega)
    subst this
    simp only [if_pos h0, Option.bind_some]
    exact Ev.now _
  · simp only [if_neg h0, if_pos (show (0 : Int) < 1 by decide)]
    refine Ev_id ?_
    refine Ev_shift ?_
    simp only [bytes_TrimLeft.j0, if_true, nul_size, nul_bt, if_pos (show (0 : Int) < 1 by decide)]
    refine Ev_id ?_
    exact trimL_ev l
/-- How long figures are without noughts at their end. -/
def fullN (l : List Int) : Nat := (l.reverse.dropWhile fun d => decide (d = 0)).length
theorem fullN_nil : fullN [] = 0 := rfl
theorem fullN_zero (l : List Int) : fullN (l ++ [0]) = fullN l := by unfold fullN; rw [List.reverse_append]; rfl
theorem fullN_other (l : List Int) {d : Int} (h : d ≠ 0) : fullN (l ++ [d]) = l.length + 1 := by
  unfold fullN
  rw [List.reverse_append]
  simp [h]
theorem fullN_le (l : List Int) : fullN l ≤ l.length := by
  unfold fullN
  have := (List.dropWhile_sublist (fun d : Int => decide (d = 0)) (l := l.reverse)).length_le
  simpa using this
theorem rd_snoc (l : List Int) (d : Int) : rd (l ++ [d]) (l.length : Int) = d := by
  rw [rd_append_right _ _ _ (Nat.le_refl _), Nat.sub_self]
  rfl
theorem trimR_ev (n : Nat) : ∀ l : List Int, l.length = n → l.length ≤ 1000000000 → Ev (fun k => bytes_trimRightByte.l0 k l 0) (l.take (fullN l)) := by
  induction n with
  | zero =>
    intro l hl _
    have : l = [] := List.eq_nil_of_length_eq_zero hl
    subst this
    refine Ev_shift ?_
    have h1 : ¬ ((([] : List Int).length : Nat) : Int) > 0 := by decide
    simp only [bytes_trimRightByte.l0, if_neg h1]
    exact Ev.now _
  | succ n ih =>
    intro l hl hm
    obtain ⟨a, d, rfl⟩ := eq_snoc l (by omega)
    have ha : a.length = n := by simpa using hl
    refine Ev_shift ?_
    have h0 : (((a ++ [d]).length : Nat) : Int) = (a.length : Int) + 1 := by simp
    have h1 : (a.length : Int) + 1 > 0 := by omega
    have h2 : wrap64 ((a.length : Int) + 1 - 1) = (a.length : Int) := by rw [w64 _ (by omega) (by omega)]; omega
    have h3 : (0 : Int) ≤ (a.length : Int) := by omega
    have h4 : (a.length : Int) < (a.length : Int) + 1 := by omega
    have h5 : (a.length : Int) ≤ (a.length : Int) + 1 := by omega
    simp only [bytes_trimRightByte.l0, h0, h2, if_pos h1, if_pos h3, if_pos h4, if_pos h5, rd_snoc, Int.toNat_natCast]
    by_cases hd : d = 0
    · subst hd
      simp only [if_true, fullN_zero]
      have e1 : (a ++ [0]).take a.length = a := by simp
      have e2 : (a ++ [(0 : Int)]).take (fullN a) = a.take (fullN a) := List.take_append_of_le_length (fullN_le a)
      rw [e1, e2]
      exact ih a ha (by omega)
    · simp only [if_neg hd, fullN_other a hd]
      have e1 : (a ++ [d]).take (a.length + 1) = a ++ [d] := List.take_of_length_le (by simp)
      rw [e1]
      exact Ev.now _
theorem full_ev (l : List Int) (hm : l.length ≤ 1000000000) : Ev (fun k => oper_full.f k l) (fullN l : Int) := by
  unfold oper_full.f bytes_TrimRight.f
  have hn : ((⟨#[0]⟩ : ByteArray).toList == ([] : List UInt8)) = false := by simp [nul_toList]
  simp only [hn]
  refine Ev.bind (a := l.take (fullN l)) ?_ ?_
  · by_cases h0 : (l.length : Int) = 0
    · have : l = [] := List.eq_nil_of_length_eq_zero (by omega)
      subst this
      simp only [if_pos h0]
      refine Ev_shift ?_
      simp only [bytes_TrimRight.j0, if_true]
      exact Ev.now _
    · simp only [if_neg h0]
      refine Ev_shift ?_
      simp only [bytes_TrimRight.j0, Bool.false_eq_true, if_false, nul_size, nul_ascii, if_true, if_pos (show (0 : Int) < 1 by decide)]
      refine Ev_shift ?_
      simp only [bytes_TrimRight.j1, if_true, nul_size, nul_bt, if_pos (show (0 : Int) < 1 by decide)]
      refine Ev_id ?_
      exact trimR_ev l.length l rfl hm
  · rw [List.length_take, Nat.min_eq_left (fullN_le l)]
    exact Ev.now _
/-- A number's figures; of 0 none. -/
def ndL (n : Int) : List Int := if n = 0 then [] else digsN n.toNat
theorem ndL_figs (n : Int) : Figs (ndL n) := by unfold ndL; split; exact Figs.nil; exact digsN_figs _
theorem ndL_num {n : Int} (h : 0 ≤ n) : num (ndL n) = n := by
  unfold ndL
  split
  · rename_i h0; rw [h0]; rfl
  · rw [digsN_num]; omega
theorem ndL_bare {n : Int} (h : 0 ≤ n) : Bare (ndL n) := by
  unfold ndL
  split
  · exact .inl rfl
  · have := digsN_first n.toNat (by omega)
    exact .inr (by omega)
theorem number_f {n : Int} (h : 0 ≤ n) (h1 : n ≤ 9223372036854775807) : oper_number.f n = some (ndL n) := by
  unfold oper_number.f ndL
  rw [if_pos ⟨by omega, h1⟩]
  split
  · rfl
  · unfold numText
    rw [bytes_list, itoa_map]
    unfold pw
    rw [if_neg (by omega), List.map_map]
    congr 1
    conv => rhs; rw [← List.map_id (digsN n.toNat)]
    apply List.map_congr_left
    intro d hd
    have := digsN_figs n.toNat d hd
    simp only [Function.comp_apply, chr, lessB, id]
    omega
theorem u8_lt {x y : Int} (hx : 0 ≤ x ∧ x ≤ 9) (hy : 0 ≤ y ∧ y ≤ 9) : x.toNat.toUInt8 < y.toNat.toUInt8 ↔ x < y := by
  rw [UInt8.lt_iff_toNat_lt]
  simp
  omega
theorem compare_num : ∀ (a b : List Int), Figs a → Figs b → a.length = b.length → Lib.compareBytes (Lib.bytesOf a) (Lib.bytesOf b) = sg (num a - num b)
  | [], [], _, _, _ => rfl
  | [], _ :: _, _, _, h => by simp at h
  | _ :: _, [], _, _, h => by simp at h
  | x :: a, y :: b, ha, hb, hl => by
    have hl' : a.length = b.length := by simpa using hl
    have ih := compare_num a b ha.tail hb.tail hl'
    have na := num_lt ha.tail
    have nb := num_lt hb.tail
    rw [hl'] at na
    have l1 := u8_lt ha.head hb.head
    have l2 := u8_lt hb.head ha.head
    rw [num_cons, num_cons, hl']
    show Lib.compareBytes (x.toNat.toUInt8 :: Lib.bytesOf a) (y.toNat.toUInt8 :: Lib.bytesOf b) = _
    unfold Lib.compareBytes
    by_cases h1 : x < y
    · rw [if_pos (l1.2 h1), sg_ahead na nb (by omega), sg_of_neg (by omega)]
    · rw [if_neg (fun z => h1 (l1.1 z))]
      by_cases h2 : y < x
      · rw [if_pos (l2.2 h2), sg_ahead na nb (by omega), sg_of_pos (by omega)]
      · have : x = y := by omega
        subst this
        rw [if_neg (fun z => h2 (l2.1 z)), ih]
        congr 1
        omega
theorem bare_lt {a b : List Int} (ha : Figs a) (hb : Figs b) (hB : Bare b) (h : a.length < b.length) : num a < num b := by
  have h1 := num_lt ha
  rcases hB with rfl | h0
  · simp at h
  · have f0 := rd_figs hb 0
    rw [Int.natCast_zero] at f0
    have h2 := num_pos hb (by omega) (by omega)
    have h3 := T10_le (show a.length ≤ b.length - 1 by omega)
    omega
theorem compared_f {a b : List Int} (ha : Figs a) (hb : Figs b) (hA : Bare a) (hB : Bare b) (la : a.length ≤ 1000000) (lb : b.length ≤ 1000000) : ∃ c, oper_compared.f a b = some c ∧ (c ≤ 0 ↔ num a ≤ num b) ∧ (c ≥ 0 ↔ num b ≤ num a) := by
  unfold oper_compared.f
  by_cases hl : a.length = b.length
  · rw [if_pos (by omega)]
    unfold bytes_Compare.f
    refine ⟨sg (num a - num b), by rw [compare_num a b ha hb hl]; rfl, ?_, ?_⟩
    · have h1 : ¬ 0 < sg (num a - num b) ↔ ¬ 0 < num a - num b := not_congr sg_pos
      omega
    · have h1 : ¬ sg (num a - num b) < 0 ↔ ¬ num a - num b < 0 := not_congr sg_lt
      omega
  · rw [if_neg (by omega), w64 _ (by omega) (by omega)]
    refine ⟨_, rfl, ?_⟩
    rcases Nat.lt_or_gt_of_ne hl with h | h
    · have := bare_lt ha hb hB h
      constructor <;> omega
    · have := bare_lt hb ha hA h
      constructor <;> omega
theorem ndL_len {n : Int} (h : 0 ≤ n) (h1 : n ≤ 9223372036854775807) : (ndL n).length ≤ 19 := by
  unfold ndL
  split
  · simp
  · exact digsN_length 18 n.toNat (by omega)
/-- In: between two numbers. -/
def inD (l : List Int) (from_ to_ : Int) : Bool := decide (0 ≤ to_ ∧ (0 ≤ from_ → from_ ≤ num l) ∧ num l ≤ to_)
theorem in_ev {l : List Int} (hf : Figs l) (hl : l.length ≤ 1000000) (x y : Int) (hx : -9223372036854775808 ≤ x ∧ x ≤ 9223372036854775807) (hy : -9223372036854775808 ≤ y ∧ y ≤ 9223372036854775807) : Ev (fun k => oper_In.f k l x y) (inD l x y) := by
  have hn := num_lt hf
  have hbl := bareL_len l
  unfold oper_In.f
  refine Ev.bind (bare_ev l) ?_
  by_cases h0 : y ≥ 0
  · have hmx : 0 ≤ mx x 0 ∧ mx x 0 ≤ 9223372036854775807 ∧ (mx x 0 ≤ num l ↔ (0 ≤ x → x ≤ num l)) := by
      unfold mx
      split
      · exact ⟨by omega, by omega, by omega⟩
      · exact ⟨by omega, by omega, by omega⟩
    have l1 := ndL_len hmx.1 hmx.2.1
    have l2 := ndL_len h0 hy.2
    obtain ⟨c, hc, c1, c2⟩ := compared_f (bareL_figs hf) (ndL_figs (mx x 0)) (bareL_bare l) (ndL_bare hmx.1) (by omega) (by omega)
    obtain ⟨d, hd, d1, d2⟩ := compared_f (bareL_figs hf) (ndL_figs y) (bareL_bare l) (ndL_bare h0) (by omega) (by omega)
    rw [bareL_num, ndL_num hmx.1] at c1 c2
    rw [bareL_num, ndL_num h0] at d1 d2
    simp only [if_pos h0, number_f hmx.1 hmx.2.1, number_f h0 hy.2, Option.bind_some, hc, hd]
    by_cases hc0 : c ≥ 0
    · simp only [if_pos hc0]
      have : decide (d ≤ 0) = inD l x y := by
        unfold inD
        rw [decide_eq_decide]
        have := hmx.2.2.1 (c2.1 hc0)
        constructor
        · intro h; exact ⟨h0, this, d1.1 h⟩
        · intro h; exact d1.2 h.2.2
      rw [this]
      exact Ev.now _
    · simp only [if_neg hc0]
      have : inD l x y = false := by
        unfold inD
        rw [decide_eq_false_iff_not]
        intro h
        exact hc0 (c2.2 (hmx.2.2.2 h.2.1))
      rw [this]
      exact Ev.now _
  · simp only [if_neg h0]
    have : inD l x y = false := by
      unfold inD
      rw [decide_eq_false_iff_not]
      intro h
      omega
    rw [this]
    exact Ev.now _
theorem take_succ_snoc (l : List Int) (k : Nat) (hk : k < l.length) : l.take (k + 1) = l.take k ++ [rd l k] := by
  rw [List.take_succ_eq_append_getElem hk]
  congr 2
  simp [rd, List.getD_eq_getElem?_getD, List.getElem?_eq_getElem hk]
theorem mod_step (a d m : Int) : (a % m * 10 + d) % m = (a * 10 + d) % m := by
  rw [Int.add_emod, Int.mul_emod, Int.emod_emod, ← Int.mul_emod, ← Int.add_emod]
theorem mod_l0 {l : List Int} (hf : Figs l) (hl : l.length ≤ 1000000) {m : Int} (hm : 1 ≤ m ∧ m ≤ 1000000000) (n : Nat) : ∀ i : Nat, i + n = l.length → oper_Mod.l0 (n + 1) m (num (l.take i) % m) l (l.length : Int) (i : Int) = some (num l % m) := by
  induction n with
  | zero =>
    intro i hi
    rw [oper_Mod.l0, if_neg (by omega), List.take_of_length_le (by omega)]
  | succ n ih =>
    intro i hi
    have hd := rd_figs hf i
    have h1 := Int.emod_nonneg (num (l.take i)) (show m ≠ 0 by omega)
    have h2 := Int.emod_lt_of_pos (num (l.take i)) (show 0 < m by omega)
    rw [oper_Mod.l0, if_pos (by omega), if_pos (by omega), if_pos (by omega), if_neg (by omega)]
    rw [w64 (_ * 10) (by omega) (by omega), w64 (rd l i) (by omega) (by omega), w64 (_ + _) (by omega) (by omega), w64 ((i : Int) + 1) (by omega) (by omega)]
    rw [Int.tmod_eq_emod_of_nonneg (by omega), mod_step]
    have := ih (i + 1) (by omega)
    rw [take_succ_snoc l i (by omega), num_snoc] at this
    simpa using this
theorem mod_ev {l : List Int} (hf : Figs l) (hl : l.length ≤ 1000000) {m : Int} (hm : 1 ≤ m ∧ m ≤ 1000000000) : Ev (fun k => oper_Mod.f k l m) (num l % m) := by
  refine Ev.of (k := l.length + 1) (fun k => oper_Mod.mono _ _ k) ?_
  unfold oper_Mod.f
  have := mod_l0 hf hl hm l.length 0 (by omega)
  simpa [num_nil] using this
/-- The figures of a row are figures: as a test. -/
def figsB (l : List Int) : Bool := !(l.any fun c => decide (c > 9))
theorem figsB_iff {l : List Int} (hw : ∀ b_ ∈ l, (Lit.int .u8 b_).wf = true) : figsB l = true ↔ Figs l := by
  unfold figsB
  constructor
  · intro h x hx
    have h1 := wf_u8 (hw x hx)
    simp only [Bool.not_eq_true', List.any_eq_false] at h
    have := h x hx
    simp at this
    omega
  · intro h
    simp only [Bool.not_eq_true', List.any_eq_false]
    intro x hx
    have := h x hx
    simp; omega
/-- An Oper is right. -/
def RightO (i f : List Int) (w c : Int) : Prop := figsB i = true ∧ figsB f = true ∧ Bare i ∧ w = (fullN f : Int) ∧ 0 ≤ c ∧ c ≤ 1000
instance (l : List Int) : Decidable (Bare l) := by unfold Bare; exact inferInstance
instance (i f : List Int) (w c : Int) : Decidable (RightO i f w c) := by unfold RightO; exact inferInstance
theorem contO_f (l : List Int) : slices_ContainsFunc_byte_byte.f l 40 = some (!figsB l) := by
  unfold slices_ContainsFunc_byte_byte.f figsB
  rw [if_pos rfl, Bool.not_not]
theorem rightO_ev (i f : List Int) (w c : Int) (hl : f.length ≤ 1000000000) : Ev (fun k => oper_Right.f k i f w c) (decide (RightO i f w c)) := by
  unfold oper_Right.f
  simp only [contO_f, Option.bind_some]
  cases h1 : figsB i with
  | false =>
    simp only [Bool.not_false, if_true]
    have : decide (RightO i f w c) = false := by rw [decide_eq_false_iff_not]; unfold RightO; rw [h1]; simp
    rw [this]
    exact Ev.now _
  | true =>
    simp only [Bool.not_true, Bool.false_eq_true, if_false]
    cases h2 : figsB f with
    | false =>
      simp only [Bool.not_false, if_true]
      have : decide (RightO i f w c) = false := by rw [decide_eq_false_iff_not]; unfold RightO; rw [h2]; simp
      rw [this]
      exact Ev.now _
    | true =>
      simp only [Bool.not_true, Bool.false_eq_true, if_false]
      refine Ev.bind (bare_ev i) ?_
      by_cases h3 : Bare i
      · have e3 : ((bareL i).length : Int) = (i.length : Int) := by have := (bareL_same i).2 h3; omega
        simp only [if_pos e3]
        refine Ev.bind (full_ev f hl) ?_
        by_cases h4 : w = (fullN f : Int)
        · simp only [if_pos h4]
          by_cases h5 : c ≥ 0
          · simp only [if_pos h5]
            have : decide (c ≤ 1000) = decide (RightO i f w c) := by
              rw [decide_eq_decide]
              unfold RightO
              exact ⟨fun h => ⟨h1, h2, h3, h4, h5, h⟩, fun h => h.2.2.2.2.2⟩
            rw [this]
            exact Ev.now _
          · simp only [if_neg h5]
            have : decide (RightO i f w c) = false := by rw [decide_eq_false_iff_not]; rintro ⟨_, _, _, _, h, _⟩; exact h5 h
            rw [this]
            exact Ev.now _
        · simp only [if_neg h4]
          have : decide (RightO i f w c) = false := by rw [decide_eq_false_iff_not]; rintro ⟨_, _, _, h, _⟩; exact h4 h
          rw [this]
          exact Ev.now _
      · have e3 : ¬ ((bareL i).length : Int) = (i.length : Int) := fun h => h3 ((bareL_same i).1 (by omega))
        simp only [if_neg e3]
        have : decide (RightO i f w c) = false := by rw [decide_eq_false_iff_not]; rintro ⟨_, _, h, _⟩; exact h3 h
        rw [this]
        exact Ev.now _
/-- What Of answers. -/
def ofR (a b : List Int) (c : Int) : List Int × List Int × Int × Int × Int := if figsB a = true ∧ figsB b = true ∧ 0 ≤ c ∧ c ≤ 1000 then (bareL a, b, (fullN b : Int), c, 0) else ([], [], 0, 0, 1)
theorem figsB_bare (l : List Int) : figsB (bareL l) = figsB l := by
  unfold figsB
  congr 1
  induction l with
  | nil => rfl
  | cons d l ih =>
    by_cases h : d = 0
    · subst h
      rw [bareL_zero, ih]
      simp
    · rw [bareL_other l h]
theorem of_ev (a b : List Int) (c : Int) (ha : a.length ≤ 1000000000) (hb : b.length ≤ 1000000000) : Ev (fun k => oper_Of.f k a b c) (ofR a b c) := by
  unfold oper_Of.f
  have ca : slices_Clone_byte_byte.f a = some a := by unfold slices_Clone_byte_byte.f; rw [if_pos (by omega)]
  have cb : slices_Clone_byte_byte.f b = some b := by unfold slices_Clone_byte_byte.f; rw [if_pos (by omega)]
  rw [ca, cb]
  simp only [Option.bind_some]
  refine Ev.bind (bare_ev a) ?_
  refine Ev.bind (full_ev b hb) ?_
  refine Ev.bind (rightO_ev (bareL a) b (fullN b : Int) c hb) ?_
  unfold ofR
  have e : RightO (bareL a) b (fullN b : Int) c ↔ (figsB a = true ∧ figsB b = true ∧ 0 ≤ c ∧ c ≤ 1000) := by
    unfold RightO
    rw [figsB_bare]
    exact ⟨fun h => ⟨h.1, h.2.1, h.2.2.2.2.1, h.2.2.2.2.2⟩, fun h => ⟨h.1, h.2.1, bareL_bare a, rfl, h.2.2.1, h.2.2.2⟩⟩
  by_cases h : RightO (bareL a) b (fullN b : Int) c
  · simp only [decide_eq_true h, if_true, if_pos (e.1 h)]
    exact Ev.now _
  · simp only [decide_eq_false h, Bool.false_eq_true, if_false, if_neg (fun z => h (e.2 z))]
    exact Ev.now _
/-- What Operand answers of a right Oper. -/
def operandR (i f : List Int) (w c : Int) (name : Int) : List Int × Bool :=
  if name = 110 then (if w > 0 then ([], false) else (i, true)) else if name = 105 then (i, true) else if name = 118 then (ndL f.length, true) else if name = 119 then (ndL w, true)
  else if name = 102 then (bareL f, true) else if name = 116 then (bareL (f.take w.toNat), true) else if name = 99 then (ndL c, true) else if name = 101 then (ndL c, true) else ([], false)
theorem wholeO_ev {g : Nat → Option (List Int)} {r : List Int} (h : Ev g r) : Ev (fun k => wholeO (g k)) (r, true) := Ev.bind h (Ev.now _)
theorem operand_ev (i f : List Int) (w c : Int) (name : Int) (hf : f.length ≤ 1000000000) (hw : 0 ≤ w ∧ w ≤ f.length) (hc : 0 ≤ c ∧ c ≤ 1000) : Ev (fun k => oper_Operand.f k i f w c name) (operandR i f w c name) := by
  unfold oper_Operand.f operandR
  by_cases h1 : name = 110
  · simp only [if_pos h1]
    by_cases h2 : w > 0
    · simp only [if_pos h2]; exact Ev.now _
    · simp only [if_neg h2]; exact Ev.now _
  simp only [if_neg h1]
  by_cases h1 : name = 105
  · simp only [if_pos h1]; exact Ev.now _
  simp only [if_neg h1]
  by_cases h1 : name = 118
  · simp only [if_pos h1]
    refine wholeO_ev ?_
    unfold oper_told_v.f
    rw [number_f (by omega) (by omega)]
    exact Ev.now _
  simp only [if_neg h1]
  by_cases h1 : name = 119
  · simp only [if_pos h1]
    refine wholeO_ev ?_
    unfold oper_told_w.f
    rw [number_f (by omega) (by omega)]
    exact Ev.now _
  simp only [if_neg h1]
  by_cases h1 : name = 102
  · simp only [if_pos h1]
    refine wholeO_ev ?_
    unfold oper_told_f.f
    exact Ev_id (bare_ev f)
  simp only [if_neg h1]
  by_cases h1 : name = 116
  · simp only [if_pos h1]
    refine wholeO_ev ?_
    unfold oper_told_t.f
    simp only [if_pos hw.1, if_pos hw.2]
    exact Ev_id (bare_ev _)
  simp only [if_neg h1]
  by_cases h1 : name = 99
  · simp only [if_pos h1]
    refine wholeO_ev ?_
    unfold oper_told_c.f
    rw [number_f (by omega) (by omega)]
    exact Ev.now _
  simp only [if_neg h1]
  by_cases h1 : name = 101
  · simp only [if_pos h1]
    refine wholeO_ev ?_
    unfold oper_told_c.f
    rw [number_f (by omega) (by omega)]
    exact Ev.now _
  simp only [if_neg h1]
  exact Ev.now _
end Go.Proofs.YtekinhnempbioaaDoor.PZ
