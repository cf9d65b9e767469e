/- A number's text as a row of bytes, and what dec.Read makes of any row, plainly.
   Conditions: none. -/
import Derived.Test.YtahkamggdbibiaaDoorDecRead
import Derived.Test.YtahkamggdbibiaaDoorDecText
import Derived.Test.YtahkamggdbibiaaDoorPureCmp
set_option linter.unusedSimpArgs false
set_option linter.unusedVariables false
namespace Go.Proofs.YtahkamggdbibiaaDoor.PZ
open Go.RowKit Go.Proofs.YtahkamggdbibiaaDoorW.PrintWords Go.Proofs.YtahkamggdbibiaaDoorW.PrintLast
/-- A whole number's figures. -/
def digsN (u : Nat) : List Int := if h : u < 10 then [(u : Int)] else digsN (u / 10) ++ [((u % 10 : Nat) : Int)]
termination_by u
decreasing_by omega
theorem digsN_small {u : Nat} (h : u < 10) : digsN u = [(u : Int)] := by rw [digsN, dif_pos h]
theorem digsN_big {u : Nat} (h : ¬ u < 10) : digsN u = digsN (u / 10) ++ [((u % 10 : Nat) : Int)] := by rw [digsN, dif_neg h]
theorem digsN_figs (u : Nat) : Figs (digsN u) := by
  induction u using Nat.strongRecOn with
  | _ u ih =>
    by_cases h : u < 10
    · rw [digsN_small h]
      exact Figs.cons (by omega) (by omega) Figs.nil
    · rw [digsN_big h]
      exact (ih (u / 10) (by omega)).append (Figs.cons (by omega) (by omega) Figs.nil)
theorem digsN_num (u : Nat) : num (digsN u) = u := by
  induction u using Nat.strongRecOn with
  | _ u ih =>
    by_cases h : u < 10
    · rw [digsN_small h, num_one]
    · rw [digsN_big h, num_snoc, ih (u / 10) (by omega)]
      omega
theorem digsN_pos (u : Nat) : 0 < (digsN u).length := by
  by_cases h : u < 10
  · rw [digsN_small h]; simp
  · rw [digsN_big h]; simp
theorem digsN_first (u : Nat) (hu : 0 < u) : 0 < rd (digsN u) 0 := by
  induction u using Nat.strongRecOn with
  | _ u ih =>
    by_cases h : u < 10
    · rw [digsN_small h]
      simpa [rd] using hu
    · rw [digsN_big h]
      have := rd_append_left (digsN (u / 10)) [((u % 10 : Nat) : Int)] 0 (digsN_pos _)
      rw [Int.natCast_zero] at this
      rw [this]
      exact ih (u / 10) (by omega) (by omega)
theorem digsN_length (k : Nat) : ∀ u : Nat, u < 10 ^ (k + 1) → (digsN u).length ≤ k + 1 := by
  induction k with
  | zero => intro u h; rw [digsN_small (by simpa using h)]; simp
  | succ k ih =>
    intro u h
    by_cases h1 : u < 10
    · rw [digsN_small h1]; simp
    · rw [digsN_big h1, List.length_append]
      have := ih (u / 10) (by rw [Nat.pow_succ] at h; omega)
      simpa using this
theorem eq_snoc {α : Type} (l : List α) (h : 0 < l.length) : ∃ a x, l = a ++ [x] := by
  refine ⟨l.dropLast, l.getLast (List.length_pos_iff.1 h), ?_⟩
  exact (List.dropLast_concat_getLast _).symm
theorem digsN_of (n : Nat) : ∀ l : List Int, l.length = n + 1 → Figs l → (0 < rd l 0 ∨ l.length = 1) → digsN (num l).toNat = l := by
  induction n with
  | zero =>
    intro l hl hf _
    cases l with
    | nil => simp at hl
    | cons d l =>
      have : l = [] := List.eq_nil_of_length_eq_zero (by simpa using hl)
      subst this
      have := hf.head
      rw [num_one, digsN_small (by omega)]
      congr 1
      omega
  | succ n ih =>
    intro l hl hf h0
    have h0 : 0 < rd l 0 := by omega
    obtain ⟨a, d, rfl⟩ := eq_snoc l (by omega)
    have ha : a.length = n + 1 := by simpa using hl
    have hd := (hf.right).head
    have r0 := rd_append_left a [d] 0 (by omega)
    rw [Int.natCast_zero] at r0
    rw [r0] at h0
    have hp := num_pos hf.left (by omega) h0
    have hp' := T10_pos (a.length - 1)
    have e := ih a ha hf.left (.inl h0)
    rw [num_snoc, digsN_big (by omega)]
    have e1 : (num a * 10 + d).toNat / 10 = (num a).toNat := by omega
    have e2 : (((num a * 10 + d).toNat % 10 : Nat) : Int) = d := by omega
    rw [e1, e2, e]
def chr (d : Int) : Int := 48 + d
/-- A power's text; a number's. -/
def pw (e : Int) : List Int := if e < 0 then 45 :: (digsN e.natAbs).map chr else (digsN e.toNat).map chr
def figT (l : List Int) : List Int := if l.length = 0 then [48] else l.map chr
def txt (g : Bool) (l : List Int) (e : Int) : List Int := (if g then [45] else []) ++ (figT l ++ 101 :: pw e)
theorem bytes_list (l : List UInt8) : bytesOf ⟨l.toArray⟩ = l.map fun b => (b.toNat : Int) := by unfold bytesOf; rfl
theorem decDigits_map (u : Nat) : ((Lib.decDigits u).map fun b => (b.toNat : Int)) = (digsN u).map chr := by
  induction u using Nat.strongRecOn with
  | _ u ih =>
    by_cases h : u < 10
    · rw [digsN_small h, Lib.decDigits, dif_pos h]
      simp only [List.map_cons, List.map_nil, chr]
      congr 1
      simp [UInt8.toNat_ofNat']
      omega
    · rw [digsN_big h, Lib.decDigits, dif_neg h, List.map_append, List.map_append, ih (u / 10) (by omega)]
      congr 1
      simp only [List.map_cons, List.map_nil, chr]
      congr 1
      simp [UInt8.toNat_ofNat']
      omega
theorem itoa_map (e : Int) : ((Lib.itoa e).map fun b => (b.toNat : Int)) = pw e := by
  unfold Lib.itoa pw
  split
  · rw [List.map_cons, decDigits_map]; rfl
  · rw [decDigits_map]
theorem figByte_map {l : List Int} (h : Figs l) : ((l.map figByte).map fun b => (b.toNat : Int)) = l.map chr := by
  rw [List.map_map]
  apply List.map_congr_left
  intro d hd
  have := h d hd
  simp [figByte, chr, UInt8.toNat_ofNat']
  omega
theorem text_bytes (g : Bool) {l : List Int} (e : Int) (h : Figs l) : bytesOf ⟨(decText g l e).toArray⟩ = txt g l e := by
  rw [bytes_list]
  unfold decText txt figT
  simp only [List.map_append, itoa_map, figByte_map h]
  cases g <;> by_cases hl : l.length = 0
  · rw [List.eq_nil_of_length_eq_zero hl]; rfl
  · simp [hl]
  · rw [List.eq_nil_of_length_eq_zero hl]; rfl
  · simp [hl]
theorem bytesOf_inj {s t : ByteArray} (h : bytesOf s = bytesOf t) : s = t := by
  unfold bytesOf at h
  have h1 : s.data.toList = t.data.toList := by
    refine List.map_inj_right (f := fun b : UInt8 => (b.toNat : Int)) ?_ |>.1 h
    intro x y hxy
    exact UInt8.toNat_inj.1 (Int.ofNat_inj.1 hxy)
  have h2 : s.data = t.data := by rw [← Array.toArray_toList (xs := s.data), h1, Array.toArray_toList]
  cases s; cases t; simpa using h2
theorem bytes_range {s : ByteArray} : ∀ c ∈ bytesOf s, 0 ≤ c ∧ c ≤ 255 := by
  intro c hc
  unfold bytesOf at hc
  obtain ⟨b, _, rfl⟩ := List.mem_map.1 hc
  have := b.toNat_lt
  exact ⟨by omega, by omega⟩
/-! What is read, of a row. -/
def isD (c : Int) : Bool := decide (48 ≤ c) && decide (c ≤ 57)
def run (most : Nat) (Y : List Int) : List Int := if Y.head? = some 48 then [] else (Y.takeWhile isD).take most
theorem hasB_eq (s : ByteArray) (a : Nat) (c : Int) : hasB s a c = decide (((bytesOf s).drop a).head? = some c) := by
  unfold hasB
  rw [← rd_bytesOf, List.head?_drop]
  by_cases h : a < s.size
  · have h' : a < (bytesOf s).length := by rw [bytesOf_length]; exact h
    simp [h, rd, List.getD_eq_getElem?_getD, List.getElem?_eq_getElem h']
  · have h' : ¬ a < (bytesOf s).length := by rw [bytesOf_length]; exact h
    simp [h, List.getElem?_eq_none (show (bytesOf s).length ≤ a by omega)]
theorem figB_eq (s : ByteArray) (fr most a : Nat) : figB s fr most a = true ↔ ∃ c Y, (bytesOf s).drop a = c :: Y ∧ a - fr < most ∧ isD c = true ∧ (fr < a ∨ c ≠ 48) := by
  unfold figB isD
  by_cases h : a < s.size
  · have h' : a < (bytesOf s).length := by rw [bytesOf_length]; exact h
    rw [← rd_bytesOf, drop_cons _ a h']
    simp only [Bool.and_eq_true, Bool.or_eq_true, decide_eq_true_eq, h, true_and, List.cons.injEq]
    constructor
    · rintro ⟨⟨⟨h1, h2⟩, h3⟩, h4⟩
      exact ⟨_, _, ⟨rfl, rfl⟩, h1, ⟨h2, h3⟩, h4⟩
    · rintro ⟨c, Y, ⟨rfl, rfl⟩, h1, ⟨h2, h3⟩, h4⟩
      exact ⟨⟨⟨h1, h2⟩, h3⟩, h4⟩
  · simp only [Bool.and_eq_true, Bool.or_eq_true, decide_eq_true_eq, h, false_and, false_iff]
    rintro ⟨c, Y, h1, _⟩
    rw [List.drop_of_length_le (by rw [bytesOf_length]; omega)] at h1
    cases h1
theorem figEnd_run (s : ByteArray) (fr most : Nat) (k : Nat) : ∀ a, fr < a → s.size ≤ a + k → figEnd s fr most k a = a + ((((bytesOf s).drop a).takeWhile isD).take (most - (a - fr))).length := by
  induction k with
  | zero =>
    intro a h1 h2
    rw [List.drop_of_length_le (by rw [bytesOf_length]; omega)]
    simp [figEnd]
  | succ k ih =>
    intro a h1 h2
    rw [figEnd]
    by_cases hb : figB s fr most a = true
    · obtain ⟨c, Y, e1, e2, e3, _⟩ := (figB_eq s fr most a).1 hb
      rw [if_pos hb, ih (a + 1) (by omega) (by omega), e1]
      have e4 : (bytesOf s).drop (a + 1) = Y := by rw [← List.drop_drop, e1]; rfl
      have e5 : most - (a - fr) = (most - (a + 1 - fr)) + 1 := by omega
      rw [e4, List.takeWhile_cons_of_pos e3, e5, List.take_succ_cons, List.length_cons]
      omega
    · rw [if_neg hb]
      cases h : (bytesOf s).drop a with
      | nil => simp
      | cons c Y =>
        by_cases hd : isD c = true
        · by_cases hm : a - fr < most
          · exact absurd ((figB_eq s fr most a).2 ⟨c, Y, h, hm, hd, .inl h1⟩) hb
          · have : most - (a - fr) = 0 := by omega
            rw [this]; simp
        · rw [List.takeWhile_cons_of_neg hd]; simp
theorem figTo_run (s : ByteArray) (fr most : Nat) (hm : 0 < most) (hs : fr ≤ s.size) : figTo s fr most = fr + (run most ((bytesOf s).drop fr)).length := by
  unfold figTo run
  cases hz : s.size with
  | zero =>
    have : (bytesOf s).drop fr = [] := List.drop_of_length_le (by rw [bytesOf_length]; omega)
    rw [this]
    simp [figEnd]
  | succ k =>
    rw [figEnd]
    by_cases hb : figB s fr most fr = true
    · obtain ⟨c, Y, e1, e2, e3, e4⟩ := (figB_eq s fr most fr).1 hb
      have e4 : c ≠ 48 := by omega
      rw [if_pos hb, figEnd_run s fr most k (fr + 1) (by omega) (by omega), e1]
      have e5 : (bytesOf s).drop (fr + 1) = Y := by rw [← List.drop_drop, e1]; rfl
      have e6 : most = (most - 1) + 1 := by omega
      have e7 : fr + 1 - fr = 1 := by omega
      rw [e5, e7, if_neg (by simpa using e4), List.takeWhile_cons_of_pos e3, e6, List.take_succ_cons, List.length_cons]
      simp only [Nat.add_sub_cancel]
      omega
    · rw [if_neg hb]
      cases h : (bytesOf s).drop fr with
      | nil => simp
      | cons c Y =>
        by_cases h48 : c = 48
        · rw [if_pos (by simp [h48])]; simp
        · rw [if_neg (by simpa using h48)]
          by_cases hd : isD c = true
          · exact absurd ((figB_eq s fr most fr).2 ⟨c, Y, h, by omega, hd, .inr h48⟩) hb
          · rw [List.takeWhile_cons_of_neg hd]; simp
theorem run_prefix (most : Nat) (Y : List Int) : ∃ Z, Y = run most Y ++ Z := by
  unfold run
  split
  · exact ⟨Y, rfl⟩
  · refine ⟨(Y.takeWhile isD).drop most ++ Y.dropWhile isD, ?_⟩
    rw [← List.append_assoc, List.take_append_drop, List.takeWhile_append_dropWhile]
theorem run_le (most : Nat) (Y : List Int) : (run most Y).length ≤ most := by
  unfold run
  split
  · simp
  · rw [List.length_take]; omega
theorem run_digits (most : Nat) (Y : List Int) : ∀ c ∈ run most Y, 48 ≤ c ∧ c ≤ 57 := by
  intro c hc
  unfold run at hc
  split at hc
  · cases hc
  · have h1 : c ∈ Y.takeWhile isD := List.mem_of_mem_take hc
    have : ∀ Y : List Int, c ∈ Y.takeWhile isD → isD c = true := by
      intro Y
      induction Y with
      | nil => intro h; cases h
      | cons y Y ih =>
        intro h
        by_cases hy : isD y = true
        · rw [List.takeWhile_cons_of_pos hy] at h
          rcases List.mem_cons.1 h with rfl | h
          · exact hy
          · exact ih h
        · rw [List.takeWhile_cons_of_neg hy] at h; cases h
    have h2 := this Y h1
    unfold isD at h2
    simpa using h2
theorem run_head (most : Nat) (Y : List Int) (h : 0 < (run most Y).length) : (run most Y).head? ≠ some 48 := by
  unfold run at *
  split
  · rename_i h1; rw [if_pos h1] at h; simp at h
  · rename_i h1
    rw [if_neg h1] at h
    cases Y with
    | nil => simp at h
    | cons c Y =>
      have hc : c ≠ 48 := by simpa using h1
      by_cases hd : isD c = true
      · rw [List.takeWhile_cons_of_pos hd] at h ⊢
        cases most with
        | zero => simp at h
        | succ most => rw [List.take_succ_cons]; simpa using hc
      · rw [List.takeWhile_cons_of_neg hd] at h; simp at h
theorem bytesAt_run (s : ByteArray) (fr most : Nat) (hm : 0 < most) (hs : fr ≤ s.size) : bytesAt s fr (figTo s fr most) = run most ((bytesOf s).drop fr) := by
  rw [figTo_run s fr most hm hs]
  unfold bytesAt
  obtain ⟨Z, hZ⟩ := run_prefix most ((bytesOf s).drop fr)
  generalize run most ((bytesOf s).drop fr) = R at *
  have h1 : bytesOf (s.extract fr (fr + R.length)) = ((bytesOf s).take (fr + R.length)).drop fr := by
    unfold bytesOf
    rw [ByteArray.data_extract, Array.toList_extract, List.extract_eq_take_drop, List.map_take, List.map_drop]
    rw [List.drop_take]
  rw [h1, List.drop_take, hZ]
  have h2 : fr + R.length - fr = R.length := by omega
  rw [h2, List.take_left']
  rfl
/-- A row of signs of figures that ends at another sign. -/
theorem run_figs {l : List Int} (h : Figs l) (h0 : 0 < rd l 0) (most : Nat) (hm : l.length ≤ most) (Z : List Int) (hZ : ∀ c, Z.head? = some c → isD c = false) : run most (l.map chr ++ Z) = l.map chr := by
  unfold run
  have ht : ∀ l : List Int, Figs l → (l.map chr ++ Z).takeWhile isD = l.map chr := by
    intro l
    induction l with
    | nil =>
      intro _
      cases Z with
      | nil => rfl
      | cons c Z =>
        have := hZ c rfl
        simp [this]
    | cons d l ih =>
      intro hf
      have hd := hf.head
      have : isD (chr d) = true := by unfold isD chr; simp; omega
      rw [List.map_cons, List.cons_append, List.takeWhile_cons_of_pos this, ih hf.tail]
  rw [ht l h, List.take_of_length_le (by simpa using hm)]
  cases l with
  | nil => simp [rd] at h0
  | cons d l =>
    have : d ≠ 0 := by simp [rd] at h0; omega
    rw [if_neg (by simp [chr]; omega)]
theorem powLoop_num (q : List Int) (hq : ∀ c ∈ q, 48 ≤ c ∧ c ≤ 57) : ∀ e : Int, 0 ≤ e → e * T10 q.length + num (q.map (· - 48)) ≤ 1000 → powLoop q e = (e * T10 q.length + num (q.map (· - 48)), false) := by
  induction q with
  | nil => intro e h0 _; simp [powLoop, T10_zero, num_nil]
  | cons c q ih =>
    intro e h0 h1
    have hc := hq c List.mem_cons_self
    have hq' : ∀ c ∈ q, 48 ≤ c ∧ c ≤ 57 := fun x hx => hq x (List.mem_cons_of_mem _ hx)
    have hf : Figs (q.map (· - 48)) := by
      intro x hx
      obtain ⟨y, hy, rfl⟩ := List.mem_map.1 hx
      have := hq' y hy
      omega
    have hn := num_lt hf
    have hp := T10_pos q.length
    have hof : figOf c = c - 48 := by unfold figOf; omega
    rw [List.map_cons, num_cons, List.length_map, List.length_cons, T10_succ] at h1
    have e1 : e * (T10 q.length * 10) + ((c - 48) * T10 q.length + num (q.map (· - 48))) = (e * 10 + (c - 48)) * T10 q.length + num (q.map (· - 48)) := by grind
    rw [e1] at h1
    have hle : (e * 10 + (c - 48)) * 1 ≤ (e * 10 + (c - 48)) * T10 q.length := Int.mul_le_mul_of_nonneg_left (by omega) (by omega)
    rw [powLoop, hof, if_neg (by omega), ih hq' _ (by omega) h1, List.map_cons, num_cons, List.length_map, List.length_cons, T10_succ, e1]
theorem powLoop_far (q : List Int) (hq : ∀ c ∈ q, 48 ≤ c ∧ c ≤ 57) : ∀ e : Int, 0 ≤ e → (powLoop q e).2 = true → 1000 < e * T10 q.length + num (q.map (· - 48)) := by
  intro e h0 h1
  apply Classical.byContradiction
  intro h2
  rw [powLoop_num q hq e h0 (by omega)] at h1
  cases h1
theorem powLoop_near (q : List Int) (hq : ∀ c ∈ q, 48 ≤ c ∧ c ≤ 57) : ∀ e : Int, 0 ≤ e → (e ≤ 1000 ∨ q ≠ []) → (powLoop q e).2 = false → e * T10 q.length + num (q.map (· - 48)) ≤ 1000 := by
  induction q with
  | nil =>
    intro e h0 h1 h2
    simp [T10_zero, num_nil]
    rcases h1 with h | h
    · exact h
    · exact absurd rfl h
  | cons c q ih =>
    intro e h0 _ h2
    have hc := hq c List.mem_cons_self
    have hq' : ∀ c ∈ q, 48 ≤ c ∧ c ≤ 57 := fun x hx => hq x (List.mem_cons_of_mem _ hx)
    have hof : figOf c = c - 48 := by unfold figOf; omega
    rw [powLoop, hof] at h2
    by_cases h3 : e * 10 + (c - 48) > 1000
    · rw [if_pos h3] at h2; cases h2
    · rw [if_neg h3] at h2
      have := ih hq' _ (by omega) (.inl (by omega)) h2
      rw [List.map_cons, num_cons, List.length_map, List.length_cons, T10_succ]
      have e1 : e * (T10 q.length * 10) + ((c - 48) * T10 q.length + num (q.map (· - 48))) = (e * 10 + (c - 48)) * T10 q.length + num (q.map (· - 48)) := by grind
      rw [e1]
      exact this
end Go.Proofs.YtahkamggdbibiaaDoor.PZ
