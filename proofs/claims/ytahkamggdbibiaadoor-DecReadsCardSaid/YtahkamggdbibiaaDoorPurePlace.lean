/- Texts of this seat, joined: PureRight, PureRow, PureRDec, Text, PureRead, PureBegins, PurePlace.
   Conditions: none beyond each statement's own. -/
import Derived.Test.YtahkamggdbibiaaDoorPZx11
import Derived.Test.YtahkamggdbibiaaDoorNum
import Derived.Test.YtahkamggdbibiaaDoorPZx17
import Derived.Test.YtahkamggdbibiaaDoorPZx2
import Derived.Test.YtahkamggdbibiaaDoorPZx18
import Derived.Test.YtahkamggdbibiaaDoorDecRead
import Derived.Test.YtahkamggdbibiaaDoorDecText
import Derived.Test.YtahkamggdbibiaaDoorPZx4
import Derived.Test.YtahkamggdbibiaaDoorDigs
section
namespace Go.Proofs.YtahkamggdbibiaaDoor.PZ
open Go.RowKit Go.Proofs.YtahkamggdbibiaaDoorW.PrintWords Go.Proofs.YtahkamggdbibiaaDoorW.PrintLast
def RightTail (l : List Int) (e : Int) : Prop := (l.length = 0 ∧ e = 0) ∨ (0 < l.length ∧ l.length ≤ 1000 ∧ 0 < rd l 0 ∧ 0 < rd l ((l.length : Int) - 1) ∧ -1000 ≤ e ∧ e ≤ 1000)
/-- A Dec is right. -/
def Right (l : List Int) (e : Int) : Prop := (∀ i : Nat, i < l.length → rd l (i : Int) ≤ 9) ∧ RightTail l e
theorem right_l0 (g : Bool) (l : List Int) (e : Int) (hm : l.length ≤ 9223372036854775807) (n : Nat) : ∀ i : Nat, i + n = l.length →
    ∃ b, exergueref05_Right.l0 (n + 1) (l.length : Int) (i : Int) g l e = some b ∧ (b = true ↔ (∀ j : Nat, i ≤ j → j < l.length → rd l (j : Int) ≤ 9) ∧ RightTail l e) := by
  induction n with
  | zero =>
    intro i hi
    have h1 : ¬ ((i : Int) < (l.length : Int)) := by omega
    have h2 : wrap64 ((l.length : Int) - 1) = (l.length : Int) - 1 := w64 _ (by omega) (by omega)
    simp only [exergueref05_Right.l0, h1, if_false, h2]
    have hall : ∀ j : Nat, i ≤ j → j < l.length → rd l (j : Int) ≤ 9 := fun j hj hk => absurd hk (by omega)
    unfold RightTail
    by_cases h0 : l.length = 0
    · refine ⟨e == 0, by simp [h0], ?_⟩
      simp [h0]
    · by_cases h3 : l.length ≤ 1000
      · have e1 : (0 : Int) < (l.length : Int) := by omega
        have e2 : (0 : Int) ≤ (l.length : Int) - 1 := by omega
        have e3 : (l.length : Int) - 1 < (l.length : Int) := by omega
        have e4 : ((l.length : Int) = 0) = False := eq_false (by omega)
        have e5 : ((l.length : Int) ≤ 1000) = True := eq_true (by omega)
        refine ⟨decide (rd l 0 > 0) && (decide (rd l ((l.length : Int) - 1) > 0) && (decide (e ≥ -1000) && decide (e ≤ 1000))), ?_, ?_⟩
        · simp only [e4, e5, e1, e2, e3, if_true, if_false]
          by_cases a1 : rd l 0 > 0
          · by_cases a2 : rd l ((l.length : Int) - 1) > 0
            · by_cases a3 : e ≥ -1000
              · simp [a1, a2, a3]
              · simp [a1, a2, a3]
            · simp [a1, a2]
          · simp [a1]
        · simp only [Bool.and_eq_true, decide_eq_true_eq]
          constructor
          · rintro ⟨a, b, c, d⟩
            exact ⟨hall, .inr ⟨by omega, h3, a, b, by omega, d⟩⟩
          · rintro ⟨_, ⟨z, _⟩ | ⟨_, _, a, b, c, d⟩⟩
            · omega
            · exact ⟨a, b, by omega, d⟩
      · have e4 : ((l.length : Int) = 0) = False := eq_false (by omega)
        have e5 : ((l.length : Int) ≤ 1000) = False := eq_false (by omega)
        refine ⟨false, by simp only [e4, e5, if_false], ?_⟩
        constructor
        · intro z; cases z
        · rintro ⟨_, ⟨z, _⟩ | ⟨_, z, _⟩⟩ <;> omega
  | succ n ih =>
    intro i hi
    obtain ⟨b, hb, hbi⟩ := ih (i + 1) (by omega)
    have h1 : ((i : Int) < (l.length : Int)) = True := eq_true (by omega)
    have h2 : wrap64 ((i : Int) + 1) = ((i + 1 : Nat) : Int) := by rw [w64 _ (by omega) (by omega)]; omega
    have h3 : ((0 : Int) ≤ (i : Int)) = True := eq_true (by omega)
    by_cases h9 : rd l (i : Int) > 9
    · refine ⟨false, ?_, ?_⟩
      · rw [exergueref05_Right.l0]
        simp only [h1, h3, h9, if_true]
      · constructor
        · intro z; cases z
        · rintro ⟨z, _⟩
          have := z i (Nat.le_refl _) (by omega)
          omega
    · refine ⟨b, ?_, ?_⟩
      · rw [exergueref05_Right.l0]
        simp only [h1, h3, h9, if_true, if_false, h2]
        exact hb
      · rw [hbi]
        constructor
        · rintro ⟨z, t⟩
          refine ⟨fun j hj hk => ?_, t⟩
          by_cases hij : j = i
          · subst hij; omega
          · exact z j (by omega) hk
        · rintro ⟨z, t⟩
          exact ⟨fun j hj hk => z j (by omega) hk, t⟩
theorem right_f (g : Bool) (l : List Int) (e : Int) (hm : l.length ≤ 9223372036854775807) : ∃ b, exergueref05_Right.f (l.length + 1) g l e = some b ∧ (b = true ↔ Right l e) := by
  obtain ⟨b, hb, hi⟩ := right_l0 g l e hm l.length 0 (by omega)
  refine ⟨b, hb, hi.trans ?_⟩
  unfold Right
  constructor
  · rintro ⟨z, t⟩; exact ⟨fun i h => z i (Nat.zero_le _) h, t⟩
  · rintro ⟨z, t⟩; exact ⟨fun i _ h => z i h, t⟩
/-- In as many rounds as one likes, from some on. -/
theorem right_many (g : Bool) (l : List Int) (e : Int) (hm : l.length ≤ 9223372036854775807) : ∃ b k, (∀ j, k ≤ j → exergueref05_Right.f j g l e = some b) ∧ (b = true ↔ Right l e) := by
  obtain ⟨b, hb, hi⟩ := right_f g l e hm
  exact ⟨b, l.length + 1, fun j hj => at_rounds (g := fun k => exergueref05_Right.f k g l e) (fun k => exergueref05_Right.mono _ _ _ k) hj hb, hi⟩
end Go.Proofs.YtahkamggdbibiaaDoor.PZ
end

section
set_option linter.unusedSimpArgs false
set_option linter.unusedVariables false
namespace Go.Proofs.YtahkamggdbibiaaDoor.PZ
open Go.RowKit Go.Proofs.YtahkamggdbibiaaDoorW.PrintWords Go.Proofs.YtahkamggdbibiaaDoorW.PrintLast
/-- exergueref01.Row, of rows as long as any. -/
theorem row_l0 (a b : List Int) (hl : a.length = b.length) (hm : a.length ≤ 9223372036854775807) (n : Nat) : ∀ i : Nat, i + n = a.length → exergueref01_Row.l0 (n + 1) a b (i : Int) = some (decide (a.drop i = b.drop i)) := by
  induction n with
  | zero =>
    intro i hi
    have h1 : ¬ ((i : Int) < (a.length : Int)) := by omega
    rw [exergueref01_Row.l0, if_neg h1, List.drop_of_length_le (by omega), List.drop_of_length_le (by omega)]
    rfl
  | succ n ih =>
    intro i hi
    have h1 : (i : Int) < (a.length : Int) := by omega
    have h2 : wrap64 ((i : Int) + 1) = ((i + 1 : Nat) : Int) := by rw [w64 _ (by omega) (by omega)]; omega
    rw [exergueref01_Row.l0, if_pos h1, if_pos (by omega), if_pos (by omega), drop_cons a i (by omega), drop_cons b i (by omega)]
    by_cases he : rd a i = rd b i
    · rw [if_pos he, h2, ih (i + 1) (by omega), he]
      simp
    · rw [if_neg he]
      simp [he]
theorem row_e (a b : List Int) (hm : a.length ≤ 9223372036854775807) : Ev (fun k => exergueref01_Row.f k a b) (decide (a = b)) := by
  unfold exergueref01_Row.f
  by_cases hl : a.length = b.length
  · simp only [if_pos (show (a.length : Int) = (b.length : Int) by omega)]
    refine Ev.of (k := a.length + 1) (fun k => exergueref01_Row.mono_l k _ _ _) ?_
    have := row_l0 a b hl hm a.length 0 (by omega)
    simpa using this
  · simp only [if_neg (show ¬ (a.length : Int) = (b.length : Int) by omega)]
    have : decide (a = b) = false := by
      rw [decide_eq_false_iff_not]
      rintro rfl
      exact hl rfl
    rw [this]
    exact Ev.now _
end Go.Proofs.YtahkamggdbibiaaDoor.PZ
end

section
set_option linter.unusedSimpArgs false
set_option linter.unusedVariables false
namespace Go.Proofs.YtahkamggdbibiaaDoor.PZ
open Go.RowKit Go.Proofs.YtahkamggdbibiaaDoorW.PrintWords Go.Proofs.YtahkamggdbibiaaDoorW.PrintLast
/-- A right Dec. -/
structure RDec (l : List Int) (e : Int) : Prop where
  figs : Figs l
  tail : RightTail l e
theorem rdec_of {l : List Int} {e : Int} (hw : ∀ b_ ∈ l, (Lit.int .u8 b_).wf = true) (h : Right l e) : RDec l e := by
  refine ⟨fun d hd => ⟨(wf_u8 (hw d hd)).1, ?_⟩, h.2⟩
  obtain ⟨i, hi, rfl⟩ := List.mem_iff_getElem.1 hd
  have := h.1 i hi
  simpa [rd, List.getD_eq_getElem?_getD, List.getElem?_eq_getElem hi] using this
theorem RDec.right {l : List Int} {e : Int} (h : RDec l e) : Right l e := ⟨fun i _ => (rd_figs h.figs i).2, h.tail⟩
theorem RDec.len {l : List Int} {e : Int} (h : RDec l e) : l.length ≤ 1000 := by rcases h.tail with h | h <;> omega
theorem RDec.exp {l : List Int} {e : Int} (h : RDec l e) : -1000 ≤ e ∧ e ≤ 1000 := by rcases h.tail with h | h <;> omega
theorem RDec.nil : RDec [] 0 := ⟨Figs.nil, .inl ⟨rfl, rfl⟩⟩
theorem RDec.first {l : List Int} {e : Int} (h : RDec l e) (hl : 0 < l.length) : 0 < rd l 0 := by rcases h.tail with h | h <;> omega
theorem RDec.last {l : List Int} {e : Int} (h : RDec l e) (hl : 0 < l.length) : 0 < rd l ((l.length : Int) - 1) := by rcases h.tail with h | h <;> omega
theorem RDec.nought {l : List Int} {e : Int} (h : RDec l e) (hl : l.length = 0) : e = 0 := by rcases h.tail with h | h <;> omega
theorem right_ev (g : Bool) (l : List Int) (e : Int) (hm : l.length ≤ 9223372036854775807) : ∃ t, Ev (fun k => exergueref05_Right.f k g l e) t ∧ (t = true ↔ Right l e) := by
  obtain ⟨t, k, hk, hi⟩ := right_many g l e hm
  exact ⟨t, ⟨k, fun j hj => hk j hj⟩, hi⟩
theorem right_yes (g : Bool) {l : List Int} {e : Int} (h : RDec l e) : Ev (fun k => exergueref05_Right.f k g l e) true := by
  obtain ⟨t, ht, hi⟩ := right_ev g l e (by have := h.len; omega)
  rwa [hi.2 h.right] at ht
/-- Of numbers that come in: right, or the law asks no more. -/
theorem right_cases (g : Bool) {l : List Int} {e : Int} (hm : l.length ≤ maxLen) (hw : ∀ b_ ∈ l, (Lit.int .u8 b_).wf = true) :
    (Ev (fun k => exergueref05_Right.f k g l e) true ∧ RDec l e) ∨ Ev (fun k => exergueref05_Right.f k g l e) false := by
  obtain ⟨t, ht, hi⟩ := right_ev g l e (len_max hm)
  cases t with
  | true => exact .inl ⟨ht, rdec_of hw (hi.1 rfl)⟩
  | false => exact .inr ht
/-- exergueref05.Same. -/
theorem same_e (ga gb : Bool) (a b : List Int) (ea eb : Int) (hm : a.length ≤ 9223372036854775807) : Ev (fun k => exergueref05_Same.f k ga a ea gb b eb) (decide (ga = gb ∧ a = b ∧ ea = eb)) := by
  unfold exergueref05_Same.f
  refine Ev.bind (row_e a b hm) ?_
  by_cases h1 : a = b
  · simp only [h1, decide_true, if_true]
    by_cases h2 : ga = gb
    · simp only [h2, beq_self_eq_true, if_true, true_and]
      exact Ev.congr (fun _ => by rw [show (ea == eb) = decide (ea = eb) by rw [Bool.eq_iff_iff]; simp]) (Ev.now _)
    · have h3 : (ga == gb) = false := by simpa using h2
      simp only [h3, h2, decide_false, Bool.false_eq_true, if_false, false_and]
      exact Ev.now _
  · simp only [h1, decide_false, Bool.false_eq_true, if_false, false_and, and_false]
    exact Ev.now _
theorem same_self (g : Bool) (a : List Int) (e : Int) (hm : a.length ≤ 9223372036854775807) : Ev (fun k => exergueref05_Same.f k g a e g a e) true := by
  have := same_e g g a a e e hm
  simpa using this
end Go.Proofs.YtahkamggdbibiaaDoor.PZ
end

section
set_option linter.unusedSimpArgs false
set_option linter.unusedVariables false
namespace Go.Proofs.YtahkamggdbibiaaDoor.PZ
open Go.RowKit Go.Proofs.YtahkamggdbibiaaDoorW.PrintWords Go.Proofs.YtahkamggdbibiaaDoorW.PrintLast
def figT (l : List Int) : List Int := if l.length = 0 then [48] else l.map chr
def txt (g : Bool) (l : List Int) (e : Int) : List Int := (if g then [45] else []) ++ (figT l ++ 101 :: pw e)
theorem figByte_map {l : List Int} (h : Figs l) : ((l.map figByte).map fun b => (b.toNat : Int)) = l.map chr := by
  rw [List.map_map]
  apply List.map_congr_left
  intro d hd
  have := h d hd
  simp [figByte, chr, UInt8.toNat_ofNat']
  omega
theorem text_bytes (g : Bool) {l : List Int} (e : Int) (h : Figs l) : bytesOf ⟨(decText g l e).toArray⟩ = txt g l e := by
  rw [bytes_list]
  unfold decText txt figT
  simp only [List.map_append, itoa_map, figByte_map h]
  cases g <;> by_cases hl : l.length = 0
  · rw [List.eq_nil_of_length_eq_zero hl]; rfl
  · simp [hl]
  · rw [List.eq_nil_of_length_eq_zero hl]; rfl
  · simp [hl]
theorem bytesOf_inj {s t : ByteArray} (h : bytesOf s = bytesOf t) : s = t := by
  unfold bytesOf at h
  have h1 : s.data.toList = t.data.toList := by
    refine List.map_inj_right (f := fun b : UInt8 => (b.toNat : Int)) ?_ |>.1 h
    intro x y hxy
    exact UInt8.toNat_inj.1 (Int.ofNat_inj.1 hxy)
  have h2 : s.data = t.data := by rw [← Array.toArray_toList (xs := s.data), h1, Array.toArray_toList]
  cases s; cases t; simpa using h2
/-! What is read, of a row. -/
def isD (c : Int) : Bool := decide (48 ≤ c) && decide (c ≤ 57)
def run (most : Nat) (Y : List Int) : List Int := if Y.head? = some 48 then [] else (Y.takeWhile isD).take most
theorem hasB_eq (s : ByteArray) (a : Nat) (c : Int) : hasB s a c = decide (((bytesOf s).drop a).head? = some c) := by
  unfold hasB
  rw [← rd_bytesOf, List.head?_drop]
  by_cases h : a < s.size
  · have h' : a < (bytesOf s).length := by rw [bytesOf_length]; exact h
    simp [h, rd, List.getD_eq_getElem?_getD, List.getElem?_eq_getElem h']
  · have h' : ¬ a < (bytesOf s).length := by rw [bytesOf_length]; exact h
    simp [h, List.getElem?_eq_none (show (bytesOf s).length ≤ a by omega)]
theorem figB_eq (s : ByteArray) (fr most a : Nat) : figB s fr most a = true ↔ ∃ c Y, (bytesOf s).drop a = c :: Y ∧ a - fr < most ∧ isD c = true ∧ (fr < a ∨ c ≠ 48) := by
  unfold figB isD
  by_cases h : a < s.size
  · have h' : a < (bytesOf s).length := by rw [bytesOf_length]; exact h
    rw [← rd_bytesOf, drop_cons _ a h']
    simp only [Bool.and_eq_true, Bool.or_eq_true, decide_eq_true_eq, h, true_and, List.cons.injEq]
    constructor
    · rintro ⟨⟨⟨h1, h2⟩, h3⟩, h4⟩
      exact ⟨_, _, ⟨rfl, rfl⟩, h1, ⟨h2, h3⟩, h4⟩
    · rintro ⟨c, Y, ⟨rfl, rfl⟩, h1, ⟨h2, h3⟩, h4⟩
      exact ⟨⟨⟨h1, h2⟩, h3⟩, h4⟩
  · simp only [Bool.and_eq_true, Bool.or_eq_true, decide_eq_true_eq, h, false_and, false_iff]
    rintro ⟨c, Y, h1, _⟩
    rw [List.drop_of_length_le (by rw [bytesOf_length]; omega)] at h1
    cases h1
theorem figEnd_run (s : ByteArray) (fr most : Nat) (k : Nat) : ∀ a, fr < a → s.size ≤ a + k → figEnd s fr most k a = a + ((((bytesOf s).drop a).takeWhile isD).take (most - (a - fr))).length := by
  induction k with
  | zero =>
    intro a h1 h2
    rw [List.drop_of_length_le (by rw [bytesOf_length]; omega)]
    simp [figEnd]
  | succ k ih =>
    intro a h1 h2
    rw [figEnd]
    by_cases hb : figB s fr most a = true
    · obtain ⟨c, Y, e1, e2, e3, _⟩ := (figB_eq s fr most a).1 hb
      rw [if_pos hb, ih (a + 1) (by omega) (by omega), e1]
      have e4 : (bytesOf s).drop (a + 1) = Y := by rw [← List.drop_drop, e1]; rfl
      have e5 : most - (a - fr) = (most - (a + 1 - fr)) + 1 := by omega
      rw [e4, List.takeWhile_cons_of_pos e3, e5, List.take_succ_cons, List.length_cons]
      omega
    · rw [if_neg hb]
      cases h : (bytesOf s).drop a with
      | nil => simp
      | cons c Y =>
        by_cases hd : isD c = true
        · by_cases hm : a - fr < most
          · exact absurd ((figB_eq s fr most a).2 ⟨c, Y, h, hm, hd, .inl h1⟩) hb
          · have : most - (a - fr) = 0 := by omega
            rw [this]; simp
        · rw [List.takeWhile_cons_of_neg hd]; simp
theorem figTo_run (s : ByteArray) (fr most : Nat) (hm : 0 < most) (hs : fr ≤ s.size) : figTo s fr most = fr + (run most ((bytesOf s).drop fr)).length := by
  unfold figTo run
  cases hz : s.size with
  | zero =>
    have : (bytesOf s).drop fr = [] := List.drop_of_length_le (by rw [bytesOf_length]; omega)
    rw [this]
    simp [figEnd]
  | succ k =>
    rw [figEnd]
    by_cases hb : figB s fr most fr = true
    · obtain ⟨c, Y, e1, e2, e3, e4⟩ := (figB_eq s fr most fr).1 hb
      have e4 : c ≠ 48 := by omega
      rw [if_pos hb, figEnd_run s fr most k (fr + 1) (by omega) (by omega), e1]
      have e5 : (bytesOf s).drop (fr + 1) = Y := by rw [← List.drop_drop, e1]; rfl
      have e6 : most = (most - 1) + 1 := by omega
      have e7 : fr + 1 - fr = 1 := by omega
      rw [e5, e7, if_neg (by simpa using e4), List.takeWhile_cons_of_pos e3, e6, List.take_succ_cons, List.length_cons]
      simp only [Nat.add_sub_cancel]
      omega
    · rw [if_neg hb]
      cases h : (bytesOf s).drop fr with
      | nil => simp
      | cons c Y =>
        by_cases h48 : c = 48
        · rw [if_pos (by simp [h48])]; simp
        · rw [if_neg (by simpa using h48)]
          by_cases hd : isD c = true
          · exact absurd ((figB_eq s fr most fr).2 ⟨c, Y, h, by omega, hd, .inr h48⟩) hb
          · rw [List.takeWhile_cons_of_neg hd]; simp
theorem run_prefix (most : Nat) (Y : List Int) : ∃ Z, Y = run most Y ++ Z := by
  unfold run
  split
  · exact ⟨Y, rfl⟩
  · refine ⟨(Y.takeWhile isD).drop most ++ Y.dropWhile isD, ?_⟩
    rw [← List.append_assoc, List.take_append_drop, List.takeWhile_append_dropWhile]
theorem run_le (most : Nat) (Y : List Int) : (run most Y).length ≤ most := by
  unfold run
  split
  · simp
  · rw [List.length_take]; omega
theorem run_digits (most : Nat) (Y : List Int) : ∀ c ∈ run most Y, 48 ≤ c ∧ c ≤ 57 := by
  intro c hc
  unfold run at hc
  split at hc
  · cases hc
  · have h1 : c ∈ Y.takeWhile isD := List.mem_of_mem_take hc
    have : ∀ Y : List Int, c ∈ Y.takeWhile isD → isD c = true := by
      intro Y
      induction Y with
      | nil => intro h; cases h
      | cons y Y ih =>
        intro h
        by_cases hy : isD y = true
        · rw [List.takeWhile_cons_of_pos hy] at h
          rcases List.mem_cons.1 h with rfl | h
          · exact hy
          · exact ih h
        · rw [List.takeWhile_cons_of_neg hy] at h; cases h
    have h2 := this Y h1
    unfold isD at h2
    simpa using h2
theorem run_head (most : Nat) (Y : List Int) (h : 0 < (run most Y).length) : (run most Y).head? ≠ some 48 := by
  unfold run at *
  split
  · rename_i h1; rw [if_pos h1] at h; simp at h
  · rename_i h1
    rw [if_neg h1] at h
    cases Y with
    | nil => simp at h
    | cons c Y =>
      have hc : c ≠ 48 := by simpa using h1
      by_cases hd : isD c = true
      · rw [List.takeWhile_cons_of_pos hd] at h ⊢
        cases most with
        | zero => simp at h
        | succ most => rw [List.take_succ_cons]; simpa using hc
      · rw [List.takeWhile_cons_of_neg hd] at h; simp at h
theorem bytesAt_run (s : ByteArray) (fr most : Nat) (hm : 0 < most) (hs : fr ≤ s.size) : bytesAt s fr (figTo s fr most) = run most ((bytesOf s).drop fr) := by
  rw [figTo_run s fr most hm hs]
  unfold bytesAt
  obtain ⟨Z, hZ⟩ := run_prefix most ((bytesOf s).drop fr)
  generalize run most ((bytesOf s).drop fr) = R at *
  have h1 : bytesOf (s.extract fr (fr + R.length)) = ((bytesOf s).take (fr + R.length)).drop fr := by
    unfold bytesOf
    rw [ByteArray.data_extract, Array.toList_extract, List.extract_eq_take_drop, List.map_take, List.map_drop]
    rw [List.drop_take]
  rw [h1, List.drop_take, hZ]
  have h2 : fr + R.length - fr = R.length := by omega
  rw [h2, List.take_left']
  rfl
/-- A row of signs of figures that ends at another sign. -/
theorem run_figs {l : List Int} (h : Figs l) (h0 : 0 < rd l 0) (most : Nat) (hm : l.length ≤ most) (Z : List Int) (hZ : ∀ c, Z.head? = some c → isD c = false) : run most (l.map chr ++ Z) = l.map chr := by
  unfold run
  have ht : ∀ l : List Int, Figs l → (l.map chr ++ Z).takeWhile isD = l.map chr := by
    intro l
    induction l with
    | nil =>
      intro _
      cases Z with
      | nil => rfl
      | cons c Z =>
        have := hZ c rfl
        simp [this]
    | cons d l ih =>
      intro hf
      have hd := hf.head
      have : isD (chr d) = true := by unfold isD chr; simp; omega
      rw [List.map_cons, List.cons_append, List.takeWhile_cons_of_pos this, ih hf.tail]
  rw [ht l h, List.take_of_length_le (by simpa using hm)]
  cases l with
  | nil => simp [rd] at h0
  | cons d l =>
    have : d ≠ 0 := by simp [rd] at h0; omega
    rw [if_neg (by simp [chr]; omega)]
theorem powLoop_num (q : List Int) (hq : ∀ c ∈ q, 48 ≤ c ∧ c ≤ 57) : ∀ e : Int, 0 ≤ e → e * T10 q.length + num (q.map (· - 48)) ≤ 1000 → powLoop q e = (e * T10 q.length + num (q.map (· - 48)), false) := by
  induction q with
  | nil => intro e h0 _; simp [powLoop, T10_zero, num_nil]
  | cons c q ih =>
    intro e h0 h1
    have hc := hq c List.mem_cons_self
    have hq' : ∀ c ∈ q, 48 ≤ c ∧ c ≤ 57 := fun x hx => hq x (List.mem_cons_of_mem _ hx)
    have hf : Figs (q.map (· - 48)) := by
      intro x hx
      obtain ⟨y, hy, rfl⟩ := List.mem_map.1 hx
      have := hq' y hy
      omega
    have hn := num_lt hf
    have hp := T10_pos q.length
    have hof : figOf c = c - 48 := by unfold figOf; omega
    rw [List.map_cons, num_cons, List.length_map, List.length_cons, T10_succ] at h1
    have e1 : e * (T10 q.length * 10) + ((c - 48) * T10 q.length + num (q.map (· - 48))) = (e * 10 + (c - 48)) * T10 q.length + num (q.map (· - 48)) := by grind
    rw [e1] at h1
    have hle : (e * 10 + (c - 48)) * 1 ≤ (e * 10 + (c - 48)) * T10 q.length := Int.mul_le_mul_of_nonneg_left (by omega) (by omega)
    rw [powLoop, hof, if_neg (by omega), ih hq' _ (by omega) h1, List.map_cons, num_cons, List.length_map, List.length_cons, T10_succ, e1]
theorem powLoop_far (q : List Int) (hq : ∀ c ∈ q, 48 ≤ c ∧ c ≤ 57) : ∀ e : Int, 0 ≤ e → (powLoop q e).2 = true → 1000 < e * T10 q.length + num (q.map (· - 48)) := by
  intro e h0 h1
  apply Classical.byContradiction
  intro h2
  rw [powLoop_num q hq e h0 (by omega)] at h1
  cases h1
theorem powLoop_near (q : List Int) (hq : ∀ c ∈ q, 48 ≤ c ∧ c ≤ 57) : ∀ e : Int, 0 ≤ e → (e ≤ 1000 ∨ q ≠ []) → (powLoop q e).2 = false → e * T10 q.length + num (q.map (· - 48)) ≤ 1000 := by
  induction q with
  | nil =>
    intro e h0 h1 h2
    simp [T10_zero, num_nil]
    rcases h1 with h | h
    · exact h
    · exact absurd rfl h
  | cons c q ih =>
    intro e h0 _ h2
    have hc := hq c List.mem_cons_self
    have hq' : ∀ c ∈ q, 48 ≤ c ∧ c ≤ 57 := fun x hx => hq x (List.mem_cons_of_mem _ hx)
    have hof : figOf c = c - 48 := by unfold figOf; omega
    rw [powLoop, hof] at h2
    by_cases h3 : e * 10 + (c - 48) > 1000
    · rw [if_pos h3] at h2; cases h2
    · rw [if_neg h3] at h2
      have := ih hq' _ (by omega) (.inl (by omega)) h2
      rw [List.map_cons, num_cons, List.length_map, List.length_cons, T10_succ]
      have e1 : e * (T10 q.length * 10) + ((c - 48) * T10 q.length + num (q.map (· - 48))) = (e * 10 + (c - 48)) * T10 q.length + num (q.map (· - 48)) := by grind
      rw [e1]
      exact this
end Go.Proofs.YtahkamggdbibiaaDoor.PZ
end

section
set_option linter.unusedSimpArgs false
set_option linter.unusedVariables false
namespace Go.Proofs.YtahkamggdbibiaaDoor.PZ
open Go.RowKit Go.Proofs.YtahkamggdbibiaaDoorW.PrintWords Go.Proofs.YtahkamggdbibiaaDoorW.PrintLast
theorem figs_back {l : List Int} (h : Figs l) : (l.map chr).map figOf = l := by
  rw [List.map_map]
  conv => rhs; rw [← List.map_id l]
  apply List.map_congr_left
  intro d hd
  have := h d hd
  simp only [Function.comp_apply, chr, figOf, id]
  omega
theorem figs_back' {l : List Int} : (l.map chr).map (· - 48) = l := by
  rw [List.map_map]
  conv => rhs; rw [← List.map_id l]
  apply List.map_congr_left
  intro d _
  simp only [Function.comp_apply, chr, id]
  omega
theorem figs_there {f : List Int} (h : ∀ c ∈ f, 48 ≤ c ∧ c ≤ 57) : Figs (f.map figOf) ∧ (f.map figOf).map chr = f ∧ f.map (· - 48) = f.map figOf := by
  refine ⟨?_, ?_, ?_⟩
  · intro x hx
    obtain ⟨y, hy, rfl⟩ := List.mem_map.1 hx
    have := h y hy
    unfold figOf
    omega
  · rw [List.map_map]
    conv => rhs; rw [← List.map_id f]
    apply List.map_congr_left
    intro y hy
    have := h y hy
    simp only [Function.comp_apply, chr, figOf, id]
    omega
  · apply List.map_congr_left
    intro y hy
    have := h y hy
    unfold figOf
    omega
theorem rd_head {l : List Int} (h : 0 < l.length) : l.head? = some (rd l 0) := by
  cases l with
  | nil => simp at h
  | cons d l => rfl
theorem pw_nought : pw 0 = [48] := by unfold pw; rw [if_neg (by decide), show (0 : Int).toNat = 0 from rfl, digsN_small (by decide)]; rfl
theorem pw_length {e : Int} (he : -1000 ≤ e ∧ e ≤ 1000) : (pw e).length ≤ 5 := by
  unfold pw
  split
  · have := digsN_length 3 e.natAbs (by omega)
    simp; omega
  · have := digsN_length 3 e.toNat (by omega)
    simp; omega
theorem figT_length (l : List Int) : (figT l).length ≤ l.length + 1 := by
  unfold figT; split <;> simp
theorem txt_length (g : Bool) {l : List Int} {e : Int} (h : RDec l e) : (txt g l e).length ≤ 1008 := by
  have h1 := pw_length h.exp
  have h2 := figT_length l
  have h3 := h.len
  unfold txt
  cases g <;> simp <;> omega
/-- What the power's reading answers at the text of one. -/
theorem pow_txt {s : ByteArray} {p : Nat} {l : List Int} {e : Int} (h : (bytesOf s).drop p = pw e) (hp : p ≤ s.size) (he : -1000 ≤ e ∧ e ≤ 1000) (hl : 0 < l.length) : powOk l s p = true ∧ powEE l s p = e ∧ powAA l s p = p + (pw e).length := by
  have hl0 : ¬ l.length = 0 := by omega
  by_cases h0 : e = 0
  · subst h0
    rw [pw_nought] at h ⊢
    have h48 : hasB s p 48 = true := by rw [hasB_eq, h]; decide
    have hI : powIs l s p = true := by unfold powIs; rw [h48]; simp
    unfold powOk powEE powAA
    rw [if_pos hI, if_pos hI, if_pos hI, h48]
    exact ⟨rfl, rfl, by rw [if_pos rfl]; rfl⟩
  · have hu : 0 < e.natAbs := by omega
    have hfirst := digsN_first e.natAbs hu
    have hfig := digsN_figs e.natAbs
    have hlen := digsN_length 3 e.natAbs (by omega)
    have hpos := digsN_pos e.natAbs
    have hhead : ((digsN e.natAbs).map chr).head? = some (chr (rd (digsN e.natAbs) 0)) := by rw [List.head?_map, rd_head hpos]; rfl
    have hc0 : chr (rd (digsN e.natAbs) 0) ≠ 48 ∧ chr (rd (digsN e.natAbs) 0) ≠ 45 := by unfold chr; omega
    have hrun : run 4 ((digsN e.natAbs).map chr) = (digsN e.natAbs).map chr := by
      have := run_figs hfig hfirst 4 hlen [] (fun c hc => by cases hc)
      simpa using this
    have hloop : powLoop ((digsN e.natAbs).map chr) 0 = ((e.natAbs : Int), false) := by
      have hq : ∀ c ∈ (digsN e.natAbs).map chr, 48 ≤ c ∧ c ≤ 57 := by
        intro c hc
        obtain ⟨d, hd, rfl⟩ := List.mem_map.1 hc
        have := hfig d hd
        unfold chr; omega
      have := powLoop_num _ hq 0 (by omega) (by rw [figs_back', digsN_num]; omega)
      rw [this, figs_back', digsN_num]
      simp
    by_cases hn : e < 0
    · have hpw : pw e = 45 :: (digsN e.natAbs).map chr := by unfold pw; rw [if_pos hn]
      rw [hpw] at h ⊢
      have h48 : hasB s p 48 = false := by rw [hasB_eq, h]; simp
      have h45 : hasB s p 45 = true := by rw [hasB_eq, h]; simp
      have hI : powIs l s p = false := by unfold powIs; rw [h48]; simpa using hl0
      have hp1 : p + 1 ≤ s.size := by
        have := congrArg List.length h
        rw [List.length_drop, bytesOf_length, List.length_cons] at this
        omega
      have hd1 : (bytesOf s).drop (p + 1) = (digsN e.natAbs).map chr := by rw [← List.drop_drop, h]; rfl
      have hfr : powFr s p = p + 1 := by unfold powFr; rw [h45]; rfl
      have hQ : powQ s p = ((e.natAbs : Int), false) := by unfold powQ; rw [hfr, bytesAt_run s _ 4 (by omega) hp1, hd1, hrun, hloop]
      have hE : powE s p = e := by unfold powE; rw [h45, hQ, if_pos rfl]; show -(e.natAbs : Int) = e; omega
      have hA : powAt s p = p + 1 + (digsN e.natAbs).length := by
        unfold powAt
        rw [hQ, hfr, figTo_run s _ 4 (by omega) hp1, hd1, hrun, List.length_map]
        rfl
      unfold powOk powEE powAA
      rw [hI, hE, hA]
      simp only [Bool.false_eq_true, if_false, List.length_cons, List.length_map]
      exact ⟨by simpa using h0, trivial, by omega⟩
    · have hpw : pw e = (digsN e.natAbs).map chr := by
        unfold pw
        rw [if_neg hn]
        have : e.toNat = e.natAbs := by omega
        rw [this]
      rw [hpw] at h ⊢
      have h48 : hasB s p 48 = false := by rw [hasB_eq, h, hhead]; simpa using hc0.1
      have h45 : hasB s p 45 = false := by rw [hasB_eq, h, hhead]; simpa using hc0.2
      have hI : powIs l s p = false := by unfold powIs; rw [h48]; simpa using hl0
      have hfr : powFr s p = p := by unfold powFr; rw [h45]; rfl
      have hQ : powQ s p = ((e.natAbs : Int), false) := by unfold powQ; rw [hfr, bytesAt_run s _ 4 (by omega) hp, h, hrun, hloop]
      have hE : powE s p = e := by unfold powE; rw [h45, hQ]; show (e.natAbs : Int) = e; omega
      have hA : powAt s p = p + (digsN e.natAbs).length := by
        unfold powAt
        rw [hQ, hfr, figTo_run s _ 4 (by omega) hp, h, hrun, List.length_map]
        rfl
      unfold powOk powEE powAA
      rw [hI, hE, hA]
      simp only [Bool.false_eq_true, if_false, List.length_map]
      exact ⟨by simpa using h0, trivial, trivial⟩
/-- A right number's text is read as it. -/
theorem read_txt {s : ByteArray} {g : Bool} {l : List Int} {e : Int} (h : RDec l e) (hs : bytesOf s = txt g l e) : dec_Read.f s = some (g, l, e, 0, 0) := by
  have hsz : s.size = (txt g l e).length := by rw [← hs, bytesOf_length]
  have hb := txt_length g h
  have hneg : rdNeg s = g := by
    unfold rdNeg
    rw [hasB_eq, hs]
    cases g with
    | true => rfl
    | false =>
      rw [decide_eq_false_iff_not]
      unfold txt figT
      by_cases h0 : l.length = 0
      · simp [h0]
      · have := h.first (by omega)
        simp only [h0, if_false, Bool.false_eq_true, List.nil_append, List.drop_zero]
        rw [List.head?_append, List.head?_map, rd_head (by omega)]
        simp [chr]; omega
  have hfrom : rdFrom s = if g then 1 else 0 := by unfold rdFrom; rw [hneg]
  have hfl : rdFrom s ≤ s.size := rdFrom_le s
  have hY : (bytesOf s).drop (rdFrom s) = figT l ++ 101 :: pw e := by rw [hs, hfrom]; unfold txt; cases g <;> rfl
  have hlenY : s.size = rdFrom s + ((figT l).length + 1 + (pw e).length) := by
    rw [hsz, hfrom]; unfold txt
    cases g <;> simp <;> omega
  generalize hfr : rdFrom s = fr at *
  have hdrop : ∀ k, (bytesOf s).drop (fr + k) = (figT l ++ 101 :: pw e).drop k := fun k => by rw [← List.drop_drop, hY]
  unfold dec_Read.f
  rw [if_pos (by omega)]
  by_cases h0 : l.length = 0
  · have hl : l = [] := List.eq_nil_of_length_eq_zero h0
    have he := h.nought h0
    subst hl he
    have hT : figT [] ++ 101 :: pw 0 = [48, 101, 48] := by rw [pw_nought]; rfl
    rw [hT] at hdrop
    have a0 : hasB s fr 48 = true := by rw [hasB_eq]; have := hdrop 0; rw [Nat.add_zero] at this; rw [this]; rfl
    have a1 : hasB s (fr + 1) 101 = true := by rw [hasB_eq, hdrop 1]; rfl
    have a2 : hasB s (fr + 2) 48 = true := by rw [hasB_eq, hdrop 2]; rfl
    have d0 : rdD s = [] := by unfold rdD numD; rw [hfr, if_pos a0]
    have d1 : rdFull s = false := by unfold rdFull; rw [d0]; rfl
    have d2 : rdAt s = fr + 1 := by unfold rdAt numAt; rw [d1, hfr, if_pos a0]; rfl
    have d3 : rdOk s = true := by unfold rdOk numB; rw [hfr, a0, d0]; rfl
    have d4 : rdE s = true := by unfold rdE; rw [d3, d2, a1]; rfl
    have d5 : rdAt2 s = fr + 2 := by unfold rdAt2; rw [d4, d2]; rfl
    have d6 : powIs [] s (fr + 2) = true := rfl
    have d7 : rdAll s = true := by unfold rdAll powOk; rw [d4, d0, d5, if_pos d6, a2]; rfl
    have d8 : rdAt3 s = fr + 3 := by unfold rdAt3 powAA; rw [d4, d0, d5, if_pos rfl, if_pos d6, if_pos a2]
    have d9 : rdGood s = true := by
      unfold rdGood; rw [d7, d8]
      have e1 : (figT []).length = 1 := rfl
      have e2 : (pw 0).length = 1 := by rw [pw_nought]; rfl
      rw [e1, e2] at hlenY
      simp; omega
    rw [if_pos d9, hneg, d0]
    unfold powEE
    rw [d5, if_pos d6]
  · have hl0 : 0 < l.length := by omega
    have hfirst := h.first hl0
    have hF : figT l = l.map chr := by unfold figT; rw [if_neg h0]
    have hFl : (figT l).length = l.length := by rw [hF, List.length_map]
    have hrun : run 1000 ((bytesOf s).drop fr) = l.map chr := by
      rw [hY, hF]
      exact run_figs h.figs hfirst 1000 h.len _ (fun c hc => by cases hc; decide)
    have a0 : hasB s fr 48 = false := by
      rw [hasB_eq, hY, hF, List.head?_append, List.head?_map, rd_head hl0]
      simp [chr]; omega
    have t0 : figTo s fr 1000 = fr + l.length := by rw [figTo_run s fr 1000 (by omega) hfl, hrun, List.length_map]
    have d0 : rdD s = l := by
      unfold rdD numD
      rw [hfr, a0, if_neg (by decide), bytesAt_run s fr 1000 (by omega) hfl, hrun, figs_back h.figs]
    have hlast := h.last hl0
    have d1 : rdFull s = false := by
      unfold rdFull; rw [d0]
      by_cases hk : l.length = 1000
      · have e1 : (l.length : Int) - 1 = 999 := by omega
        rw [e1] at hlast
        have : ¬ rd l 999 = 0 := by omega
        simp [this]
      · simp [hk]
    have d2 : rdAt s = fr + l.length := by unfold rdAt numAt; rw [d1, hfr, a0, t0]; rfl
    have d3 : rdOk s = true := by
      unfold rdOk numB; rw [hfr, a0, d0, t0]
      have : ¬ rd l ((l.length : Int) - 1) = 0 := by omega
      simp [this]; omega
    have r1 : (bytesOf s).drop (fr + l.length) = 101 :: pw e := by rw [hdrop, ← hFl, List.drop_left]
    have a1 : hasB s (fr + l.length) 101 = true := by rw [hasB_eq, r1]; rfl
    have d4 : rdE s = true := by unfold rdE; rw [d3, d2, a1]; rfl
    have d5 : rdAt2 s = fr + l.length + 1 := by unfold rdAt2; rw [d4, d2]; rfl
    have r2 : (bytesOf s).drop (fr + l.length + 1) = pw e := by rw [← List.drop_drop, r1]; rfl
    obtain ⟨p1, p2, p3⟩ := pow_txt (l := l) r2 (by omega) h.exp hl0
    have d7 : rdAll s = true := by unfold rdAll; rw [d4, d0, d5, p1]; rfl
    have d8 : rdAt3 s = fr + l.length + 1 + (pw e).length := by unfold rdAt3; rw [d4, d0, d5, if_pos rfl, p3]
    have d9 : rdGood s = true := by
      unfold rdGood; rw [d7, d8]
      simp; omega
    rw [if_pos d9, hneg, d0, d5, p2]
theorem head_cons {X : List Int} {p : Nat} {c : Int} (h : (X.drop p).head? = some c) : X.drop p = c :: X.drop (p + 1) := by
  cases hx : X.drop p with
  | nil => rw [hx] at h; cases h
  | cons d Y =>
    rw [hx] at h
    have hd : d = c := by simpa using h
    have : X.drop (p + 1) = Y := by rw [← List.drop_drop, hx]; rfl
    rw [hd, this]
/-- What is read has that text. -/
theorem good_txt {s : ByteArray} (h : rdGood s = true) : bytesOf s = txt (rdNeg s) (rdD s) (powEE (rdD s) s (rdAt2 s)) ∧ RDec (rdD s) (powEE (rdD s) s (rdAt2 s)) := by
  have hl : (bytesOf s).length = s.size := bytesOf_length s
  unfold rdGood at h
  rw [Bool.and_eq_true] at h
  obtain ⟨h1, hend⟩ := h
  have hend : s.size ≤ rdAt3 s := by simpa using hend
  unfold rdAll at h1
  rw [Bool.and_eq_true] at h1
  obtain ⟨hE, hpow⟩ := h1
  have hat3 : rdAt3 s = powAA (rdD s) s (rdAt2 s) := by unfold rdAt3; rw [if_pos hE]
  have hat2 : rdAt2 s = rdAt s + 1 := by unfold rdAt2; rw [if_pos hE]
  unfold rdE at hE
  rw [Bool.and_eq_true] at hE
  obtain ⟨hok, h101⟩ := hE
  unfold rdOk at hok
  rw [Bool.and_eq_true] at hok
  obtain ⟨hnB, hlast⟩ := hok
  have hfl : rdFrom s ≤ s.size := rdFrom_le s
  have hm : bytesOf s = (if rdNeg s then [45] else []) ++ (bytesOf s).drop (rdFrom s) := by
    unfold rdFrom
    cases hn : rdNeg s with
    | true =>
      unfold rdNeg at hn
      rw [hasB_eq, decide_eq_true_eq] at hn
      have := head_cons hn
      simpa using this
    | false => simp
  rw [hasB_eq, decide_eq_true_eq] at h101
  have q1 := head_cons h101
  by_cases h48 : hasB s (rdFrom s) 48 = true
  · have d0 : rdD s = [] := by unfold rdD numD; rw [if_pos h48]
    have d1 : rdFull s = false := by unfold rdFull; rw [d0]; rfl
    have d2 : rdAt s = rdFrom s + 1 := by unfold rdAt numAt; rw [d1, if_pos h48]; rfl
    rw [hasB_eq, decide_eq_true_eq] at h48
    have q0 := head_cons h48
    rw [d2] at q1 hat2
    rw [hat2, d0] at hpow hat3
    rw [hat2, d0]
    have d6 : powIs [] s (rdFrom s + 1 + 1) = true := rfl
    unfold powOk at hpow
    rw [if_pos d6] at hpow
    unfold powAA at hat3
    rw [if_pos d6, if_pos hpow] at hat3
    rw [hasB_eq, decide_eq_true_eq] at hpow
    have q2 := head_cons hpow
    have q3 : (bytesOf s).drop (rdFrom s + 1 + 1 + 1) = [] := List.drop_of_length_le (by omega)
    have e0 : powEE [] s (rdFrom s + 1 + 1) = 0 := by unfold powEE; rw [if_pos d6]
    rw [e0]
    refine ⟨?_, RDec.nil⟩
    unfold txt
    rw [hm, q0, q1, q2, q3, pw_nought]
    cases rdNeg s <;> rfl
  · have h48' : hasB s (rdFrom s) 48 = false := by simpa using h48
    obtain ⟨Z, hZ⟩ := run_prefix 1000 ((bytesOf s).drop (rdFrom s))
    have hdig := run_digits 1000 ((bytesOf s).drop (rdFrom s))
    have hle := run_le 1000 ((bytesOf s).drop (rdFrom s))
    have hhd := run_head 1000 ((bytesOf s).drop (rdFrom s))
    have hto := figTo_run s (rdFrom s) 1000 (by omega) hfl
    have hat := bytesAt_run s (rdFrom s) 1000 (by omega) hfl
    generalize run 1000 ((bytesOf s).drop (rdFrom s)) = f at *
    obtain ⟨fF, fc, fs⟩ := figs_there hdig
    have d0 : rdD s = f.map figOf := by unfold rdD numD; rw [if_neg h48, hat]
    have hfpos : 0 < f.length := by
      unfold numB at hnB
      rw [h48', hto] at hnB
      simp at hnB
      omega
    have hDl : (rdD s).length = f.length := by rw [d0, List.length_map]
    have hlast' : rd (rdD s) ((f.length : Int) - 1) ≠ 0 := by
      rw [hDl] at hlast
      simp only [Bool.or_eq_true, decide_eq_true_eq] at hlast
      rcases hlast with h | h
      · omega
      · exact h
    have d1 : rdFull s = false := by
      unfold rdFull
      by_cases hk : (rdD s).length = 1000
      · have e1 : (f.length : Int) - 1 = 999 := by omega
        rw [e1] at hlast'
        simp [hlast']
      · simp [hk]
    have d2 : rdAt s = rdFrom s + f.length := by unfold rdAt numAt; rw [d1, h48', hto]; rfl
    have hDF : Figs (rdD s) := by rw [d0]; exact fF
    have hfirst : 0 < rd (rdD s) 0 := by
      have h1 := hhd hfpos
      have h2 : f.head? = some (rd f 0) := rd_head hfpos
      have h3 : (rdD s).head? = some (rd (rdD s) 0) := rd_head (by omega)
      rw [d0, List.head?_map, h2] at h3
      have h4 : figOf (rd f 0) = rd (rdD s) 0 := by rw [d0]; simpa using h3
      have h5 := hdig (rd f 0) (by have := rd_mem f 0 hfpos; simpa using this)
      rw [h2] at h1
      have h6 : rd f 0 ≠ 48 := by simpa using h1
      rw [← h4]
      unfold figOf
      omega
    have hlast0 : 0 < rd (rdD s) (((rdD s).length : Int) - 1) := by
      have e1 : ((rdD s).length : Int) - 1 = ((f.length - 1 : Nat) : Int) := by omega
      have := rd_figs hDF (f.length - 1)
      have e2 : (f.length : Int) - 1 = ((f.length - 1 : Nat) : Int) := by omega
      rw [e2] at hlast'
      rw [e1]
      omega
    have hZd : (bytesOf s).drop (rdFrom s + f.length) = Z := by rw [← List.drop_drop, hZ, List.drop_left]
    have hfT : figT (rdD s) = f := by unfold figT; rw [if_neg (by omega), d0, fc]
    rw [d2] at q1 hat2
    generalize hp : rdFrom s + f.length + 1 = p at *
    have hRD : ∀ e : Int, -1000 ≤ e → e ≤ 1000 → RDec (rdD s) e := fun e h1 h2 => ⟨hDF, .inr ⟨by omega, by omega, hfirst, hlast0, h1, h2⟩⟩
    have hX : ∀ e : Int, (bytesOf s).drop p = pw e → bytesOf s = txt (rdNeg s) (rdD s) e := by
      intro e he
      unfold txt
      rw [hfT, ← he, ← q1, hZd, ← hZ]
      exact hm
    rw [hat2] at hpow hat3 ⊢
    have hps : p ≤ s.size := by
      have := congrArg List.length q1
      rw [List.length_drop, List.length_cons] at this
      omega
    by_cases hI : powIs (rdD s) s p = true
    · have e0 : powEE (rdD s) s p = 0 := by unfold powEE; rw [if_pos hI]
      unfold powOk at hpow
      rw [if_pos hI] at hpow
      unfold powAA at hat3
      rw [if_pos hI, if_pos hpow] at hat3
      rw [hasB_eq, decide_eq_true_eq] at hpow
      have q2 := head_cons hpow
      have q3 : (bytesOf s).drop (p + 1) = [] := List.drop_of_length_le (by omega)
      rw [e0]
      exact ⟨hX 0 (by rw [q2, q3, pw_nought]), hRD 0 (by omega) (by omega)⟩
    · have e0 : powEE (rdD s) s p = powE s p := by unfold powEE; rw [if_neg hI]
      unfold powOk at hpow
      rw [if_neg hI] at hpow
      have hE0 : powE s p ≠ 0 := by simpa using hpow
      unfold powAA at hat3
      rw [if_neg hI] at hat3
      rw [e0]
      -- the figures of the power
      have hfr : powFr s p ≤ s.size := by
        unfold powFr
        split
        · rename_i z
          exact hasB_lt z
        · exact hps
      have u1 := bytesAt_run s (powFr s p) 4 (by omega) hfr
      have u2 := figTo_run s (powFr s p) 4 (by omega) hfr
      obtain ⟨V, hV⟩ := run_prefix 4 ((bytesOf s).drop (powFr s p))
      have vdig := run_digits 4 ((bytesOf s).drop (powFr s p))
      have vle := run_le 4 ((bytesOf s).drop (powFr s p))
      have vhd := run_head 4 ((bytesOf s).drop (powFr s p))
      generalize run 4 ((bytesOf s).drop (powFr s p)) = q at *
      obtain ⟨qF, qc, qs⟩ := figs_there vdig
      have hVl : (bytesOf s).length - powFr s p = q.length + V.length := by
        have := congrArg List.length hV
        rwa [List.length_drop, List.length_append] at this
      have hQ : powQ s p = powLoop q 0 := by unfold powQ; rw [u1]
      have hn := num_lt qF
      have hbrk : (powQ s p).2 = false := by
        cases hb : (powQ s p).2 with
        | false => rfl
        | true =>
          exfalso
          have hA : powAt s p = powFr s p + 3 := by unfold powAt; rw [hb]; rfl
          rw [hQ] at hb
          have hfar := powLoop_far q vdig 0 (by omega) hb
          rw [qs] at hfar
          have h3 : (q.map figOf).length ≤ 3 := by rw [List.length_map]; omega
          have h4 := T10_le h3
          have h5 : T10 3 = 1000 := by decide
          omega
      have hA : powAt s p = powFr s p + q.length := by unfold powAt; rw [hbrk, u2]; rfl
      rw [hQ] at hbrk
      have hnear := powLoop_near q vdig 0 (by omega) (.inl (by omega)) hbrk
      have hval := powLoop_num q vdig 0 (by omega) hnear
      rw [qs, Int.zero_mul, Int.zero_add] at hval hnear
      have hV0 : V = [] := List.eq_nil_of_length_eq_zero (by omega)
      have hdq : (bytesOf s).drop (powFr s p) = q := by rw [hV, hV0, List.append_nil]
      have hE : powE s p = if hasB s p 45 then -(num (q.map figOf)) else num (q.map figOf) := by unfold powE; rw [hQ, hval]
      have hne : num (q.map figOf) ≠ 0 := by
        intro hz
        rw [hz] at hE
        apply hE0
        rw [hE]
        split <;> rfl
      have hq0 : 0 < q.length := by
        rcases Nat.eq_zero_or_pos q.length with h | h
        · have : q = [] := List.eq_nil_of_length_eq_zero h
          rw [this] at hne
          exact absurd rfl hne
        · exact h
      have hq1 : 0 < rd (q.map figOf) 0 := by
        have h1 := vhd hq0
        have h2 : q.head? = some (rd q 0) := rd_head hq0
        have h3 : (q.map figOf).head? = some (rd (q.map figOf) 0) := rd_head (by rw [List.length_map]; omega)
        rw [List.head?_map, h2] at h3
        have h4 : figOf (rd q 0) = rd (q.map figOf) 0 := by simpa using h3
        have h5 := vdig (rd q 0) (by have := rd_mem q 0 hq0; simpa using this)
        rw [h2] at h1
        have h6 : rd q 0 ≠ 48 := by simpa using h1
        rw [← h4]
        unfold figOf
        omega
      have hdigs : (digsN (num (q.map figOf)).toNat).map chr = q := by
        rw [digsN_of (q.length - 1) (q.map figOf) (by rw [List.length_map]; omega) qF (.inl hq1), qc]
      by_cases h45 : hasB s p 45 = true
      · rw [if_pos h45] at hE
        have hfr1 : powFr s p = p + 1 := by unfold powFr; rw [if_pos h45]
        rw [hasB_eq, decide_eq_true_eq] at h45
        have q2 := head_cons h45
        rw [hE]
        refine ⟨hX _ ?_, hRD _ (by omega) (by omega)⟩
        rw [q2, ← hfr1, hdq]
        unfold pw
        rw [if_pos (by omega)]
        have : (-num (q.map figOf)).natAbs = (num (q.map figOf)).toNat := by omega
        rw [this, hdigs]
      · rw [if_neg h45] at hE
        have hfr1 : powFr s p = p := by unfold powFr; rw [if_neg h45]
        rw [hE]
        refine ⟨hX _ ?_, hRD _ (by omega) (by omega)⟩
        rw [← hfr1, hdq]
        unfold pw
        rw [if_neg (by omega), hdigs]
theorem rdAt3_le (s : ByteArray) : rdAt3 s ≤ s.size := by
  unfold rdAt3
  have h2 : rdAt2 s ≤ s.size := by
    unfold rdAt2
    split
    · rename_i z
      unfold rdE at z
      rw [Bool.and_eq_true] at z
      exact hasB_lt z.2
    · exact rdAt_le s
  split
  · unfold powAA
    split
    · split
      · rename_i z; exact hasB_lt z
      · exact h2
    · have hfr : powFr s (rdAt2 s) ≤ s.size := by
        unfold powFr
        split
        · rename_i z; exact hasB_lt z
        · exact h2
      have u1 := bytesAt_run s (powFr s (rdAt2 s)) 4 (by omega) hfr
      have u2 := figTo_run s (powFr s (rdAt2 s)) 4 (by omega) hfr
      obtain ⟨V, hV⟩ := run_prefix 4 ((bytesOf s).drop (powFr s (rdAt2 s)))
      have vdig := run_digits 4 ((bytesOf s).drop (powFr s (rdAt2 s)))
      have vle := run_le 4 ((bytesOf s).drop (powFr s (rdAt2 s)))
      generalize run 4 ((bytesOf s).drop (powFr s (rdAt2 s))) = q at *
      have hVl : (bytesOf s).length - powFr s (rdAt2 s) = q.length + V.length := by
        have := congrArg List.length hV
        rwa [List.length_drop, List.length_append] at this
      rw [bytesOf_length] at hVl
      unfold powAt
      split
      · rename_i z
        unfold powQ at z
        rw [u1] at z
        have hfar := powLoop_far q vdig 0 (by omega) z
        obtain ⟨qF, qc, qs⟩ := figs_there vdig
        rw [qs] at hfar
        have hn := num_lt qF
        rw [List.length_map] at hn
        have h5 : T10 3 = 1000 := by decide
        have : 3 < q.length := T10_lt (by omega)
        omega
      · rw [u2]; omega
  · exact h2
theorem text_f (g : Bool) {l : List Int} {e : Int} (h : RDec l e) : dec_Text.f g l e = some ⟨(decText g l e).toArray⟩ := by
  unfold dec_Text.f
  have h1 := h.len
  have h2 := h.exp
  rw [if_pos ⟨by omega, by omega, by omega⟩]
end Go.Proofs.YtahkamggdbibiaaDoor.PZ
end

section
set_option linter.unusedSimpArgs false
set_option linter.unusedVariables false
namespace Go.Proofs.YtahkamggdbibiaaDoor.PZ
open Go.RowKit Go.Proofs.YtahkamggdbibiaaDoorW.PrintWords Go.Proofs.YtahkamggdbibiaaDoorW.PrintLast
inductive BSt where
  | s0 | s1 | z | d (nought : Bool) | ze | e | em | p (v : Int) | f
def bstep : BSt → Int → Option BSt
  | .s0, c => if c = 45 then some .s1 else if c = 48 then some .z else if isD c then some (.d false) else none
  | .s1, c => if c = 48 then some .z else if isD c then some (.d false) else none
  | .z, c => if c = 101 then some .ze else none
  | .d b, c => if isD c then some (.d (decide (c = 48))) else if c = 101 ∧ b = false then some .e else none
  | .ze, c => if c = 48 then some .f else none
  | .e, c => if c = 48 then some .f else if c = 45 then some .em else if isD c then some (.p (c - 48)) else none
  | .em, c => if c = 48 then none else if isD c then some (.p (c - 48)) else none
  | .p v, c => if isD c ∧ v * 10 + (c - 48) ≤ 1000 then some (.p (v * 10 + (c - 48))) else none
  | .f, _ => none
def brun : BSt → List Int → Option BSt
  | st, [] => some st
  | st, c :: t => (bstep st c).bind fun st' => brun st' t
theorem brun_append (st : BSt) (a b : List Int) : brun st (a ++ b) = (brun st a).bind fun st' => brun st' b := by
  induction a generalizing st with
  | nil => rfl
  | cons c a ih =>
    simp only [List.cons_append, brun]
    cases bstep st c with
    | none => rfl
    | some st' => exact ih st'
theorem brun_take {st : BSt} {t : List Int} {st' : BSt} (h : brun st t = some st') (m : Nat) : ∃ st'', brun st (t.take m) = some st'' := by
  rw [← List.take_append_drop m t, brun_append] at h
  cases hx : brun st (t.take m) with
  | none => rw [hx] at h; cases h
  | some x => exact ⟨x, rfl⟩
theorem isD_chr {d : Int} (h : 0 ≤ d ∧ d ≤ 9) : isD (chr d) = true := by unfold isD chr; simp; omega
def lastZ (b : Bool) : List Int → Bool
  | [] => b
  | d :: l => lastZ (decide (d = 0)) l
theorem lastZ_rd {l : List Int} (h : 0 < l.length) : ∀ b, lastZ b l = decide (rd l ((l.length : Int) - 1) = 0) := by
  induction l with
  | nil => simp at h
  | cons d l ih =>
    intro b
    cases l with
    | nil => rfl
    | cons x l =>
      have e : ((d :: x :: l).length : Int) - 1 = (((x :: l).length - 1 + 1 : Nat) : Int) := by simp
      have e2 : ((x :: l).length : Int) - 1 = (((x :: l).length - 1 : Nat) : Int) := by simp
      have := ih (by simp) (decide (d = 0))
      rw [e2, rd_nat] at this
      rw [e, rd_nat]
      exact this
/-- Figures, read on. -/
theorem brun_figs {l : List Int} (h : Figs l) : ∀ b, brun (.d b) (l.map chr) = some (.d (lastZ b l)) := by
  induction l with
  | nil => intro b; rfl
  | cons d l ih =>
    intro b
    have hd := isD_chr h.head
    have h0 : decide (chr d = 48) = decide (d = 0) := by rw [decide_eq_decide]; unfold chr; omega
    simp only [List.map_cons, brun, bstep, hd, if_true, Option.bind_some, h0]
    rw [ih h.tail]
    rfl
/-- All figures of a number, the first of which is no nought. -/
theorem brun_number {l : List Int} (h : Figs l) (hl : 0 < l.length) (h0 : 0 < rd l 0) (st : BSt) (hs : st = .s0 ∨ st = .s1) : brun st (l.map chr) = some (.d (decide (rd l ((l.length : Int) - 1) = 0))) := by
  cases l with
  | nil => simp at hl
  | cons d l =>
    have hd := h.head
    have hd0 : 0 < d := h0
    have hD := isD_chr hd
    have e1 : bstep st (chr d) = some (.d false) := by
      rcases hs with rfl | rfl
      · simp only [bstep, hD, if_true]
        rw [if_neg (by unfold chr; omega), if_neg (by unfold chr; omega)]
      · simp only [bstep, hD, if_true]
        rw [if_neg (by unfold chr; omega)]
    simp only [List.map_cons, brun, e1, Option.bind_some]
    rw [brun_figs h.tail]
    have h2 := lastZ_rd hl true
    have h3 : lastZ true (d :: l) = lastZ false l := by
      show lastZ (decide (d = 0)) l = lastZ false l
      rw [decide_eq_false (by omega)]
    rw [← h2, h3]
/-- The figures of a power. -/
theorem brun_pow {q : List Int} (h : Figs q) : ∀ v : Int, 0 ≤ v → v * T10 q.length + num q ≤ 1000 → brun (.p v) (q.map chr) = some (.p (v * T10 q.length + num q)) := by
  induction q with
  | nil => intro v _ _; simp [brun, T10_zero, num_nil]
  | cons d q ih =>
    intro v hv hb
    have hd := h.head
    have hD := isD_chr hd
    have hn := num_lt h.tail
    have hp := T10_pos q.length
    rw [List.length_cons, T10_succ, num_cons] at hb ⊢
    have e1 : v * (T10 q.length * 10) + (d * T10 q.length + num q) = (v * 10 + d) * T10 q.length + num q := by grind
    rw [e1] at hb ⊢
    have hle : (v * 10 + d) * 1 ≤ (v * 10 + d) * T10 q.length := Int.mul_le_mul_of_nonneg_left (by omega) (by omega)
    have hc : chr d - 48 = d := by unfold chr; omega
    simp only [List.map_cons, brun, bstep, hD, hc]
    rw [if_pos ⟨trivial, by omega⟩]
    exact ih h.tail _ (by omega) hb
theorem brun_pow0 {q : List Int} (h : Figs q) (hl : 0 < q.length) (h0 : 0 < rd q 0) (hb : num q ≤ 1000) (st : BSt) (hs : st = .e ∨ st = .em) : brun st (q.map chr) = some (.p (num q)) := by
  cases q with
  | nil => simp at hl
  | cons d q =>
    have hd := h.head
    have hd0 : 0 < d := h0
    have hD := isD_chr hd
    have hc : chr d - 48 = d := by unfold chr; omega
    have e1 : bstep st (chr d) = some (.p d) := by
      rcases hs with rfl | rfl
      · simp only [bstep, hD, if_true, hc]
        rw [if_neg (by unfold chr; omega), if_neg (by unfold chr; omega)]
      · simp only [bstep, hD, if_true, hc]
        rw [if_neg (by unfold chr; omega)]
    rw [num_cons] at hb ⊢
    simp only [List.map_cons, brun, e1, Option.bind_some]
    exact brun_pow h.tail d (by omega) hb
def sgn (g : Bool) : List Int := if g then [45] else []
theorem brun_sgn (g : Bool) : ∃ st, brun .s0 (sgn g) = some st ∧ (st = .s0 ∨ st = .s1) := by
  cases g
  · exact ⟨.s0, rfl, .inl rfl⟩
  · exact ⟨.s1, rfl, .inr rfl⟩
theorem brun_esgn (g : Bool) : ∃ st, brun .e (sgn g) = some st ∧ (st = .e ∨ st = .em) := by
  cases g
  · exact ⟨.e, rfl, .inl rfl⟩
  · exact ⟨.em, rfl, .inr rfl⟩
theorem pw_sgn {e : Int} (h : e ≠ 0) : pw e = sgn (decide (e < 0)) ++ (digsN e.natAbs).map chr := by
  unfold pw sgn
  by_cases hn : e < 0
  · rw [if_pos hn, decide_eq_true hn]; rfl
  · have : e.toNat = e.natAbs := by omega
    rw [if_neg hn, decide_eq_false hn, this]; rfl
/-- A right number's text is read to its end. -/
theorem brun_txt {g : Bool} {l : List Int} {e : Int} (h : RDec l e) : ∃ st, brun .s0 (txt g l e) = some st := by
  obtain ⟨st, h1, h2⟩ := brun_sgn g
  have ht : txt g l e = sgn g ++ (figT l ++ 101 :: pw e) := rfl
  rw [ht, brun_append, h1, Option.bind_some, brun_append]
  by_cases h0 : l.length = 0
  · have := h.nought h0
    subst this
    have hF : figT l = [48] := by unfold figT; rw [if_pos h0]
    rw [hF, pw_nought]
    rcases h2 with rfl | rfl
    · exact ⟨.f, rfl⟩
    · exact ⟨.f, rfl⟩
  · have hl : 0 < l.length := by omega
    have hF : figT l = l.map chr := by unfold figT; rw [if_neg h0]
    have hlast := h.last hl
    rw [hF, brun_number h.figs hl (h.first hl) st h2, Option.bind_some, decide_eq_false (by omega)]
    have e1 : ∀ t, brun (.d false) (101 :: t) = brun .e t := fun t => rfl
    rw [e1]
    by_cases he : e = 0
    · subst he
      rw [pw_nought]
      exact ⟨.f, rfl⟩
    · obtain ⟨s2, h3, h4⟩ := brun_esgn (decide (e < 0))
      have hx := h.exp
      have hu : 0 < e.natAbs := by omega
      rw [pw_sgn he, brun_append, h3, Option.bind_some]
      rw [brun_pow0 (digsN_figs _) (digsN_pos _) (digsN_first _ hu) (by rw [digsN_num]; omega) s2 h4]
      exact ⟨_, rfl⟩
/-- No text of a right number goes on where the machine stops. -/
theorem brun_no {t : List Int} (h : brun .s0 t = none) {g : Bool} {l : List Int} {e : Int} (hd : RDec l e) (Z : List Int) : t ++ Z ≠ txt g l e := by
  intro he
  obtain ⟨st, hs⟩ := brun_txt (g := g) hd
  rw [← he, brun_append, h] at hs
  cases hs
/-! What a beginning that the machine has read is, and what makes a text of it. -/
structure Lead (l : List Int) : Prop where
  figs : Figs l
  pos : 0 < l.length
  first : 0 < rd l 0
def BM : BSt → List Int → Prop
  | .s0, t => t = []
  | .s1, t => t = [45]
  | .z, t => ∃ g, t = sgn g ++ [48]
  | .d b, t => ∃ g l, Lead l ∧ t = sgn g ++ l.map chr ∧ b = decide (rd l ((l.length : Int) - 1) = 0)
  | .ze, t => ∃ g, t = sgn g ++ [48, 101]
  | .e, t => ∃ g l, Lead l ∧ 0 < rd l ((l.length : Int) - 1) ∧ t = sgn g ++ (l.map chr ++ [101])
  | .em, t => ∃ g l, Lead l ∧ 0 < rd l ((l.length : Int) - 1) ∧ t = sgn g ++ (l.map chr ++ [101, 45])
  | .p v, t => ∃ g l sg q, Lead l ∧ 0 < rd l ((l.length : Int) - 1) ∧ Lead q ∧ num q = v ∧ v ≤ 1000 ∧ t = sgn g ++ (l.map chr ++ 101 :: (sgn sg ++ q.map chr))
  | .f, t => ∃ g l, (l = [] ∨ (Lead l ∧ 0 < rd l ((l.length : Int) - 1))) ∧ t = sgn g ++ (figT l ++ [101, 48])
theorem isD_iff (c : Int) : isD c = true ↔ 48 ≤ c ∧ c ≤ 57 := by unfold isD; simp
theorem chr_back {c : Int} : chr (c - 48) = c := by unfold chr; omega
theorem lead_one {c : Int} (h : isD c = true) (h0 : c ≠ 48) : Lead [c - 48] := by
  have := (isD_iff c).1 h
  exact ⟨Figs.cons (by omega) (by omega) Figs.nil, by simp, by show 0 < c - 48; omega⟩
theorem rd_snoc_last (l : List Int) (d : Int) : rd (l ++ [d]) (((l ++ [d]).length : Int) - 1) = d := by
  have e : ((l ++ [d]).length : Int) - 1 = (l.length : Int) := by simp
  rw [e, rd_append_right _ _ _ (Nat.le_refl _), Nat.sub_self]
  rfl
theorem Lead.snoc {l : List Int} (h : Lead l) {c : Int} (hc : isD c = true) : Lead (l ++ [c - 48]) := by
  have := (isD_iff c).1 hc
  refine ⟨h.figs.append (Figs.cons (by omega) (by omega) Figs.nil), by simp, ?_⟩
  have e : rd (l ++ [c - 48]) ((0 : Nat) : Int) = rd l ((0 : Nat) : Int) := rd_append_left _ _ _ h.pos
  exact lt_of_lt_of_eq h.first e.symm
theorem figT_lead {l : List Int} (h : Lead l) : figT l = l.map chr := by have := h.pos; unfold figT; rw [if_neg (by omega)]
theorem BM_step {st : BSt} {t : List Int} {c : Int} {st' : BSt} (h : BM st t) (hs : bstep st c = some st') : BM st' (t ++ [c]) := by
  cases st with
  | s0 =>
    obtain rfl : t = [] := h
    simp only [bstep] at hs
    by_cases c1 : c = 45
    · rw [if_pos c1] at hs; cases hs; rw [c1]; rfl
    rw [if_neg c1] at hs
    by_cases c2 : c = 48
    · rw [if_pos c2] at hs; cases hs; rw [c2]; exact ⟨false, rfl⟩
    rw [if_neg c2] at hs
    by_cases c3 : isD c = true
    · rw [if_pos c3] at hs; cases hs
      have hd := (isD_iff c).1 c3
      refine ⟨false, [c - 48], lead_one c3 c2, by simp [sgn, chr_back], ?_⟩
      have : rd [c - 48] ((([c - 48] : List Int).length : Int) - 1) = c - 48 := rfl
      rw [this, decide_eq_false (by omega)]
    · rw [if_neg c3] at hs; cases hs
  | s1 =>
    obtain rfl : t = [45] := h
    simp only [bstep] at hs
    by_cases c2 : c = 48
    · rw [if_pos c2] at hs; cases hs; rw [c2]; exact ⟨true, rfl⟩
    rw [if_neg c2] at hs
    by_cases c3 : isD c = true
    · rw [if_pos c3] at hs; cases hs
      have hd := (isD_iff c).1 c3
      refine ⟨true, [c - 48], lead_one c3 c2, by simp [sgn, chr_back], ?_⟩
      have : rd [c - 48] ((([c - 48] : List Int).length : Int) - 1) = c - 48 := rfl
      rw [this, decide_eq_false (by omega)]
    · rw [if_neg c3] at hs; cases hs
  | z =>
    obtain ⟨g, rfl⟩ := h
    simp only [bstep] at hs
    by_cases c1 : c = 101
    · rw [if_pos c1] at hs; cases hs; exact ⟨g, by rw [c1]; simp⟩
    · rw [if_neg c1] at hs; cases hs
  | d b =>
    obtain ⟨g, l, hl, rfl, hb⟩ := h
    simp only [bstep] at hs
    by_cases c1 : isD c = true
    · rw [if_pos c1] at hs; cases hs
      refine ⟨g, l ++ [c - 48], hl.snoc c1, by simp [chr_back], ?_⟩
      rw [rd_snoc_last, decide_eq_decide]
      omega
    rw [if_neg c1] at hs
    by_cases c2 : c = 101 ∧ b = false
    · rw [if_pos c2] at hs; cases hs
      have h0 : ¬ rd l ((l.length : Int) - 1) = 0 := of_decide_eq_false (hb.symm.trans c2.2)
      have hf := rd_figs hl.figs (l.length - 1)
      have e : ((l.length - 1 : Nat) : Int) = (l.length : Int) - 1 := by have := hl.pos; omega
      rw [e] at hf
      exact ⟨g, l, hl, by omega, by rw [c2.1]; simp⟩
    · rw [if_neg c2] at hs; cases hs
  | ze =>
    obtain ⟨g, rfl⟩ := h
    simp only [bstep] at hs
    by_cases c1 : c = 48
    · rw [if_pos c1] at hs; cases hs; exact ⟨g, [], .inl rfl, by rw [c1]; simp [figT]⟩
    · rw [if_neg c1] at hs; cases hs
  | e =>
    obtain ⟨g, l, hl, h1, rfl⟩ := h
    simp only [bstep] at hs
    by_cases c1 : c = 48
    · rw [if_pos c1] at hs; cases hs; exact ⟨g, l, .inr ⟨hl, h1⟩, by rw [c1, figT_lead hl]; simp⟩
    rw [if_neg c1] at hs
    by_cases c2 : c = 45
    · rw [if_pos c2] at hs; cases hs; exact ⟨g, l, hl, h1, by rw [c2]; simp⟩
    rw [if_neg c2] at hs
    by_cases c3 : isD c = true
    · rw [if_pos c3] at hs; cases hs
      have hd := (isD_iff c).1 c3
      exact ⟨g, l, false, [c - 48], hl, h1, lead_one c3 c1, num_one _, by omega, by simp [sgn, chr_back]⟩
    · rw [if_neg c3] at hs; cases hs
  | em =>
    obtain ⟨g, l, hl, h1, rfl⟩ := h
    simp only [bstep] at hs
    by_cases c1 : c = 48
    · rw [if_pos c1] at hs; cases hs
    rw [if_neg c1] at hs
    by_cases c3 : isD c = true
    · rw [if_pos c3] at hs; cases hs
      have hd := (isD_iff c).1 c3
      exact ⟨g, l, true, [c - 48], hl, h1, lead_one c3 c1, num_one _, by omega, by simp [sgn, chr_back]⟩
    · rw [if_neg c3] at hs; cases hs
  | p v =>
    obtain ⟨g, l, sg, q, hl, h1, hq, hv, hb, rfl⟩ := h
    simp only [bstep] at hs
    by_cases c1 : isD c = true ∧ v * 10 + (c - 48) ≤ 1000
    · rw [if_pos c1] at hs; cases hs
      exact ⟨g, l, sg, q ++ [c - 48], hl, h1, hq.snoc c1.1, by rw [num_snoc, hv], c1.2, by simp [chr_back]⟩
    · rw [if_neg c1] at hs; cases hs
  | f => simp only [bstep] at hs; cases hs
theorem BM_run {t : List Int} : ∀ {st st' : BSt} {t0 : List Int}, BM st t0 → brun st t = some st' → BM st' (t0 ++ t) := by
  induction t with
  | nil => intro st st' t0 h hr; cases hr; rwa [List.append_nil]
  | cons c t ih =>
    intro st st' t0 h hr
    simp only [brun] at hr
    cases hs : bstep st c with
    | none => rw [hs] at hr; cases hr
    | some s2 =>
      rw [hs] at hr
      have := ih (BM_step h hs) hr
      rwa [List.append_assoc] at this
def btails : List (List Int) := [[], [49, 101, 48], [101, 48], [48], [49]]
theorem Lead.rdec {l : List Int} (h : Lead l) (hl : l.length ≤ 1000) (h1 : 0 < rd l ((l.length : Int) - 1)) {e : Int} (he : -1000 ≤ e ∧ e ≤ 1000) : RDec l e := by
  have := h.pos
  have := h.first
  exact ⟨h.figs, .inr ⟨by omega, by omega, by omega, by omega, by omega, by omega⟩⟩
theorem BM_tail {st : BSt} {t : List Int} (h : BM st t) (hl : t.length ≤ 900) : ∃ Z ∈ btails, ∃ g l e, RDec l e ∧ t ++ Z = txt g l e := by
  have one : RDec [1] 0 := Lead.rdec ⟨Figs.cons (by decide) (by decide) Figs.nil, by decide, by decide⟩ (by decide) (by decide) (by decide)
  cases st with
  | s0 =>
    obtain rfl : t = [] := h
    exact ⟨[49, 101, 48], by decide, false, [1], 0, one, by unfold txt; rw [pw_nought]; rfl⟩
  | s1 =>
    obtain rfl : t = [45] := h
    exact ⟨[49, 101, 48], by decide, true, [1], 0, one, by unfold txt; rw [pw_nought]; rfl⟩
  | z =>
    obtain ⟨g, rfl⟩ := h
    exact ⟨[101, 48], by decide, g, [], 0, RDec.nil, by unfold txt; rw [pw_nought]; cases g <;> rfl⟩
  | d b =>
    obtain ⟨g, l, hd, rfl, hb⟩ := h
    have hll : l.length ≤ 900 := by rw [List.length_append, List.length_map] at hl; omega
    by_cases h0 : rd l ((l.length : Int) - 1) = 0
    · have hn : Lead (l ++ [1]) := hd.snoc (c := 49) (by decide)
      refine ⟨[49, 101, 48], by decide, g, l ++ [1], 0, hn.rdec (by simp; omega) (by rw [rd_snoc_last]; decide) (by decide), ?_⟩
      unfold txt
      rw [pw_nought, figT_lead hn]
      simp [sgn, chr]
    · have hf := rd_figs hd.figs (l.length - 1)
      have e : ((l.length - 1 : Nat) : Int) = (l.length : Int) - 1 := by have := hd.pos; omega
      rw [e] at hf
      refine ⟨[101, 48], by decide, g, l, 0, hd.rdec (by omega) (by omega) (by decide), ?_⟩
      unfold txt
      rw [pw_nought, figT_lead hd]
      simp [sgn]
  | ze =>
    obtain ⟨g, rfl⟩ := h
    exact ⟨[48], by decide, g, [], 0, RDec.nil, by unfold txt; rw [pw_nought]; cases g <;> rfl⟩
  | e =>
    obtain ⟨g, l, hd, h1, rfl⟩ := h
    have hll : l.length ≤ 900 := by rw [List.length_append, List.length_append, List.length_map] at hl; omega
    refine ⟨[48], by decide, g, l, 0, hd.rdec (by omega) h1 (by decide), ?_⟩
    unfold txt
    rw [pw_nought, figT_lead hd]
    simp [sgn]
  | em =>
    obtain ⟨g, l, hd, h1, rfl⟩ := h
    have hll : l.length ≤ 900 := by rw [List.length_append, List.length_append, List.length_map] at hl; omega
    refine ⟨[49], by decide, g, l, -1, hd.rdec (by omega) h1 (by decide), ?_⟩
    unfold txt
    rw [figT_lead hd, pw_sgn (by decide), show ((-1 : Int)).natAbs = 1 from rfl, digsN_small (by decide)]
    simp [sgn, chr]
  | p v =>
    obtain ⟨g, l, sg, q, hd, h1, hq, hv, hb, rfl⟩ := h
    have hll : l.length ≤ 900 := by rw [List.length_append, List.length_append, List.length_map] at hl; omega
    have hp := num_pos hq.figs hq.pos hq.first
    have := T10_pos (q.length - 1)
    have hdg : digsN (num q).toNat = q := digsN_of (q.length - 1) q (by have := hq.pos; omega) hq.figs (.inl hq.first)
    cases sg with
    | false =>
      refine ⟨[], by decide, g, l, v, hd.rdec (by omega) h1 (by omega), ?_⟩
      unfold txt
      have e1 : v.natAbs = (num q).toNat := by omega
      rw [figT_lead hd, pw_sgn (by omega), e1, hdg, decide_eq_false (by omega), List.append_nil]
      rfl
    | true =>
      refine ⟨[], by decide, g, l, -v, hd.rdec (by omega) h1 (by omega), ?_⟩
      unfold txt
      have e1 : (-v).natAbs = (num q).toNat := by omega
      rw [figT_lead hd, pw_sgn (by omega), e1, hdg, decide_eq_true (by omega), List.append_nil]
      rfl
  | f =>
    obtain ⟨g, l, hd, rfl⟩ := h
    rcases hd with rfl | ⟨hd, h1⟩
    · exact ⟨[], by decide, g, [], 0, RDec.nil, by unfold txt; rw [pw_nought, List.append_nil]; rfl⟩
    · have hll : l.length ≤ 900 := by rw [figT_lead hd, List.length_append, List.length_append, List.length_map] at hl; omega
      exact ⟨[], by decide, g, l, 0, hd.rdec (by omega) h1 (by decide), by unfold txt; rw [pw_nought, List.append_nil]; rfl⟩
theorem begins_yes {t : List Int} {st : BSt} (h : brun .s0 t = some st) (hl : t.length ≤ 900) : ∃ Z ∈ btails, ∃ g l e, RDec l e ∧ t ++ Z = txt g l e := by
  have := BM_run (st := .s0) (t0 := []) rfl h
  exact BM_tail this hl
end Go.Proofs.YtahkamggdbibiaaDoor.PZ
end

section
set_option linter.unusedSimpArgs false
set_option linter.unusedVariables false
namespace Go.Proofs.YtahkamggdbibiaaDoor.PZ
open Go.RowKit Go.Proofs.YtahkamggdbibiaaDoorW.PrintWords Go.Proofs.YtahkamggdbibiaaDoorW.PrintLast
structure BAt (X : List Int) (p : Nat) (st : BSt) : Prop where
  le : p ≤ X.length
  run : brun .s0 (X.take p) = some st
theorem BAt.adv {X : List Int} {p : Nat} {st st' : BSt} (h : BAt X p st) {A Z : List Int} (hX : X.drop p = A ++ Z) (hr : brun st A = some st') : BAt X (p + A.length) st' := by
  have hl := congrArg List.length hX
  rw [List.length_drop, List.length_append] at hl
  have := h.le
  refine ⟨by omega, ?_⟩
  rw [List.take_add, brun_append, h.run, Option.bind_some, hX, List.take_left' rfl]
  exact hr
theorem BAt.one {X : List Int} {p : Nat} {st st' : BSt} (h : BAt X p st) {c : Int} {Z : List Int} (hX : X.drop p = c :: Z) (hr : bstep st c = some st') : BAt X (p + 1) st' :=
  h.adv (A := [c]) (Z := Z) hX (by simp only [brun, hr, Option.bind_some])
def Stops (X : List Int) (p : Nat) : Prop := ∃ st, BAt X p st ∧ ∀ c Z, X.drop p = c :: Z → bstep st c = none
theorem Stops.no {X : List Int} {p : Nat} (h : Stops X p) (hp : p < X.length) : brun .s0 (X.take (p + 1)) = none := by
  obtain ⟨st, h1, h2⟩ := h
  have hd : X.drop p = X[p] :: X.drop (p + 1) := List.drop_eq_getElem_cons hp
  have := h2 _ _ hd
  rw [List.take_add, brun_append, h1.run, Option.bind_some, hd]
  simp only [List.take_succ_cons, List.take_zero, brun, this, Option.bind_none]
theorem Stops.yes {X : List Int} {p : Nat} (h : Stops X p) {m : Nat} (hm : m ≤ p) : ∃ st, brun .s0 (X.take m) = some st := by
  obtain ⟨st, h1, _⟩ := h
  have := brun_take h1.run m
  rwa [List.take_take, Nat.min_eq_left hm] at this
theorem run_nil {most : Nat} {Y : List Int} (hm : 0 < most) (h : run most Y = []) : ∀ c Z, Y = c :: Z → c = 48 ∨ isD c = false := by
  intro c Z hY
  subst hY
  unfold run at h
  by_cases h48 : c = 48
  · exact .inl h48
  · rw [if_neg (by simpa using h48)] at h
    cases hd : isD c with
    | false => exact .inr rfl
    | true =>
      rw [List.takeWhile_cons_of_pos hd] at h
      cases most with
      | zero => omega
      | succ k => rw [List.take_succ_cons] at h; cases h
theorem run_stop {most : Nat} {Y Z : List Int} (h : Y = run most Y ++ Z) (hp : 0 < (run most Y).length) (hl : (run most Y).length < most) : ∀ c Z', Z = c :: Z' → isD c = false := by
  intro c Z' hZ
  unfold run at h hp hl
  split at hp
  · simp at hp
  · rename_i h48
    rw [if_neg h48] at h hl
    have ht : (Y.takeWhile isD).take most = Y.takeWhile isD := by
      refine List.take_of_length_le ?_
      rw [List.length_take] at hl
      omega
    rw [ht] at h
    have hsp := List.takeWhile_append_dropWhile (p := isD) (l := Y)
    have hZ2 : Z = Y.dropWhile isD := by
      have : Y.takeWhile isD ++ Y.dropWhile isD = Y.takeWhile isD ++ Z := by rw [hsp]; exact h
      exact (List.append_cancel_left this).symm
    cases hd : isD c with
    | false => rfl
    | true =>
      have : ∀ Y : List Int, ∀ c Z', Y.dropWhile isD = c :: Z' → isD c = false := by
        intro Y
        induction Y with
        | nil => intro c Z' h; cases h
        | cons y Y ih =>
          intro c Z' h
          by_cases hy : isD y = true
          · rw [List.dropWhile_cons_of_pos hy] at h; exact ih c Z' h
          · rw [List.dropWhile_cons_of_neg hy] at h
            cases h
            simpa using hy
      have := this Y c Z' (by rw [← hZ2, hZ])
      rw [hd] at this
      cases this
theorem chr_map {f : List Int} (h : ∀ c ∈ f, 48 ≤ c ∧ c ≤ 57) : (f.map figOf).map chr = f := (figs_there h).2.1
theorem lead_of {f : List Int} (hd : ∀ c ∈ f, 48 ≤ c ∧ c ≤ 57) (hp : 0 < f.length) (hh : f.head? ≠ some 48) : Lead (f.map figOf) := by
  refine ⟨(figs_there hd).1, by simpa using hp, ?_⟩
  cases f with
  | nil => simp at hp
  | cons c f =>
    have h1 := hd c List.mem_cons_self
    have h2 : c ≠ 48 := by simpa using hh
    show 0 < figOf c
    unfold figOf
    omega
theorem hasB_false {s : ByteArray} {p : Nat} {c : Int} (h : hasB s p c = false) : ∀ x Z, (bytesOf s).drop p = x :: Z → x ≠ c := by
  intro x Z hx hc
  rw [hasB_eq, hx, hc] at h
  simp at h
theorem hasB_true {s : ByteArray} {p : Nat} {c : Int} (h : hasB s p c = true) : (bytesOf s).drop p = c :: (bytesOf s).drop (p + 1) := by
  rw [hasB_eq, decide_eq_true_eq] at h
  exact head_cons h
/-- The power's part. -/
theorem place_pow {s : ByteArray} (hs : s.size ≤ 900) {p : Nat} (hp : p ≤ s.size) (h : BAt (bytesOf s) p .e) {l : List Int} (hl : 0 < l.length) (hbad : ¬ (powOk l s p = true ∧ ¬ powAA l s p < s.size)) : Stops (bytesOf s) (powAA l s p) := by
  have hX : (bytesOf s).length = s.size := bytesOf_length s
  have hl0 : ¬ l.length = 0 := by omega
  by_cases h48 : hasB s p 48 = true
  · have hI : powIs l s p = true := by unfold powIs; rw [h48]; simp
    have hA : powAA l s p = p + 1 := by unfold powAA; rw [if_pos hI, if_pos h48]
    rw [hA]
    exact ⟨.f, h.one (hasB_true h48) (by simp only [bstep]; rfl), fun c Z _ => rfl⟩
  · have h48' : hasB s p 48 = false := by simpa using h48
    have hI : powIs l s p = false := by unfold powIs; rw [h48']; simpa using hl0
    have hA : powAA l s p = powAt s p := by unfold powAA; rw [hI]; rfl
    have hO : powOk l s p = decide (powE s p ≠ 0) := by unfold powOk; rw [hI]; rfl
    rw [hA, hO] at hbad
    rw [hA]
    -- the sign
    have hsg : ∃ st, BAt (bytesOf s) (powFr s p) st ∧ powFr s p ≤ s.size ∧ ((st = .e ∧ powFr s p = p ∧ hasB s p 45 = false) ∨ (st = .em ∧ powFr s p = p + 1)) := by
      unfold powFr
      by_cases h45 : hasB s p 45 = true
      · rw [if_pos h45]
        have := h.one (hasB_true h45) (st' := .em) (by simp only [bstep]; rfl)
        exact ⟨.em, this, by rw [← hX]; exact this.le, .inr ⟨rfl, rfl⟩⟩
      · rw [if_neg h45]
        exact ⟨.e, h, hp, .inl ⟨rfl, rfl, by simpa using h45⟩⟩
    obtain ⟨st, hB, hfl, hst⟩ := hsg
    have hst2 : st = .e ∨ st = .em := hst.elim (fun h => .inl h.1) (fun h => .inr h.1)
    have u1 := bytesAt_run s (powFr s p) 4 (by omega) hfl
    have u2 := figTo_run s (powFr s p) 4 (by omega) hfl
    obtain ⟨V, hV⟩ := run_prefix 4 ((bytesOf s).drop (powFr s p))
    have vdig := run_digits 4 ((bytesOf s).drop (powFr s p))
    have vle := run_le 4 ((bytesOf s).drop (powFr s p))
    have vhd := run_head 4 ((bytesOf s).drop (powFr s p))
    have vnil := run_nil (most := 4) (Y := (bytesOf s).drop (powFr s p)) (by omega)
    have vstop := run_stop (most := 4) (Y := (bytesOf s).drop (powFr s p)) hV
    have hQ : powQ s p = powLoop (run 4 ((bytesOf s).drop (powFr s p))) 0 := by unfold powQ; rw [u1]
    generalize hq : run 4 ((bytesOf s).drop (powFr s p)) = q at *
    obtain ⟨qF, qc, qs⟩ := figs_there vdig
    have hn := num_lt qF
    rw [List.length_map] at hn
    have hdrop : ∀ k, (bytesOf s).drop (powFr s p + k) = (q ++ V).drop k := fun k => by rw [← List.drop_drop, hV]
    have hbd : powFr s p + q.length ≤ s.size := by
      have := congrArg List.length hV
      rw [List.length_drop, List.length_append, hX] at this
      omega
    by_cases hq0 : q.length = 0
    · have hq1 : q = [] := List.eq_nil_of_length_eq_zero hq0
      have hL : powLoop q 0 = (0, false) := by rw [hq1]; rfl
      have hAt : powAt s p = powFr s p := by unfold powAt; rw [hQ, hL, u2, hq0]; rfl
      rw [hAt]
      refine ⟨st, hB, fun c Z hc => ?_⟩
      have hc2 := vnil hq1 c Z hc
      rcases hst with ⟨rfl, hfr, h45⟩ | ⟨rfl, hfr⟩
      · rw [hfr] at hc
        have c1 := hasB_false h48' c Z hc
        have c2 := hasB_false h45 c Z hc
        have c3 : isD c = false := hc2.elim (fun h => absurd h c1) id
        simp only [bstep]
        rw [if_neg c1, if_neg c2, c3]
        rfl
      · simp only [bstep]
        rcases hc2 with h | h
        · rw [if_pos h]
        · rw [h]; simp
    · have hqp : 0 < q.length := by omega
      have hlead : Lead (q.map figOf) := lead_of vdig hqp (vhd hqp)
      have hpos := num_pos hlead.figs hlead.pos hlead.first
      rw [List.length_map] at hpos
      by_cases hfar : (powLoop q 0).2 = true
      · have hAt : powAt s p = powFr s p + 3 := by unfold powAt; rw [hQ, if_pos hfar]
        have hf := powLoop_far q vdig 0 (by omega) hfar
        rw [qs] at hf
        have h5 : T10 3 = 1000 := by decide
        have h4 : q.length = 4 := by have : 3 < q.length := T10_lt (by omega); omega
        rw [hAt]
        -- three figures, and the fourth
        obtain ⟨a, x, hax⟩ : ∃ a x, q = a ++ [x] := eq_snoc q hqp
        have hal : a.length = 3 := by rw [hax] at h4; simpa using h4
        have hqm : q.map figOf = a.map figOf ++ [figOf x] := by rw [hax, List.map_append]; rfl
        have aF : Figs (a.map figOf) := by rw [hqm] at qF; exact qF.left
        have hx := vdig x (by rw [hax]; simp)
        have hxo : figOf x = x - 48 := by unfold figOf; omega
        have hna := num_lt aF
        rw [List.length_map, hal, h5] at hna
        have ha0 : 0 < rd (a.map figOf) 0 := by
          have := hlead.first
          rw [hqm] at this
          have e := rd_append_left (a.map figOf) [figOf x] 0 (by rw [List.length_map]; omega)
          rw [Int.natCast_zero] at e
          rwa [e] at this
        have hbr := brun_pow0 aF (by rw [List.length_map]; omega) ha0 (by omega) st hst2
        have ac : (a.map figOf).map chr = a := chr_map (fun c hc => vdig c (by rw [hax]; simp [hc]))
        rw [ac] at hbr
        have hB3 := hB.adv (A := a) (Z := [x] ++ V) (by rw [hV, hax, List.append_assoc]) hbr
        rw [hal] at hB3
        refine ⟨_, hB3, fun c Z hc => ?_⟩
        have hd3 : (bytesOf s).drop (powFr s p + 3) = x :: V := by rw [hdrop, hax, List.append_assoc, ← hal, List.drop_left]; rfl
        rw [hd3] at hc
        obtain ⟨rfl, _⟩ := List.cons.inj hc
        rw [hqm, num_snoc, hxo] at hf
        simp only [bstep]
        rw [if_neg (fun h => by have := h.2; omega)]
      · have hfar' : (powLoop q 0).2 = false := by simpa using hfar
        have hAt : powAt s p = powFr s p + q.length := by unfold powAt; rw [hQ, hfar', u2]; rfl
        have hnear := powLoop_near q vdig 0 (by omega) (.inl (by omega)) hfar'
        rw [qs] at hnear
        rw [Int.zero_mul, Int.zero_add] at hnear
        have hnum := powLoop_num q vdig 0 (by omega) (by rw [qs]; omega)
        rw [qs, Int.zero_mul, Int.zero_add] at hnum
        have hT := T10_pos (q.length - 1)
        have hE : powE s p ≠ 0 := by
          unfold powE
          rw [hQ, hnum]
          split <;> (simp only []; omega)
        have hsz : powAt s p < s.size := by
          apply Classical.byContradiction
          intro hh
          exact hbad ⟨decide_eq_true hE, hh⟩
        rw [hAt]
        have hbr := brun_pow0 qF hlead.pos hlead.first hnear st hst2
        rw [qc] at hbr
        have hB3 := hB.adv (A := q) (Z := V) hV hbr
        refine ⟨_, hB3, fun c Z hc => ?_⟩
        have hd3 : (bytesOf s).drop (powFr s p + q.length) = V := by rw [hdrop, List.drop_left]
        rw [hd3] at hc
        simp only [bstep]
        rw [if_neg]
        rintro ⟨c1, c2⟩
        by_cases h4 : q.length < 4
        · have := vstop hqp h4 c Z hc
          rw [c1] at this
          cases this
        · have h5 : q.length = 4 := by omega
          rw [h5] at hpos
          have h6 : T10 (4 - 1) = 1000 := by decide
          have := (isD_iff c).1 c1
          omega
/-- Where dec.Read stops. -/
theorem place_read {s : ByteArray} (hs : s.size ≤ 900) (hbad : rdGood s = false) : Stops (bytesOf s) (rdAt3 s) := by
  have hX : (bytesOf s).length = s.size := bytesOf_length s
  have hfl := rdFrom_le s
  have h0 : ∃ st, BAt (bytesOf s) (rdFrom s) st ∧ ((st = .s0 ∧ rdFrom s = 0 ∧ hasB s 0 45 = false) ∨ st = .s1) := by
    have hB0 : BAt (bytesOf s) 0 .s0 := ⟨by omega, rfl⟩
    unfold rdFrom
    by_cases h45 : rdNeg s = true
    · rw [if_pos h45]
      exact ⟨.s1, hB0.one (hasB_true h45) (by simp only [bstep]; rfl), .inr rfl⟩
    · rw [if_neg h45]
      exact ⟨.s0, hB0, .inl ⟨rfl, rfl, by unfold rdNeg at h45; simpa using h45⟩⟩
  obtain ⟨st, hB, hst⟩ := h0
  have hst2 : st = .s0 ∨ st = .s1 := hst.elim (fun h => .inl h.1) (fun h => .inr h)
  by_cases h48 : hasB s (rdFrom s) 48 = true
  · have d0 : rdD s = [] := by unfold rdD numD; rw [if_pos h48]
    have d1 : rdFull s = false := by unfold rdFull; rw [d0]; rfl
    have d2 : rdAt s = rdFrom s + 1 := by unfold rdAt numAt; rw [d1, if_pos h48]; rfl
    have d3 : rdOk s = true := by unfold rdOk numB; rw [h48, d0]; rfl
    have hB1 := hB.one (hasB_true h48) (st' := .z) (by rcases hst2 with rfl | rfl <;> rfl)
    by_cases h101 : hasB s (rdFrom s + 1) 101 = true
    · have d4 : rdE s = true := by unfold rdE; rw [d3, d2, h101]; rfl
      have d5 : rdAt2 s = rdFrom s + 2 := by unfold rdAt2; rw [d4, d2]; rfl
      have hB2 := hB1.one (hasB_true h101) (st' := .ze) rfl
      have d6 : powIs [] s (rdFrom s + 2) = true := rfl
      have d8 : rdAt3 s = if hasB s (rdFrom s + 2) 48 then rdFrom s + 2 + 1 else rdFrom s + 2 := by unfold rdAt3 powAA; rw [if_pos d4, d0, d5, if_pos d6]
      rw [d8]
      by_cases h0 : hasB s (rdFrom s + 2) 48 = true
      · rw [if_pos h0]
        exact ⟨.f, hB2.one (hasB_true h0) rfl, fun c Z _ => rfl⟩
      · rw [if_neg h0]
        refine ⟨.ze, hB2, fun c Z hc => ?_⟩
        have := hasB_false (by simpa using h0) c Z hc
        simp only [bstep]
        rw [if_neg this]
    · have d4 : rdE s = false := by unfold rdE; rw [d3, d2]; simpa using h101
      have d8 : rdAt3 s = rdFrom s + 1 := by unfold rdAt3 rdAt2; rw [d4, d2]; rfl
      rw [d8]
      refine ⟨.z, hB1, fun c Z hc => ?_⟩
      have := hasB_false (by simpa using h101) c Z hc
      simp only [bstep]
      rw [if_neg this]
  · have h48' : hasB s (rdFrom s) 48 = false := by simpa using h48
    obtain ⟨Z0, hZ⟩ := run_prefix 1000 ((bytesOf s).drop (rdFrom s))
    have hdig := run_digits 1000 ((bytesOf s).drop (rdFrom s))
    have hhd := run_head 1000 ((bytesOf s).drop (rdFrom s))
    have hnil := run_nil (most := 1000) (Y := (bytesOf s).drop (rdFrom s)) (by omega)
    have hstop := run_stop (most := 1000) (Y := (bytesOf s).drop (rdFrom s)) hZ
    have hto := figTo_run s (rdFrom s) 1000 (by omega) hfl
    have hat := bytesAt_run s (rdFrom s) 1000 (by omega) hfl
    generalize hf : run 1000 ((bytesOf s).drop (rdFrom s)) = f at *
    have hbd : rdFrom s + f.length ≤ s.size := by
      have := congrArg List.length hZ
      rw [List.length_drop, List.length_append, hX] at this
      omega
    have hdrop : (bytesOf s).drop (rdFrom s + f.length) = Z0 := by rw [← List.drop_drop, hZ, List.drop_left]
    obtain ⟨fF, fc, fs⟩ := figs_there hdig
    have d0 : rdD s = f.map figOf := by unfold rdD numD; rw [if_neg h48, hat]
    have d1 : rdFull s = false := by
      unfold rdFull
      rw [d0, List.length_map, decide_eq_false (by omega)]
      rfl
    have d2 : rdAt s = rdFrom s + f.length := by unfold rdAt numAt; rw [d1, h48', hto]; rfl
    by_cases hf0 : f.length = 0
    · have hfn : f = [] := List.eq_nil_of_length_eq_zero hf0
      have d3 : rdOk s = false := by unfold rdOk numB; rw [h48', hto, hf0]; simp
      have d4 : rdE s = false := by unfold rdE; rw [d3]; rfl
      have d8 : rdAt3 s = rdFrom s := by unfold rdAt3 rdAt2; rw [d4, d2, hf0]; rfl
      rw [d8]
      refine ⟨st, hB, fun c Z hc => ?_⟩
      have c1 := hasB_false h48' c Z hc
      have c3 : isD c = false := (hnil hfn c Z hc).elim (fun h => absurd h c1) id
      rcases hst with ⟨rfl, hfr, h45⟩ | rfl
      · rw [hfr] at hc
        have c2 := hasB_false h45 c Z hc
        simp only [bstep]
        rw [if_neg c2, if_neg c1, c3]
        rfl
      · simp only [bstep]
        rw [if_neg c1, c3]
        rfl
    · have hfp : 0 < f.length := by omega
      have hlead : Lead (f.map figOf) := lead_of hdig hfp (hhd hfp)
      have hbr := brun_number hlead.figs hlead.pos hlead.first st hst2
      rw [fc] at hbr
      have hB1 := hB.adv (A := f) (Z := Z0) hZ hbr
      have hnd := hstop hfp (by omega)
      have hDl : (rdD s).length = f.length := by rw [d0, List.length_map]
      by_cases hl0 : rd (rdD s) ((rdD s).length - 1) = 0
      · have d3 : rdOk s = false := by
          unfold rdOk
          rw [decide_eq_false (show ¬ (rdD s).length = 0 by omega), decide_eq_false (fun h => h hl0)]
          simp
        have d4 : rdE s = false := by unfold rdE; rw [d3]; rfl
        have d8 : rdAt3 s = rdFrom s + f.length := by unfold rdAt3 rdAt2; rw [d4, d2]; rfl
        rw [d8]
        refine ⟨_, hB1, fun c Z hc => ?_⟩
        rw [hdrop] at hc
        have c1 := hnd c Z hc
        rw [d0] at hl0
        have hz := decide_eq_true hl0
        rw [hz]
        simp only [bstep, c1]
        simp
      · have d3 : rdOk s = true := by
          unfold rdOk numB
          rw [h48', hto, decide_eq_true (show rd (rdD s) ((rdD s).length - 1) ≠ 0 from hl0), decide_eq_true (show rdFrom s < rdFrom s + f.length by omega)]
          simp
        rw [d0] at hl0
        rw [decide_eq_false (by exact hl0)] at hB1
        by_cases h101 : hasB s (rdFrom s + f.length) 101 = true
        · have d4 : rdE s = true := by unfold rdE; rw [d3, d2, h101]; rfl
          have d5 : rdAt2 s = rdFrom s + f.length + 1 := by unfold rdAt2; rw [d4, d2]; rfl
          have hB2 := hB1.one (hasB_true h101) (st' := .e) (by simp only [bstep]; rfl)
          have d8 : rdAt3 s = powAA (rdD s) s (rdFrom s + f.length + 1) := by unfold rdAt3; rw [if_pos d4, d5]
          rw [d8]
          refine place_pow hs (by rw [← hX]; exact hB2.le) hB2 (by omega) ?_
          rintro ⟨h1, h2⟩
          unfold rdGood rdAll at hbad
          rw [d4, d8, d5, h1] at hbad
          simp at hbad
          omega
        · have d4 : rdE s = false := by unfold rdE; rw [d3, d2]; simpa using h101
          have d8 : rdAt3 s = rdFrom s + f.length := by unfold rdAt3 rdAt2; rw [d4, d2]; rfl
          rw [d8]
          refine ⟨_, hB1, fun c Z hc => ?_⟩
          have c2 := hasB_false (by simpa using h101) c Z hc
          rw [hdrop] at hc
          have c1 := hnd c Z hc
          simp only [bstep, c1]
          rw [if_neg (by decide), if_neg (fun h => c2 h.1)]
end Go.Proofs.YtahkamggdbibiaaDoor.PZ
end
