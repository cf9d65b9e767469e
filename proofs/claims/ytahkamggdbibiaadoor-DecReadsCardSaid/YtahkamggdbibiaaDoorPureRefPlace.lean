/- Texts of this seat, joined: PureRefText, PureRefRead, PureRefPlace.
   Conditions: none beyond each statement's own. -/
import Derived.Test.YtahkamggdbibiaaDoorPZx13
import Derived.Test.YtahkamggdbibiaaDoorPZx12
import Derived.Test.YtahkamggdbibiaaDoorPurePlace
import Derived.Test.YtahkamggdbibiaaDoorPZx16
import Derived.Test.YtahkamggdbibiaaDoorPZx15
import Derived.Test.YtahkamggdbibiaaDoorPZx14
section
set_option linter.unusedSimpArgs false
set_option linter.unusedVariables false
namespace Go.Proofs.YtahkamggdbibiaaDoor.PZ
open Go.RowKit Go.Proofs.YtahkamggdbibiaaDoorW.PrintWords Go.Proofs.YtahkamggdbibiaaDoorW.PrintLast
theorem bytesOf_app (a b : ByteArray) : bytesOf (a ++ b) = bytesOf a ++ bytesOf b := by
  unfold bytesOf
  rw [ByteArray.data_append, Array.toList_append, List.map_append]
theorem bytesOf_nums {l : List Int} (h : ∀ c ∈ l, 0 ≤ c ∧ c ≤ 255) : bytesOf (strOfNums l) = l := by
  unfold bytesOf
  rw [strOfNums_data, List.map_map]
  conv => rhs; rw [← List.map_id l]
  apply List.map_congr_left
  intro c hc
  have := h c hc
  simp only [Function.comp_apply, id, UInt8.toNat_ofNat']
  omega
theorem bytesOf_chr {d : Int} (h : 0 ≤ d ∧ d ≤ 9) : bytesOf (strOfNums [chr d]) = [chr d] := bytesOf_nums (fun c hc => by
  have : c = chr d := by simpa using hc
  rw [this]; unfold chr; omega)
theorem number_l0 (u : Nat) : ∀ s : ByteArray, s.size + u ≤ 1000000 → ∃ t, Ev (fun k => exergueref05_Number.l0 k (u : Int) s) t ∧ bytesOf t = (if u < 10 then [] else (digsN (u / 10)).map chr) ++ bytesOf s := by
  induction u using Nat.strongRecOn with
  | _ u ih =>
    intro s hs
    by_cases h : u < 10
    · refine ⟨s, Ev_shift ?_, by rw [if_pos h]; rfl⟩
      simp only [exergueref05_Number.l0, if_neg (show ¬ (u : Int) ≥ 10 by omega)]
      exact Ev.now _
    · have hd : wrap64 (Int.tdiv (u : Int) 10) = ((u / 10 : Nat) : Int) := by rw [Int.tdiv_eq_ediv_of_nonneg (by omega), w64 _ (by omega) (by omega)]; omega
      have hc : (wrap64 (48 + Int.tmod ((u / 10 : Nat) : Int) 10)) % 256 = chr (((u / 10) % 10 : Nat) : Int) := by
        rw [Int.tmod_eq_emod_of_nonneg (by omega), w64 _ (by omega) (by omega)]; unfold chr; omega
      have hsz : (strOfNums [chr (((u / 10) % 10 : Nat) : Int)]).size = 1 := strOfNums_size _
      obtain ⟨t, h1, h2⟩ := ih (u / 10) (by omega) (strOfNums [chr (((u / 10) % 10 : Nat) : Int)] ++ s) (by rw [ByteArray.size_append, hsz]; omega)
      refine ⟨t, Ev_shift ?_, ?_⟩
      · simp only [exergueref05_Number.l0, if_pos (show (u : Int) ≥ 10 by omega), hd, hc, Option.bind_some, if_pos (show (strOfNums [chr (((u / 10) % 10 : Nat) : Int)]).size + s.size ≤ 9223372036854775807 by omega)]
        exact h1
      · rw [h2, bytesOf_app, bytesOf_chr (by omega), if_neg h]
        by_cases h3 : u / 10 < 10
        · rw [if_pos h3, digsN_small h3, Nat.mod_eq_of_lt h3]
          rfl
        · rw [if_neg h3, digsN_big h3]
          simp
theorem number_nat (u : Nat) (hu : u ≤ 100000) : ∃ t, Ev (fun k => exergueref05_Number.f k (u : Int)) t ∧ bytesOf t = (digsN u).map chr := by
  have hc : (wrap64 (48 + Int.tmod (u : Int) 10)) % 256 = chr ((u % 10 : Nat) : Int) := by
    rw [Int.tmod_eq_emod_of_nonneg (by omega), w64 _ (by omega) (by omega)]; unfold chr; omega
  have hsz : (strOfNums [chr ((u % 10 : Nat) : Int)]).size = 1 := strOfNums_size _
  obtain ⟨t, h1, h2⟩ := number_l0 u (strOfNums [chr ((u % 10 : Nat) : Int)]) (by omega)
  refine ⟨t, Ev_shift ?_, ?_⟩
  · simp only [exergueref05_Number.f, if_neg (show ¬ (u : Int) < 0 by omega), hc]
    exact h1
  · rw [h2, bytesOf_chr (by omega)]
    by_cases h3 : u < 10
    · rw [if_pos h3, digsN_small h3, Nat.mod_eq_of_lt h3]; rfl
    · rw [if_neg h3, digsN_big h3]; simp
theorem number_ev {e : Int} (he : -1000 ≤ e ∧ e ≤ 1000) : ∃ t, Ev (fun k => exergueref05_Number.f k e) t ∧ bytesOf t = pw e := by
  unfold pw
  by_cases hn : e < 0
  · obtain ⟨t, h1, h2⟩ := number_nat e.natAbs (by omega)
    have hl := digsN_length 3 e.natAbs (by omega)
    have hw : wrap64 (-e) = (e.natAbs : Int) := by rw [w64 _ (by omega) (by omega)]; omega
    have hsz : t.size = (digsN e.natAbs).length := by rw [← bytesOf_length, h2, List.length_map]
    refine ⟨(⟨#[45]⟩ : ByteArray) ++ t, Ev_shift ?_, ?_⟩
    · simp only [exergueref05_Number.f, if_pos hn, hw]
      refine Ev.bind h1 ?_
      simp only [if_pos (show 1 + t.size ≤ 9223372036854775807 by omega)]
      exact Ev.now _
    · rw [if_pos hn, bytesOf_app, h2]; rfl
  · obtain ⟨t, h1, h2⟩ := number_nat e.toNat (by omega)
    have : ((e.toNat : Nat) : Int) = e := by omega
    rw [this] at h1
    exact ⟨t, h1, by rw [if_neg hn, h2]⟩
theorem text_l0 (g : Bool) {l : List Int} {e : Int} (h : RDec l e) (n : Nat) : ∀ (i : Nat) (s : ByteArray), i + n = l.length → s.size + n ≤ 1000000 →
    ∃ t, Ev (fun k => exergueref05_Text.l0 k s i g l e) t ∧ bytesOf t = bytesOf s ++ ((l.drop i).map chr ++ ((if l.length = 0 then [48] else []) ++ 101 :: pw e)) := by
  have hx := h.exp
  have hl := h.len
  obtain ⟨tn, n1, n2⟩ := number_ev hx
  have hpl := pw_length hx
  have htn : tn.size ≤ 5 := by rw [← bytesOf_length, n2]; exact hpl
  induction n with
  | zero =>
    intro i s hi hs
    have hd : l.drop i = [] := List.drop_of_length_le (by omega)
    by_cases h0 : l.length = 0
    · refine ⟨((s ++ (⟨#[48]⟩ : ByteArray)) ++ (⟨#[101]⟩ : ByteArray)) ++ tn, Ev_shift ?_, ?_⟩
      · simp only [exergueref05_Text.l0, if_neg (show ¬ ((i : Int) < (l.length : Int)) by omega), if_pos (show (l.length : Int) = 0 by omega), if_pos (show s.size + 1 ≤ 9223372036854775807 by omega),
          if_pos (show (s ++ (⟨#[48]⟩ : ByteArray)).size + 1 ≤ 9223372036854775807 by rw [ByteArray.size_append]; show s.size + 1 + 1 ≤ _; omega)]
        refine Ev.bind n1 ?_
        simp only [if_pos (show ((s ++ (⟨#[48]⟩ : ByteArray)) ++ (⟨#[101]⟩ : ByteArray)).size + tn.size ≤ 9223372036854775807 by rw [ByteArray.size_append, ByteArray.size_append]; show s.size + 1 + 1 + tn.size ≤ _; omega)]
        exact Ev.now _
      · rw [bytesOf_app, bytesOf_app, bytesOf_app, n2, hd, if_pos h0]
        show ((bytesOf s ++ [48]) ++ [101]) ++ pw e = _
        simp
    · refine ⟨(s ++ (⟨#[101]⟩ : ByteArray)) ++ tn, Ev_shift ?_, ?_⟩
      · simp only [exergueref05_Text.l0, if_neg (show ¬ ((i : Int) < (l.length : Int)) by omega), if_neg (show ¬ (l.length : Int) = 0 by omega), if_pos (show s.size + 1 ≤ 9223372036854775807 by omega)]
        refine Ev.bind n1 ?_
        simp only [if_pos (show (s ++ (⟨#[101]⟩ : ByteArray)).size + tn.size ≤ 9223372036854775807 by rw [ByteArray.size_append]; show s.size + 1 + tn.size ≤ _; omega)]
        exact Ev.now _
      · rw [bytesOf_app, bytesOf_app, n2, hd, if_neg h0]
        show (bytesOf s ++ [101]) ++ pw e = _
        simp
  | succ n ih =>
    intro i s hi hs
    have hf := rd_figs h.figs i
    have p1 : (i : Int) < (l.length : Int) := by omega
    have p2 : (0 : Int) ≤ (i : Int) := by omega
    have p3 : i < l.length := by omega
    have w1 : wrap64 ((i : Int) + 1) = ((i + 1 : Nat) : Int) := by rw [w64 _ (by omega) (by omega)]; omega
    have hdc := drop_cons l i p3
    generalize hy : rd l (i : Int) = y at hf hdc
    have hsz : (strOfNums [chr y]).size = 1 := strOfNums_size _
    have hfit : s.size + (strOfNums [chr y]).size ≤ 9223372036854775807 := by rw [hsz]; omega
    have hc : (48 + y) % 256 = chr y := by unfold chr; omega
    obtain ⟨t, h1, h2⟩ := ih (i + 1) (s ++ strOfNums [chr y]) (by omega) (by rw [ByteArray.size_append, hsz]; omega)
    refine ⟨t, Ev_shift ?_, ?_⟩
    · simp only [exergueref05_Text.l0, if_pos p1, if_pos p2, hy, hc, Option.bind_some, if_pos hfit, w1]
      exact h1
    · rw [h2, bytesOf_app, bytesOf_chr hf, hdc]
      simp
theorem reftext_ev (g : Bool) {l : List Int} {e : Int} (h : RDec l e) : ∃ t, Ev (fun k => exergueref05_Text.f k g l e) t ∧ bytesOf t = txt g l e := by
  have hl := h.len
  unfold exergueref05_Text.f
  have fin : ∀ s : ByteArray, s.size ≤ 1 → ∃ t, Ev (fun k => exergueref05_Text.j0 k s g l e) t ∧ bytesOf t = bytesOf s ++ (figT l ++ 101 :: pw e) := by
    intro s hs
    obtain ⟨t, h1, h2⟩ := text_l0 g h l.length 0 s (by omega) (by omega)
    refine ⟨t, Ev_shift ?_, ?_⟩
    · simp only [exergueref05_Text.j0]
      exact h1
    · rw [h2, List.drop_zero]
      unfold figT
      by_cases h0 : l.length = 0
      · rw [if_pos h0, if_pos h0, List.eq_nil_of_length_eq_zero h0, List.map_nil, List.nil_append]
      · rw [if_neg h0, if_neg h0, List.nil_append]
  cases g with
  | true =>
    obtain ⟨t, h1, h2⟩ := fin ⟨#[45]⟩ (Nat.le_refl _)
    refine ⟨t, ?_, ?_⟩
    · simp only [if_true]; exact h1
    · rw [h2]; unfold txt; rw [if_pos rfl]; rw [show bytesOf ⟨#[45]⟩ = [45] from rfl]
  | false =>
    obtain ⟨t, h1, h2⟩ := fin ⟨#[]⟩ (Nat.zero_le _)
    refine ⟨t, ?_, ?_⟩
    · simp only [Bool.false_eq_true, if_false]; exact h1
    · rw [h2]; unfold txt; rw [if_neg (by decide)]; rw [show bytesOf ⟨#[]⟩ = [] from rfl]
end Go.Proofs.YtahkamggdbibiaaDoor.PZ
end

section
set_option linter.unusedSimpArgs false
set_option linter.unusedVariables false
namespace Go.Proofs.YtahkamggdbibiaaDoor.PZ
open Go.RowKit Go.Proofs.YtahkamggdbibiaaDoorW.PrintWords Go.Proofs.YtahkamggdbibiaaDoorW.PrintLast
def powAcc : List Int → Int → Int
  | [], e => e
  | c :: r, e => powAcc r (if isD c = true then e * 10 + (c - 48) else e)
theorem powAcc_figs {q : List Int} (h : Figs q) : ∀ e, powAcc (q.map chr) e = e * T10 q.length + num q := by
  induction q with
  | nil => intro e; simp [powAcc, T10_zero, num_nil]
  | cons d q ih =>
    intro e
    have hc : chr d - 48 = d := by unfold chr; omega
    rw [List.map_cons, powAcc, if_pos (isD_chr h.head), hc, ih h.tail, List.length_cons, T10_succ, num_cons]
    grind
/-- What exergueref05.all comes to at its end. -/
def allEnd (k : Nat) (s : ByteArray) (below g : Bool) (D : List Int) (E : Int) : Option (Bool × List Int × Int × Bool) :=
  (if below = true then ((exergueref05_Right.f k g D (wrap64 (-E))).bind fun t196 => (if t196 = true then ((exergueref05_Text.f k g D (wrap64 (-E))).bind fun t197 => (some (g, D, wrap64 (-E), (t197.toList == s.toList)))) else (some (g, D, wrap64 (-E), false)))) else ((exergueref05_Right.f k g D E).bind fun t198 => (if t198 = true then ((exergueref05_Text.f k g D E).bind fun t199 => (some (g, D, E, (t199.toList == s.toList)))) else (some (g, D, E, false)))))
theorem all_l1 (s : ByteArray) (hs : s.size ≤ 1000) (below g : Bool) (D : List Int) {r : Bool × List Int × Int × Bool} (n : Nat) : ∀ (a : Nat) (E : Int), a + n = s.size → 0 ≤ E → (E + 1) * T10 n ≤ 1000000000 →
    Ev (fun k => allEnd k s below g D (powAcc ((bytesOf s).drop a) E)) r → Ev (fun k => exergueref05_all.l1 k s below a g D E) r := by
  have hX : (bytesOf s).length = s.size := bytesOf_length s
  induction n with
  | zero =>
    intro a E ha _ _ h
    refine Ev_shift ?_
    have p1 : ¬ ((a : Int) < (s.size : Int)) := by omega
    simp only [exergueref05_all.l1, if_neg p1]
    rw [List.drop_of_length_le (by omega)] at h
    exact h
  | succ n ih =>
    intro a E ha hE hb h
    refine Ev_shift ?_
    have p1 : (a : Int) < (s.size : Int) := by omega
    have p2 : (0 : Int) ≤ (a : Int) := by omega
    have w1 : wrap64 ((a : Int) + 1) = ((a + 1 : Nat) : Int) := by rw [w64 _ (by omega) (by omega)]; omega
    have hp := T10_pos n
    rw [T10_succ] at hb
    have hle : (E + 1) * 1 ≤ (E + 1) * T10 n := Int.mul_le_mul_of_nonneg_left (by omega) (by omega)
    have hbig : (E + 1) * (T10 n * 10) = (E + 1) * T10 n * 10 := by grind
    rw [hbig] at hb
    rw [drop_cons _ a (by omega), rd_bytesOf, powAcc] at h
    have hr := bt_range s a
    generalize hcb : bt s (a : Int) = c at h hr
    have hd := isD_iff c
    by_cases h1 : c ≥ 48
    · by_cases h2 : c ≤ 57
      · rw [if_pos (hd.2 ⟨h1, h2⟩)] at h
        have w2 : wrap64 (wrap64 (E * 10) + (c - 48) % 256) = E * 10 + (c - 48) := by rw [w64 (E * 10) (by omega) (by omega), w64 _ (by omega) (by omega)]; omega
        simp only [exergueref05_all.l1, if_pos p1, if_pos p2, hcb, if_pos h1, if_pos h2, w1, w2]
        refine ih (a + 1) _ (by omega) (by omega) ?_ h
        have : (E * 10 + (c - 48) + 1) * T10 n ≤ ((E + 1) * 10) * T10 n := Int.mul_le_mul_of_nonneg_right (by omega) (by omega)
        have e2 : ((E + 1) * 10) * T10 n = (E + 1) * T10 n * 10 := by grind
        omega
      · rw [if_neg (fun z => h2 (hd.1 z).2)] at h
        simp only [exergueref05_all.l1, if_pos p1, if_pos p2, hcb, if_pos h1, if_neg h2, w1]
        exact ih (a + 1) E (by omega) hE (by omega) h
    · rw [if_neg (fun z => h1 (hd.1 z).1)] at h
      simp only [exergueref05_all.l1, if_pos p1, if_pos p2, hcb, if_neg h1, w1]
      exact ih (a + 1) E (by omega) hE (by omega) h
theorem all_j3_no (s : ByteArray) (hs : s.size ≤ 1000) (g : Bool) (D : List Int) (a : Nat) (ha : a ≤ s.size) (h : ¬ (hasB s a 101 = true ∧ s.size - a ≤ 6)) : Ev (fun k => exergueref05_all.j3 k s a g D 0) (false, [], 0, false) := by
  have fin : Ev (fun k => exergueref05_all.j4 k s a true g D 0) (false, [], 0, false) := by
    refine Ev_shift ?_
    simp only [exergueref05_all.j4, if_true]
    exact Ev.now _
  refine Ev_shift ?_
  by_cases p1 : (a : Int) ≥ (s.size : Int)
  · simp only [exergueref05_all.j3, if_pos p1]
    exact fin
  · have p2 : (0 : Int) ≤ (a : Int) := by omega
    have p3 : (a : Int) < (s.size : Int) := by omega
    by_cases h1 : bt s a = 101
    · have hh : hasB s a 101 = true := by unfold hasB; rw [decide_eq_true (show a < s.size by omega), decide_eq_true h1]; rfl
      have h2 : wrap64 ((s.size : Int) - (a : Int)) > 6 := by
        rw [w64 _ (by omega) (by omega)]
        have : ¬ s.size - a ≤ 6 := fun z => h ⟨hh, z⟩
        omega
      simp only [exergueref05_all.j3, if_neg p1, if_pos p2, if_pos p3, if_pos h1, decide_eq_true h2]
      exact fin
    · simp only [exergueref05_all.j3, if_neg p1, if_pos p2, if_pos p3, if_neg h1]
      exact fin
theorem all_j3_yes (s : ByteArray) (hs : s.size ≤ 1000) (g : Bool) (D : List Int) (a : Nat) (h1 : hasB s a 101 = true) (h2 : s.size - a ≤ 6) {r : Bool × List Int × Int × Bool}
    (h : Ev (fun k => allEnd k s (hasB s (a + 1) 45) g (if D = [0] then [] else D) (powAcc ((bytesOf s).drop (a + 1)) 0)) r) : Ev (fun k => exergueref05_all.j3 k s a g D 0) r := by
  have ha := hasB_lt h1
  have hb : bt s a = 101 := by unfold hasB at h1; rw [decide_eq_true ha, Bool.true_and] at h1; exact of_decide_eq_true h1
  have p1 : ¬ (a : Int) ≥ (s.size : Int) := by omega
  have p2 : (0 : Int) ≤ (a : Int) := by omega
  have p3 : (a : Int) < (s.size : Int) := by omega
  have w0 : ¬ wrap64 ((s.size : Int) - (a : Int)) > 6 := by rw [w64 _ (by omega) (by omega)]; omega
  have w1 : wrap64 ((a : Int) + 1) = ((a + 1 : Nat) : Int) := by rw [w64 _ (by omega) (by omega)]; omega
  refine Ev_shift ?_
  simp only [exergueref05_all.j3, if_neg p1, if_pos p2, if_pos p3, if_pos hb, decide_eq_false w0]
  -- the power
  have j6 : ∀ D', Ev (fun k => allEnd k s (hasB s (a + 1) 45) g D' (powAcc ((bytesOf s).drop (a + 1)) 0)) r → Ev (fun k => exergueref05_all.j6 k s a g D' 0) r := by
    intro D' h'
    have hT : ((0 : Int) + 1) * T10 (s.size - (a + 1)) ≤ 1000000000 := by
      have := T10_le (show s.size - (a + 1) ≤ 5 by omega)
      have e5 : T10 5 = 100000 := by decide
      omega
    have l1 := all_l1 s hs (hasB s (a + 1) 45) g D' (s.size - (a + 1)) (a + 1) 0 (by omega) (by omega) hT h'
    have j7 : Ev (fun k => exergueref05_all.j7 k s a (hasB s (a + 1) 45) g D' 0) r := by
      refine Ev_shift ?_
      simp only [exergueref05_all.j7, w1]
      exact l1
    refine Ev_shift ?_
    by_cases q1 : ((a + 1 : Nat) : Int) < (s.size : Int)
    · have q2 : (0 : Int) ≤ ((a + 1 : Nat) : Int) := by omega
      simp only [exergueref05_all.j6, w1, if_pos q1, if_pos q2]
      have e1 : hasB s (a + 1) 45 = (bt s ((a + 1 : Nat) : Int) == 45) := by unfold hasB; rw [decide_eq_true (show a + 1 < s.size by omega), Bool.true_and]; exact (Bool.beq_eq_decide_eq _ _).symm
      rw [← e1]
      exact j7
    · simp only [exergueref05_all.j6, w1, if_neg q1]
      have e1 : hasB s (a + 1) 45 = false := by unfold hasB; rw [decide_eq_false (show ¬ a + 1 < s.size by omega)]; rfl
      rw [e1] at j7
      exact j7
  refine Ev_shift ?_
  by_cases hD : D.length = 1
  · have q1 : (D.length : Int) = 1 := by omega
    have q2 : 0 < (D.length : Int) := by omega
    obtain ⟨d, rfl⟩ : ∃ d, D = [d] := by
      match D, hD with
      | [d], _ => exact ⟨d, rfl⟩
    simp only [exergueref05_all.j4, Bool.false_eq_true, if_false, if_pos q1, if_pos q2]
    have e0 : rd [d] 0 = d := rfl
    rw [e0]
    refine Ev_shift ?_
    by_cases hz : d = 0
    · subst hz
      simp only [exergueref05_all.j5, beq_self_eq_true, if_true]
      exact j6 [] (by simpa using h)
    · have hb : (d == 0) = false := by simpa using hz
      simp only [exergueref05_all.j5, hb, Bool.false_eq_true, if_false]
      exact j6 [d] (by rw [if_neg (by simpa using hz)] at h; exact h)
  · have q1 : ¬ (D.length : Int) = 1 := by omega
    simp only [exergueref05_all.j4, Bool.false_eq_true, if_false, if_neg q1]
    refine Ev_shift ?_
    simp only [exergueref05_all.j5, Bool.false_eq_true, if_false]
    exact j6 D (by rw [if_neg (fun z => hD (by rw [z]; rfl))] at h; exact h)
theorem all_l0 (s : ByteArray) (hs : s.size ≤ 1000) (g : Bool) {r : Bool × List Int × Int × Bool} (n : Nat) : ∀ (a : Nat) (D : List Int), a + n = s.size → D.length + n ≤ 1000 →
    Ev (fun k => exergueref05_all.j3 k s ((a + (((bytesOf s).drop a).takeWhile isD).length : Nat) : Int) g (D ++ (((bytesOf s).drop a).takeWhile isD).map figOf) 0) r → Ev (fun k => exergueref05_all.l0 k s a g D 0) r := by
  have hX : (bytesOf s).length = s.size := bytesOf_length s
  induction n with
  | zero =>
    intro a D ha _ h
    refine Ev_shift ?_
    have p1 : ¬ ((a : Int) < (s.size : Int)) := by omega
    simp only [exergueref05_all.l0, if_neg p1]
    rw [List.drop_of_length_le (by omega)] at h
    simpa using h
  | succ n ih =>
    intro a D ha hl h
    refine Ev_shift ?_
    have p1 : (a : Int) < (s.size : Int) := by omega
    have p2 : (0 : Int) ≤ (a : Int) := by omega
    have p3 : D.length < 140737488355328 := by omega
    have w1 : wrap64 ((a : Int) + 1) = ((a + 1 : Nat) : Int) := by rw [w64 _ (by omega) (by omega)]; omega
    rw [drop_cons _ a (by omega), rd_bytesOf] at h
    have hr := bt_range s a
    generalize hcb : bt s (a : Int) = c at h hr
    have hd := isD_iff c
    by_cases h1 : c ≥ 48
    · by_cases h2 : c ≤ 57
      · rw [List.takeWhile_cons_of_pos (hd.2 ⟨h1, h2⟩), List.length_cons, List.map_cons] at h
        simp only [exergueref05_all.l0, if_pos p1, if_pos p2, hcb, if_pos h1, if_pos h2, if_pos p3, w1]
        refine ih (a + 1) _ (by omega) (by simp only [List.length_append, List.length_cons, List.length_nil]; omega) ?_
        have e1 : a + 1 + (((bytesOf s).drop (a + 1)).takeWhile isD).length = a + ((((bytesOf s).drop (a + 1)).takeWhile isD).length + 1) := by omega
        rw [e1, List.append_assoc]
        exact h
      · rw [List.takeWhile_cons_of_neg (fun z => h2 (hd.1 z).2)] at h
        simp only [exergueref05_all.l0, if_pos p1, if_pos p2, hcb, if_pos h1, if_neg h2]
        simpa using h
    · rw [List.takeWhile_cons_of_neg (fun z => h1 (hd.1 z).1)] at h
      simp only [exergueref05_all.l0, if_pos p1, if_pos p2, hcb, if_neg h1]
      simpa using h
theorem all_start (s : ByteArray) {r : Bool × List Int × Int × Bool} (h : Ev (fun k => exergueref05_all.l0 k s ((rdFrom s : Nat) : Int) (rdNeg s) [] 0) r) : Ev (fun k => exergueref05_all.f k s) r := by
  unfold exergueref05_all.f
  unfold rdFrom at h
  by_cases h0 : 0 < s.size
  · have p1 : (s.size : Int) > 0 := by omega
    have p2 : 0 < (s.size : Int) := by omega
    have e1 : rdNeg s = (bt s 0 == 45) := by unfold rdNeg hasB; rw [decide_eq_true h0, Bool.true_and]; exact (Bool.beq_eq_decide_eq _ _).symm
    simp only [if_pos p1, if_pos p2]
    rw [← e1]
    refine Ev_shift ?_
    cases hn : rdNeg s with
    | true =>
      rw [hn] at h
      simp only [exergueref05_all.j0, if_true]
      refine Ev_shift ?_
      simp only [exergueref05_all.j1]
      exact h
    | false =>
      rw [hn] at h
      simp only [exergueref05_all.j0, Bool.false_eq_true, if_false]
      refine Ev_shift ?_
      simp only [exergueref05_all.j1]
      exact h
  · have p1 : ¬ (s.size : Int) > 0 := by omega
    have e1 : rdNeg s = false := by unfold rdNeg hasB; rw [decide_eq_false h0]; rfl
    rw [e1] at h
    simp only [if_neg p1]
    refine Ev_shift ?_
    simp only [exergueref05_all.j0, Bool.false_eq_true, if_false]
    refine Ev_shift ?_
    simp only [exergueref05_all.j1]
    exact h
theorem toList_loop (s : ByteArray) (n : Nat) : ∀ (i : Nat) (r : List UInt8), i + n = s.size → ByteArray.toList.loop s i r = r.reverse ++ s.data.toList.drop i := by
  induction n with
  | zero =>
    intro i r hi
    rw [ByteArray.toList.loop, if_neg (by omega), List.drop_of_length_le (by simp only [Array.length_toList]; show s.size ≤ i; omega), List.append_nil]
  | succ n ih =>
    intro i r hi
    have h1 : i < s.data.toList.length := by simp only [Array.length_toList]; show i < s.size; omega
    rw [ByteArray.toList.loop, if_pos (by omega), ih (i + 1) _ (by omega), List.drop_eq_getElem_cons h1, List.reverse_cons, List.append_assoc]
    have h2 : s.get! i = s.data.toList[i] := by
      have h3 : i < s.data.size := by show i < s.size; omega
      show s.data[i]! = _
      rw [getElem!_pos s.data i h3]
      rfl
    rw [h2]
    rfl
theorem toList_data (s : ByteArray) : s.toList = s.data.toList := by
  unfold ByteArray.toList
  rw [toList_loop s s.size 0 [] (by omega)]
  rfl
theorem toList_eq (t s : ByteArray) : (t.toList == s.toList) = decide (bytesOf t = bytesOf s) := by
  rw [Bool.beq_eq_decide_eq, decide_eq_decide, toList_data, toList_data]
  constructor
  · intro h; unfold bytesOf; rw [h]
  · intro h; rw [bytesOf_inj h]
theorem allEnd_ev (s : ByteArray) (below g : Bool) {D : List Int} {E : Int} (hw : ∀ b_ ∈ D, (Lit.int .u8 b_).wf = true) (hl : D.length ≤ 1000) (hE : 0 ≤ E ∧ E ≤ 1000000000) :
    ∃ e b, Ev (fun k => allEnd k s below g D E) (g, D, e, b) ∧ e = (if below then -E else E) ∧ (b = true ↔ RDec D e ∧ bytesOf s = txt g D e) := by
  have key : ∀ e : Int, ∃ b, Ev (fun k => ((exergueref05_Right.f k g D e).bind fun t198 => (if t198 = true then ((exergueref05_Text.f k g D e).bind fun t199 => (some (g, D, e, (t199.toList == s.toList)))) else (some (g, D, e, false))))) (g, D, e, b) ∧ (b = true ↔ RDec D e ∧ bytesOf s = txt g D e) := by
    intro e
    by_cases hR : RDec D e
    · obtain ⟨t, t1, t2⟩ := reftext_ev g hR
      refine ⟨decide (bytesOf t = bytesOf s), Ev.bind (right_yes g hR) ?_, ?_⟩
      · simp only [if_true]
        refine Ev.bind t1 ?_
        rw [toList_eq]
        exact Ev.now _
      · rw [decide_eq_true_eq, t2]
        exact ⟨fun z => ⟨hR, z.symm⟩, fun z => z.2.symm⟩
    · rcases right_cases g (l := D) (e := e) (by unfold maxLen; omega) hw with ⟨_, h⟩ | h
      · exact absurd h hR
      · refine ⟨false, Ev.bind h ?_, ?_⟩
        · simp only [Bool.false_eq_true, if_false]
          exact Ev.now _
        · simp [hR]
  have w1 : wrap64 (-E) = -E := w64 _ (by omega) (by omega)
  unfold allEnd
  cases below with
  | true =>
    obtain ⟨b, h1, h2⟩ := key (-E)
    refine ⟨-E, b, ?_, rfl, h2⟩
    simp only [if_true, w1]
    exact h1
  | false =>
    obtain ⟨b, h1, h2⟩ := key E
    refine ⟨E, b, ?_, rfl, h2⟩
    simp only [Bool.false_eq_true, if_false]
    exact h1
end Go.Proofs.YtahkamggdbibiaaDoor.PZ
end

section
set_option linter.unusedSimpArgs false
set_option linter.unusedVariables false
namespace Go.Proofs.YtahkamggdbibiaaDoor.PZ
open Go.RowKit Go.Proofs.YtahkamggdbibiaaDoorW.PrintWords Go.Proofs.YtahkamggdbibiaaDoorW.PrintLast
def IsTxt (X : List Int) : Prop := ∃ g l e, RDec l e ∧ X = txt g l e
theorem wf_figOf (f : List Int) : ∀ b_ ∈ f.map figOf, (Lit.int .u8 b_).wf = true := by
  intro b hb
  obtain ⟨c, _, rfl⟩ := List.mem_map.1 hb
  unfold figOf
  have h1 : 0 ≤ (c - 48) % 256 := Int.emod_nonneg _ (by decide)
  have h2 : (c - 48) % 256 < 256 := Int.emod_lt_of_pos _ (by decide)
  have e1 : IntKind.u8.min = 0 := rfl
  have e2 : IntKind.u8.max = 255 := rfl
  show (decide (IntKind.u8.min ≤ (c - 48) % 256) && decide ((c - 48) % 256 ≤ IntKind.u8.max)) = true
  rw [e1, e2, decide_eq_true h1, decide_eq_true (show (c - 48) % 256 ≤ 255 by omega)]
  rfl
theorem takeWhile_figs (L : List Int) (h : Figs L) (Z : List Int) (hZ : ∀ c, Z.head? = some c → isD c = false) : (L.map chr ++ Z).takeWhile isD = L.map chr := by
  induction L with
  | nil =>
    cases Z with
    | nil => rfl
    | cons c Z => simp [hZ c rfl]
  | cons d L ih =>
    rw [List.map_cons, List.cons_append, List.takeWhile_cons_of_pos (isD_chr h.head), ih h.tail]
theorem powAcc_pw {e : Int} : powAcc (pw e) 0 = (e.natAbs : Int) := by
  by_cases h : e = 0
  · subst h; rw [pw_nought]; rfl
  · rw [pw_sgn h]
    have : ∀ g, powAcc (sgn g ++ (digsN e.natAbs).map chr) 0 = powAcc ((digsN e.natAbs).map chr) 0 := by
      intro g
      cases g
      · rfl
      · show powAcc _ _ = _
        rfl
    rw [this, powAcc_figs (digsN_figs _), digsN_num]
    omega
/-- exergueref05.all: whether a text is a right number's, and then which one's. -/
theorem all_ev (s : ByteArray) (hs : s.size ≤ 200) : ∃ g l e b, Ev (fun k => exergueref05_all.f k s) (g, l, e, b) ∧ (b = true → RDec l e ∧ bytesOf s = txt g l e) ∧ (IsTxt (bytesOf s) → b = true) := by
  have hX : (bytesOf s).length = s.size := bytesOf_length s
  have hfl := rdFrom_le s
  obtain ⟨F, hF⟩ : ∃ F, ((bytesOf s).drop (rdFrom s)).takeWhile isD = F := ⟨_, rfl⟩
  have hFl : rdFrom s + F.length ≤ s.size := by
    have h1 := List.takeWhile_append_dropWhile (p := isD) (l := (bytesOf s).drop (rdFrom s))
    have h2 := congrArg List.length h1
    rw [List.length_append, List.length_drop, hF, hX] at h2
    omega
  have start : ∀ {r}, Ev (fun k => exergueref05_all.j3 k s ((rdFrom s + F.length : Nat) : Int) (rdNeg s) (F.map figOf) 0) r → Ev (fun k => exergueref05_all.f k s) r := by
    intro r h
    refine all_start s (all_l0 s (by omega) (rdNeg s) (s.size - rdFrom s) (rdFrom s) [] (by omega) (by simp; omega) ?_)
    rw [hF]
    simpa using h
  by_cases hc : hasB s (rdFrom s + F.length) 101 = true ∧ s.size - (rdFrom s + F.length) ≤ 6
  · have hE : 0 ≤ powAcc ((bytesOf s).drop (rdFrom s + F.length + 1)) 0 ∧ powAcc ((bytesOf s).drop (rdFrom s + F.length + 1)) 0 ≤ 1000000000 := by
      have hb : ∀ (R : List Int) (E : Int), 0 ≤ E → 0 ≤ powAcc R E ∧ powAcc R E + 1 ≤ (E + 1) * T10 R.length := by
        intro R
        induction R with
        | nil => intro E h; simp [powAcc, T10_zero]; omega
        | cons c R ih =>
          intro E h
          have hp := T10_pos R.length
          rw [powAcc, List.length_cons, T10_succ]
          have e1 : (E + 1) * (T10 R.length * 10) = ((E + 1) * 10) * T10 R.length := by grind
          rw [e1]
          by_cases hd : isD c = true
          · have := (isD_iff c).1 hd
            rw [if_pos hd]
            obtain ⟨a1, a2⟩ := ih (E * 10 + (c - 48)) (by omega)
            have : (E * 10 + (c - 48) + 1) * T10 R.length ≤ ((E + 1) * 10) * T10 R.length := Int.mul_le_mul_of_nonneg_right (by omega) (by omega)
            exact ⟨a1, by omega⟩
          · rw [if_neg hd]
            obtain ⟨a1, a2⟩ := ih E h
            have : (E + 1) * T10 R.length ≤ ((E + 1) * 10) * T10 R.length := Int.mul_le_mul_of_nonneg_right (by omega) (by omega)
            exact ⟨a1, by omega⟩
      obtain ⟨a1, a2⟩ := hb ((bytesOf s).drop (rdFrom s + F.length + 1)) 0 (by omega)
      have hlen : ((bytesOf s).drop (rdFrom s + F.length + 1)).length ≤ 5 := by rw [List.length_drop, hX]; omega
      have := T10_le hlen
      have e5 : T10 5 = 100000 := by decide
      exact ⟨a1, by omega⟩
    have hw : ∀ b_ ∈ (if F.map figOf = [0] then [] else F.map figOf), (Lit.int .u8 b_).wf = true := by
      split
      · intro b hb; cases hb
      · exact wf_figOf F
    have hl : (if F.map figOf = [0] then [] else F.map figOf).length ≤ 1000 := by
      split
      · simp
      · rw [List.length_map]; omega
    obtain ⟨e, b, h1, h2, h3⟩ := allEnd_ev s (hasB s (rdFrom s + F.length + 1) 45) (rdNeg s) hw hl hE
    refine ⟨rdNeg s, _, e, b, start (all_j3_yes s (by omega) _ _ _ hc.1 hc.2 h1), h3.1, ?_⟩
    rintro ⟨g', l', e', hR, ht⟩
    refine h3.2 ?_
    -- it is that number
    have hrd := read_txt hR ht
    have hg : rdNeg s = g' := by
      unfold dec_Read.f at hrd
      split at hrd
      · split at hrd
        · have := Option.some.inj hrd
          exact (Prod.mk.inj this).1
        · have := Option.some.inj hrd
          have := (Prod.mk.inj (Prod.mk.inj (Prod.mk.inj (Prod.mk.inj this).2).2).2).2
          cases this
      · cases hrd
    have hfr : rdFrom s = if g' then 1 else 0 := by unfold rdFrom; rw [hg]
    have hY : (bytesOf s).drop (rdFrom s) = figT l' ++ 101 :: pw e' := by rw [ht, hfr]; unfold txt; cases g' <;> rfl
    obtain ⟨L, hL1, hL2, hL3⟩ : ∃ L, Figs L ∧ figT l' = L.map chr ∧ (if L = [0] then [] else L) = l' := by
      by_cases h0 : l'.length = 0
      · have : l' = [] := List.eq_nil_of_length_eq_zero h0
        subst this
        exact ⟨[0], Figs.cons (by decide) (by decide) Figs.nil, rfl, rfl⟩
      · refine ⟨l', hR.figs, by unfold figT; rw [if_neg h0], if_neg ?_⟩
        intro z
        have := hR.first (by omega)
        rw [z] at this
        simp [rd] at this
    rw [hY, hL2] at hF
    rw [takeWhile_figs L hL1 _ (fun c hc => by cases hc; decide)] at hF
    have hD : F.map figOf = L := by rw [← hF]; exact figs_back hL1
    have hFL : F.length = L.length := by rw [← hF, List.length_map]
    have hd1 : (bytesOf s).drop (rdFrom s + F.length) = 101 :: pw e' := by
      rw [← List.drop_drop, hY, hL2, hFL, List.drop_left' (by rw [List.length_map])]
    have hd2 : (bytesOf s).drop (rdFrom s + F.length + 1) = pw e' := by rw [← List.drop_drop, hd1]; rfl
    rw [hd2, powAcc_pw] at h2
    have h45 : hasB s (rdFrom s + F.length + 1) 45 = decide (e' < 0) := by
      rw [hasB_eq, hd2, decide_eq_decide]
      unfold pw
      by_cases hn : e' < 0
      · simp [hn]
      · have hp := digsN_pos e'.toNat
        have hf := rd_figs (digsN_figs e'.toNat) 0
        rw [if_neg hn, List.head?_map, rd_head hp]
        rw [Int.natCast_zero] at hf
        simp [chr, hn]
        omega
    rw [h45] at h2
    have he : e = e' := by
      rw [h2]
      by_cases hn : e' < 0
      · rw [decide_eq_true hn, if_pos rfl]; omega
      · rw [decide_eq_false hn, if_neg (by decide)]; omega
    rw [hD, hL3, he, hg]
    exact ⟨hR, ht⟩
  · refine ⟨false, [], 0, false, start (all_j3_no s (by omega) _ _ _ hFl hc), fun z => (by cases z), ?_⟩
    rintro ⟨g', l', e', hR, ht⟩
    exfalso
    apply hc
    have hrd := read_txt hR ht
    have hg : rdNeg s = g' := by
      unfold dec_Read.f at hrd
      split at hrd
      · split at hrd
        · have := Option.some.inj hrd
          exact (Prod.mk.inj this).1
        · have := Option.some.inj hrd
          have := (Prod.mk.inj (Prod.mk.inj (Prod.mk.inj (Prod.mk.inj this).2).2).2).2
          cases this
      · cases hrd
    have hfr : rdFrom s = if g' then 1 else 0 := by unfold rdFrom; rw [hg]
    have hY : (bytesOf s).drop (rdFrom s) = figT l' ++ 101 :: pw e' := by rw [ht, hfr]; unfold txt; cases g' <;> rfl
    obtain ⟨L, hL1, hL2⟩ : ∃ L, Figs L ∧ figT l' = L.map chr := by
      by_cases h0 : l'.length = 0
      · have : l' = [] := List.eq_nil_of_length_eq_zero h0
        subst this
        exact ⟨[0], Figs.cons (by decide) (by decide) Figs.nil, rfl⟩
      · exact ⟨l', hR.figs, by unfold figT; rw [if_neg h0]⟩
    rw [hY, hL2] at hF
    rw [takeWhile_figs L hL1 _ (fun c hc => by cases hc; decide)] at hF
    have hFL : F.length = L.length := by rw [← hF, List.length_map]
    have hd1 : (bytesOf s).drop (rdFrom s + F.length) = 101 :: pw e' := by
      rw [← List.drop_drop, hY, hL2, hFL, List.drop_left' (by rw [List.length_map])]
    have hpl := pw_length hR.exp
    refine ⟨by rw [hasB_eq, hd1]; rfl, ?_⟩
    have := congrArg List.length hd1
    rw [List.length_drop, List.length_cons, hX] at this
    omega
theorem begins_ev (s : ByteArray) (hs : s.size ≤ 150) : ∃ b, Ev (fun k => exergueref05_begins.f k s) b ∧ (b = true ↔ ∃ Z ∈ btails, IsTxt (bytesOf s ++ Z)) := by
  have step : ∀ (i : Nat) (t : ByteArray) (r : Bool), i < 5 → rdOf ByteArray.empty ([(⟨#[]⟩ : ByteArray), (⟨#[49, 101, 48]⟩ : ByteArray), (⟨#[101, 48]⟩ : ByteArray), (⟨#[48]⟩ : ByteArray), (⟨#[49]⟩ : ByteArray)] : List ByteArray) (i : Int) = t → t.size ≤ 3 →
      Ev (fun k => exergueref05_begins.l0 k s ([(⟨#[]⟩ : ByteArray), (⟨#[49, 101, 48]⟩ : ByteArray), (⟨#[101, 48]⟩ : ByteArray), (⟨#[48]⟩ : ByteArray), (⟨#[49]⟩ : ByteArray)] : List ByteArray) ((i + 1 : Nat) : Int)) r →
      ∃ b, Ev (fun k => exergueref05_begins.l0 k s ([(⟨#[]⟩ : ByteArray), (⟨#[49, 101, 48]⟩ : ByteArray), (⟨#[101, 48]⟩ : ByteArray), (⟨#[48]⟩ : ByteArray), (⟨#[49]⟩ : ByteArray)] : List ByteArray) (i : Int)) b ∧ (b = true ↔ IsTxt (bytesOf s ++ bytesOf t) ∨ r = true) := by
    intro i t r hi ht hts hr
    obtain ⟨g, l, e, b, h1, h2, h3⟩ := all_ev (s ++ t) (by rw [ByteArray.size_append]; omega)
    rw [bytesOf_app] at h2 h3
    have p1 : (i : Int) < (5 : Int) := by omega
    have p2 : (0 : Int) ≤ (i : Int) := by omega
    have p3 : s.size + t.size ≤ 9223372036854775807 := by omega
    have w1 : wrap64 ((i : Int) + 1) = ((i + 1 : Nat) : Int) := by rw [w64 _ (by omega) (by omega)]; omega
    have hlen : ((([(⟨#[]⟩ : ByteArray), (⟨#[49, 101, 48]⟩ : ByteArray), (⟨#[101, 48]⟩ : ByteArray), (⟨#[48]⟩ : ByteArray), (⟨#[49]⟩ : ByteArray)] : List ByteArray).length : Nat) : Int) = 5 := rfl
    cases b with
    | true =>
      refine ⟨true, Ev_shift ?_, ?_⟩
      · simp only [exergueref05_begins.l0, hlen, if_pos p1, if_pos p2, ht, if_pos p3]
        refine Ev.bind h1 ?_
        simp only [if_true]
        exact Ev.now _
      · obtain ⟨a1, a2⟩ := h2 rfl
        exact ⟨fun _ => .inl ⟨g, l, e, a1, a2⟩, fun _ => rfl⟩
    | false =>
      refine ⟨r, Ev_shift ?_, ?_⟩
      · simp only [exergueref05_begins.l0, hlen, if_pos p1, if_pos p2, ht, if_pos p3]
        refine Ev.bind h1 ?_
        simp only [Bool.false_eq_true, if_false, w1]
        exact hr
      · exact ⟨fun z => .inr z, fun z => z.elim (fun y => by have := h3 y; cases this) id⟩
  have e5 : Ev (fun k => exergueref05_begins.l0 k s ([(⟨#[]⟩ : ByteArray), (⟨#[49, 101, 48]⟩ : ByteArray), (⟨#[101, 48]⟩ : ByteArray), (⟨#[48]⟩ : ByteArray), (⟨#[49]⟩ : ByteArray)] : List ByteArray) ((4 + 1 : Nat) : Int)) false := by
    refine Ev_shift ?_
    simp only [exergueref05_begins.l0, if_neg (show ¬ (((4 + 1 : Nat) : Int) < ((([(⟨#[]⟩ : ByteArray), (⟨#[49, 101, 48]⟩ : ByteArray), (⟨#[101, 48]⟩ : ByteArray), (⟨#[48]⟩ : ByteArray), (⟨#[49]⟩ : ByteArray)] : List ByteArray).length : Nat) : Int)) by decide)]
    exact Ev.now _
  obtain ⟨b4, h4, q4⟩ := step 4 ⟨#[49]⟩ false (by decide) rfl (by decide) e5
  obtain ⟨b3, h3, q3⟩ := step 3 ⟨#[48]⟩ b4 (by decide) rfl (by decide) h4
  obtain ⟨b2, h2, q2⟩ := step 2 ⟨#[101, 48]⟩ b3 (by decide) rfl (by decide) h3
  obtain ⟨b1, h1, q1⟩ := step 1 ⟨#[49, 101, 48]⟩ b2 (by decide) rfl (by decide) h2
  obtain ⟨b0, h0, q0⟩ := step 0 ⟨#[]⟩ b1 (by decide) rfl (by decide) h1
  refine ⟨b0, h0, ?_⟩
  rw [q0, q1, q2, q3, q4]
  have t0 : bytesOf ⟨#[]⟩ = [] := rfl
  have t1 : bytesOf ⟨#[49, 101, 48]⟩ = [49, 101, 48] := rfl
  have t2 : bytesOf ⟨#[101, 48]⟩ = [101, 48] := rfl
  have t3 : bytesOf ⟨#[48]⟩ = [48] := rfl
  have t4 : bytesOf ⟨#[49]⟩ = [49] := rfl
  rw [t0, t1, t2, t3, t4]
  unfold btails
  constructor
  · rintro (h | h | h | h | h | h)
    · exact ⟨_, by simp, h⟩
    · exact ⟨_, by simp, h⟩
    · exact ⟨_, by simp, h⟩
    · exact ⟨_, by simp, h⟩
    · exact ⟨_, by simp, h⟩
    · cases h
  · rintro ⟨Z, hZ, h⟩
    simp only [List.mem_cons, List.not_mem_nil, or_false] at hZ
    rcases hZ with rfl | rfl | rfl | rfl | rfl
    · exact .inl h
    · exact .inr (.inl h)
    · exact .inr (.inr (.inl h))
    · exact .inr (.inr (.inr (.inl h)))
    · exact .inr (.inr (.inr (.inr (.inl h))))
theorem bytesOf_take (s : ByteArray) (n : Nat) : bytesOf (s.extract 0 n) = (bytesOf s).take n := by
  unfold bytesOf
  rw [ByteArray.data_extract, Array.toList_extract, List.extract_eq_take_drop, List.map_take, List.map_drop]
  simp
/-- Where exergueref05.Read stops. -/
theorem refread_l0 (s : ByteArray) (hs : s.size ≤ 100) {p : Nat} (hp : Stops (bytesOf s) p) (hple : p ≤ s.size) (n : Nat) : ∀ m : Nat, m + n = p → Ev (fun k => exergueref05_Read.l0 k s (m : Int)) (false, [], 0, (p : Int), 2) := by
  have hX : (bytesOf s).length = s.size := bytesOf_length s
  have one : ∀ m : Nat, m < s.size → ∃ b, Ev (fun k => exergueref05_begins.f k (s.extract 0 (m + 1))) b ∧ (b = true ↔ ∃ Z ∈ btails, IsTxt ((bytesOf s).take (m + 1) ++ Z)) := by
    intro m hm
    have := begins_ev (s.extract 0 (m + 1)) (by rw [bytes_size s 0 (m + 1) (by omega)]; omega)
    rwa [bytesOf_take] at this
  induction n with
  | zero =>
    intro m hm
    have hm : m = p := by omega
    subst hm
    refine Ev_shift ?_
    by_cases h : m < s.size
    · have p1 : (m : Int) < (s.size : Int) := by omega
      have w1 : wrap64 ((m : Int) + 1) = ((m + 1 : Nat) : Int) := by rw [w64 _ (by omega) (by omega)]; omega
      have p2 : (0 : Int) ≤ ((m + 1 : Nat) : Int) := by omega
      have p3 : ((m + 1 : Nat) : Int) ≤ (s.size : Int) := by omega
      have e1 : (((m + 1 : Nat) : Int)).toNat = m + 1 := by omega
      obtain ⟨b, h1, h2⟩ := one m h
      have hno := hp.no (by omega)
      have hb : b = false := by
        cases b with
        | false => rfl
        | true =>
          obtain ⟨Z, _, g, l, e, hR, ht⟩ := h2.1 rfl
          exact absurd ht (brun_no hno hR Z)
      subst hb
      simp only [exergueref05_Read.l0, if_pos p1, w1, if_pos p2, if_pos p3, e1]
      refine Ev.bind h1 ?_
      simp only [Bool.false_eq_true, if_false]
      exact Ev.now _
    · have p1 : ¬ ((m : Int) < (s.size : Int)) := by omega
      simp only [exergueref05_Read.l0, if_neg p1]
      exact Ev.now _
  | succ n ih =>
    intro m hm
    refine Ev_shift ?_
    have p1 : (m : Int) < (s.size : Int) := by omega
    have w1 : wrap64 ((m : Int) + 1) = ((m + 1 : Nat) : Int) := by rw [w64 _ (by omega) (by omega)]; omega
    have p2 : (0 : Int) ≤ ((m + 1 : Nat) : Int) := by omega
    have p3 : ((m + 1 : Nat) : Int) ≤ (s.size : Int) := by omega
    have e1 : (((m + 1 : Nat) : Int)).toNat = m + 1 := by omega
    obtain ⟨b, h1, h2⟩ := one m (by omega)
    obtain ⟨st, hst⟩ := hp.yes (m := m + 1) (by omega)
    have hb : b = true := by
      obtain ⟨Z, hZ, g, l, e, hR, ht⟩ := begins_yes hst (by rw [List.length_take]; omega)
      exact h2.2 ⟨Z, hZ, g, l, e, hR, ht⟩
    subst hb
    simp only [exergueref05_Read.l0, if_pos p1, w1, if_pos p2, if_pos p3, e1]
    refine Ev.bind h1 ?_
    simp only [if_true]
    exact ih (m + 1) (by omega)
/-- exergueref05.Read answers as dec.Read does. -/
theorem refread_ev (s : ByteArray) (hs : s.size ≤ 100) : ∃ r, dec_Read.f s = some r ∧ Ev (fun k => exergueref05_Read.f k s) r ∧ r.2.1.length ≤ 1000 := by
  obtain ⟨g, l, e, b, h1, h2, h3⟩ := all_ev s (by omega)
  unfold exergueref05_Read.f
  cases b with
  | true =>
    obtain ⟨hR, ht⟩ := h2 rfl
    refine ⟨_, read_txt hR ht, ?_, hR.len⟩
    refine Ev.bind h1 ?_
    simp only [if_true]
    exact Ev.now _
  | false =>
    have hbad : rdGood s = false := by
      cases hg : rdGood s with
      | false => rfl
      | true =>
        obtain ⟨a1, a2⟩ := good_txt hg
        have := h3 ⟨_, _, _, a2, a1⟩
        cases this
    have hst := place_read (by omega) hbad
    have hle := rdAt3_le s
    refine ⟨(false, [], 0, (rdAt3 s : Int), 2), ?_, ?_, by simp⟩
    · unfold dec_Read.f
      rw [if_pos (by omega), if_neg (by rw [hbad]; decide)]
    · refine Ev.bind h1 ?_
      simp only [Bool.false_eq_true, if_false]
      exact refread_l0 s hs hst hle (rdAt3 s) 0 (by omega)
end Go.Proofs.YtahkamggdbibiaaDoor.PZ
end
