/- dec.Mag, dec.At and dec.Cmp, plainly: how two right numbers compare is how what they are worth compares.
   Conditions: the numbers are right. -/
import Derived.Test.YtahkamggdbibiaaDoorPZx3
import Derived.Test.YtahkamggdbibiaaDoorPZx16
import Derived.Test.YtahkamggdbibiaaDoorPureRight
import Derived.Test.YtahkamggdbibiaaDoorNum
set_option linter.unusedSimpArgs false
set_option linter.unusedVariables false
namespace Go.Proofs.YtahkamggdbibiaaDoor.PZ
open Go.RowKit Go.Proofs.YtahkamggdbibiaaDoorW.PrintWords Go.Proofs.YtahkamggdbibiaaDoorW.PrintLast
/-- A right Dec. -/
structure RDec (l : List Int) (e : Int) : Prop where
  figs : Figs l
  tail : RightTail l e
theorem wf_u8 {n : Int} (h : (Lit.int .u8 n).wf = true) : 0 ≤ n ∧ n ≤ 255 := by
  have h1 : (decide (IntKind.u8.min ≤ n) && decide (n ≤ IntKind.u8.max)) = true := h
  have e1 : IntKind.u8.min = 0 := rfl
  have e2 : IntKind.u8.max = 255 := rfl
  rw [e1, e2] at h1
  simpa using h1
theorem wf_i64 {n : Int} (h : (Lit.int .i64 n).wf = true) : -9223372036854775808 ≤ n ∧ n ≤ 9223372036854775807 := by
  have h1 : (decide (IntKind.i64.min ≤ n) && decide (n ≤ IntKind.i64.max)) = true := h
  have e1 : IntKind.i64.min = -9223372036854775808 := rfl
  have e2 : IntKind.i64.max = 9223372036854775807 := rfl
  rw [e1, e2] at h1
  simpa using h1
theorem len_max {l : List Int} (h : l.length ≤ maxLen) : l.length ≤ 9223372036854775807 := by
  have : maxLen = 9223372036854775807 := rfl
  omega
theorem rdec_of {l : List Int} {e : Int} (hw : ∀ b_ ∈ l, (Lit.int .u8 b_).wf = true) (h : Right l e) : RDec l e := by
  refine ⟨fun d hd => ⟨(wf_u8 (hw d hd)).1, ?_⟩, h.2⟩
  obtain ⟨i, hi, rfl⟩ := List.mem_iff_getElem.1 hd
  have := h.1 i hi
  simpa [rd, List.getD_eq_getElem?_getD, List.getElem?_eq_getElem hi] using this
theorem RDec.right {l : List Int} {e : Int} (h : RDec l e) : Right l e := ⟨fun i _ => (rd_figs h.figs i).2, h.tail⟩
theorem RDec.len {l : List Int} {e : Int} (h : RDec l e) : l.length ≤ 1000 := by rcases h.tail with h | h <;> omega
theorem RDec.exp {l : List Int} {e : Int} (h : RDec l e) : -1000 ≤ e ∧ e ≤ 1000 := by rcases h.tail with h | h <;> omega
theorem RDec.nil : RDec [] 0 := ⟨Figs.nil, .inl ⟨rfl, rfl⟩⟩
theorem RDec.first {l : List Int} {e : Int} (h : RDec l e) (hl : 0 < l.length) : 0 < rd l 0 := by rcases h.tail with h | h <;> omega
theorem RDec.last {l : List Int} {e : Int} (h : RDec l e) (hl : 0 < l.length) : 0 < rd l ((l.length : Int) - 1) := by rcases h.tail with h | h <;> omega
theorem RDec.nought {l : List Int} {e : Int} (h : RDec l e) (hl : l.length = 0) : e = 0 := by rcases h.tail with h | h <;> omega
theorem right_ev (g : Bool) (l : List Int) (e : Int) (hm : l.length ≤ 9223372036854775807) : ∃ t, Ev (fun k => exergueref05_Right.f k g l e) t ∧ (t = true ↔ Right l e) := by
  obtain ⟨t, k, hk, hi⟩ := right_many g l e hm
  exact ⟨t, ⟨k, fun j hj => hk j hj⟩, hi⟩
theorem right_yes (g : Bool) {l : List Int} {e : Int} (h : RDec l e) : Ev (fun k => exergueref05_Right.f k g l e) true := by
  obtain ⟨t, ht, hi⟩ := right_ev g l e (by have := h.len; omega)
  rwa [hi.2 h.right] at ht
/-- Of numbers that come in: right, or the law asks no more. -/
theorem right_cases (g : Bool) {l : List Int} {e : Int} (hm : l.length ≤ maxLen) (hw : ∀ b_ ∈ l, (Lit.int .u8 b_).wf = true) :
    (Ev (fun k => exergueref05_Right.f k g l e) true ∧ RDec l e) ∨ Ev (fun k => exergueref05_Right.f k g l e) false := by
  obtain ⟨t, ht, hi⟩ := right_ev g l e (len_max hm)
  cases t with
  | true => exact .inl ⟨ht, rdec_of hw (hi.1 rfl)⟩
  | false => exact .inr ht
def mag (l : List Int) (e : Int) : Int := mx (l.length : Int) 1 + e - 1
theorem mag_pos {l : List Int} (hl : 0 < l.length) (e : Int) : mag l e = l.length + e - 1 := by unfold mag mx; split <;> omega
theorem mag_nil {l : List Int} (hl : l.length = 0) (e : Int) : mag l e = e := by unfold mag mx; split <;> omega
theorem mag_range {l : List Int} {e : Int} (hl : l.length ≤ 1000) (he : -1000 ≤ e ∧ e ≤ 1000) : -1000 ≤ mag l e ∧ mag l e ≤ 1999 := by unfold mag mx; split <;> omega
theorem mag_e (g : Bool) (l : List Int) (e : Int) (hl : l.length ≤ 100000) (he : -100000 ≤ e ∧ e ≤ 100000) : dec_Mag.f g l e = some (mag l e) := by
  unfold dec_Mag.f mag
  have hm : 0 ≤ mx (l.length : Int) 1 ∧ mx (l.length : Int) 1 ≤ 100000 := by unfold mx; split <;> omega
  generalize mx (l.length : Int) 1 = m at hm ⊢
  rw [w64 (m + e) (by omega) (by omega), w64 _ (by omega) (by omega)]
/-- The figure at a place. -/
def atP (l : List Int) (e n : Int) : Int := if l.length = 0 ∨ mag l e < n then 0 else rd l (mag l e - n)
theorem at_e (g : Bool) (l : List Int) (e n : Int) (hl : l.length ≤ 100000) (he : -100000 ≤ e ∧ e ≤ 100000) (hn : -1000000 ≤ n ∧ n ≤ 1000000) : dec_At.f g l e n = some (atP l e n) := by
  have hr : -100000 ≤ mag l e ∧ mag l e ≤ 200000 := by unfold mag mx; split <;> omega
  unfold dec_At.f atP
  rw [mag_e g l e hl he]
  simp only [Option.bind_some]
  rw [w64 (mag l e - n) (by omega) (by omega)]
  by_cases h0 : l.length = 0
  · simp [h0]
  · by_cases h1 : mag l e < n
    · have h2 : mag l e - n < 0 := by omega
      simp [h0, h1, h2]
    · have h2 : ¬ mag l e - n < 0 := by omega
      by_cases h3 : mag l e - n ≥ (l.length : Int)
      · have e1 : rd l (mag l e - n) = 0 := by
          have : mag l e - n = ((mag l e - n).toNat : Int) := by omega
          rw [this]
          exact rd_out _ _ (by omega)
        have h0' : ¬ (l.length : Int) = 0 := by omega
        simp only [h0', if_false, h2, h3, if_true]
        rw [if_neg (by omega), e1]
      · have h0' : ¬ (l.length : Int) = 0 := by omega
        have h4 : (0 : Int) ≤ mag l e - n := by omega
        have h5 : mag l e - n < (l.length : Int) := by omega
        simp only [h0', if_false, h2, h3, h4, h5, if_true]
        rw [if_neg (by omega)]
theorem at_mag (l : List Int) (e : Int) (i : Nat) : atP l e (mag l e - i) = rd l i := by
  unfold atP
  by_cases h0 : l.length = 0
  · rw [if_pos (.inl h0), rd_out _ _ (by omega)]
  · rw [if_neg (by omega)]
    congr 1
    omega
theorem size_l0 (ga gb : Bool) {a b : List Int} {ea eb : Int} (ha : RDec a ea) (hb : RDec b eb) (hm : mag a ea = mag b eb) (N : Nat) (hN : N ≤ 1000) (hNa : a.length ≤ N) (hNb : b.length ≤ N) (n : Nat) :
    ∀ i : Nat, i + n = N → dec_size.l0 (n + 1) (N : Int) (i : Int) ga a ea gb b eb = some (sg (num ((pad a N).drop i) - num ((pad b N).drop i))) := by
  have hra := mag_range ha.len ha.exp
  induction n with
  | zero =>
    intro i hi
    have h1 : ¬ ((i : Int) < (N : Int)) := by omega
    rw [dec_size.l0, if_neg h1, List.drop_of_length_le (by rw [pad_length _ _ hNa]; omega), List.drop_of_length_le (by rw [pad_length _ _ hNb]; omega)]
    rfl
  | succ n ih =>
    intro i hi
    have h1 : (i : Int) < (N : Int) := by omega
    have h2 : wrap64 ((i : Int) + 1) = ((i + 1 : Nat) : Int) := by rw [w64 _ (by omega) (by omega)]; omega
    rw [dec_size.l0, if_pos h1, mag_e ga a ea (by have := ha.len; omega) (by have := ha.exp; omega)]
    simp only [Option.bind_some]
    rw [w64 (mag a ea - (i : Int)) (by omega) (by omega), at_e ga a ea _ (by have := ha.len; omega) (by have := ha.exp; omega) (by omega), at_mag]
    rw [hm, at_e gb b eb _ (by have := hb.len; omega) (by have := hb.exp; omega) (by omega), at_mag]
    simp only [Option.bind_some]
    rw [drop_cons (pad a N) i (by rw [pad_length _ _ hNa]; omega), drop_cons (pad b N) i (by rw [pad_length _ _ hNb]; omega), pad_rd, pad_rd, num_cons, num_cons]
    have la : ((pad a N).drop (i + 1)).length = n := by rw [List.length_drop, pad_length _ _ hNa]; omega
    have lb : ((pad b N).drop (i + 1)).length = n := by rw [List.length_drop, pad_length _ _ hNb]; omega
    have ra := rd_figs ha.figs i
    have rb := rd_figs hb.figs i
    by_cases he : rd a i = rd b i
    · rw [if_pos he, h2, ih (i + 1) (by omega), he, la, lb]
      congr 2
      omega
    · have na := num_lt ((pad_figs ha.figs N).drop (i + 1))
      have nb := num_lt ((pad_figs hb.figs N).drop (i + 1))
      rw [la] at na
      rw [lb] at nb
      rw [if_neg he, w64 (rd a i) (by omega) (by omega), w64 (rd b i) (by omega) (by omega), w64 _ (by omega) (by omega), sg_clamp, la, lb, sg_ahead na nb he]
theorem size_e (ga gb : Bool) {a b : List Int} {ea eb : Int} (ha : RDec a ea) (hb : RDec b eb) (ha0 : 0 < a.length) (hb0 : 0 < b.length) :
    Ev (fun k => dec_size.f k ga a ea gb b eb) (sg (valN a ea - valN b eb)) := by
  have la := ha.len
  have lb := hb.len
  have xa := ha.exp
  have xb := hb.exp
  have ma := mag_pos ha0 ea
  have mb := mag_pos hb0 eb
  by_cases hm : mag a ea = mag b eb
  · obtain ⟨N, hN, hNN⟩ : ∃ N : Nat, mx (a.length : Int) (b.length : Int) = (N : Int) ∧ N ≤ 1000 ∧ a.length ≤ N ∧ b.length ≤ N := by
      unfold mx
      split
      · exact ⟨b.length, rfl, by omega, by omega, by omega⟩
      · exact ⟨a.length, rfl, by omega, by omega, by omega⟩
    refine Ev.of (k := N + 1) (fun k => dec_size.mono _ _ _ _ _ _ k) ?_
    unfold dec_size.f
    rw [mag_e ga a ea (by omega) (by omega), mag_e gb b eb (by omega) (by omega)]
    simp only [Option.bind_some]
    rw [if_pos hm, hN]
    have h0 := size_l0 ga gb ha hb hm N hNN.1 hNN.2.1 hNN.2.2 N 0 (by omega)
    rw [Int.natCast_zero] at h0
    rw [h0]
    simp only [List.drop_zero]
    rw [valN_pad ea N hNN.2.1 (by omega), valN_pad eb N hNN.2.2 (by omega)]
    have e1 : (a.length + ea + 3000 - N).toNat = (b.length + eb + 3000 - N).toNat := by omega
    rw [e1, ← Int.sub_mul, sg_mul (T10_pos _)]
  · refine Ev.of (k := 0) (fun k => dec_size.mono _ _ _ _ _ _ k) ?_
    unfold dec_size.f
    rw [mag_e ga a ea (by omega) (by omega), mag_e gb b eb (by omega) (by omega)]
    simp only [Option.bind_some]
    rw [if_neg hm, w64 _ (by omega) (by omega), sg_clamp]
    have va := valN_bounds ha.figs ha0 (ha.first ha0) ea (by omega)
    have vb := valN_bounds hb.figs hb0 (hb.first hb0) eb (by omega)
    congr 1
    rcases Int.lt_or_gt_of_ne hm with h | h
    · have := T10_le (show (a.length + ea + 3000).toNat ≤ (b.length + eb + 2999).toNat by omega)
      exact sg_eq (by omega) (by omega)
    · have := T10_le (show (b.length + eb + 3000).toNat ≤ (a.length + ea + 2999).toNat by omega)
      exact sg_eq (by omega) (by omega)
theorem side_e (g : Bool) {l : List Int} {e : Int} (h : RDec l e) : dec_side.f g l e = some (sg (val g l e)) := by
  unfold dec_side.f
  by_cases h0 : l.length = 0
  · have : l = [] := List.eq_nil_of_length_eq_zero h0
    subst this
    rw [val_nil]
    rfl
  · have hp := valN_pos h.figs (by omega) (h.first (by omega)) e
    rw [if_neg (by omega)]
    unfold val sg
    cases g
    · simp only [Bool.false_eq_true, if_false]
      rw [if_neg (by omega), if_pos hp]
    · simp only [if_true]
      rw [if_pos (by omega)]
/-- Cmp. -/
theorem cmp_e (ga gb : Bool) {a b : List Int} {ea eb : Int} (ha : RDec a ea) (hb : RDec b eb) : Ev (fun k => dec_Cmp.f k ga a ea gb b eb) (sg (val ga a ea - val gb b eb)) := by
  unfold dec_Cmp.f
  rw [side_e ga ha, side_e gb hb]
  simp only [Option.bind_some]
  have sa := sg_range (val ga a ea)
  have sb := sg_range (val gb b eb)
  by_cases he : sg (val ga a ea) = sg (val gb b eb)
  · simp only [if_pos he]
    by_cases h0 : sg (val ga a ea) = 0
    · simp only [if_pos h0]
      have e1 : val ga a ea = 0 := sg_zero.1 h0
      have e2 : val gb b eb = 0 := sg_zero.1 (by omega)
      rw [h0, ← he, h0, e1, e2, show mn (mx (wrap64 (0 - 0)) (-1)) 1 = 0 by rw [w64 _ (by omega) (by omega), sg_clamp]; decide, show sg (0 - 0) = 0 by decide]
      exact Ev.now 0
    · simp only [if_neg h0]
      have ha0 : 0 < a.length := by
        rcases Nat.eq_zero_or_pos a.length with h | h
        · have : a = [] := List.eq_nil_of_length_eq_zero h
          subst this
          rw [val_nil] at h0
          exact absurd rfl h0
        · exact h
      have hb0 : 0 < b.length := by
        rcases Nat.eq_zero_or_pos b.length with h | h
        · have : b = [] := List.eq_nil_of_length_eq_zero h
          subst this
          rw [he, val_nil] at h0
          exact absurd rfl h0
        · exact h
      refine Ev.bind (size_e ga gb ha hb ha0 hb0) ?_
      have hs := sg_range (valN a ea - valN b eb)
      have pa := valN_pos ha.figs ha0 (ha.first ha0) ea
      have pb := valN_pos hb.figs hb0 (hb.first hb0) eb
      have e1 : wrap64 (sg (val ga a ea) * sg (valN a ea - valN b eb)) = sg (val ga a ea - val gb b eb) := by
        unfold val at he ⊢
        cases ga <;> cases gb <;> simp only [Bool.false_eq_true, if_false, if_true] at he ⊢
        · have : sg (valN a ea) = 1 := by unfold sg; rw [if_neg (by omega), if_pos pa]
          rw [this, Int.one_mul, w64 _ (by omega) (by omega)]
        · have h1 := sg_pos.2 pa
          have h2 : sg (-valN b eb) < 0 := sg_lt.2 (by omega)
          omega
        · have h1 := sg_pos.2 pb
          have h2 : sg (-valN a ea) < 0 := sg_lt.2 (by omega)
          omega
        · have : sg (-valN a ea) = -1 := by unfold sg; rw [if_pos (by omega)]
          have e2 : -valN a ea - -valN b eb = -(valN a ea - valN b eb) := by omega
          rw [this, e2, sg_neg, w64 _ (by omega) (by omega)]
          omega
      rw [e1]
      exact Ev.now _
  · simp only [if_neg he]
    rw [w64 _ (by omega) (by omega), sg_clamp]
    have : sg (sg (val ga a ea) - sg (val gb b eb)) = sg (val ga a ea - val gb b eb) := by
      generalize val ga a ea = x at *
      generalize val gb b eb = y at *
      unfold sg at *
      repeat' split at he
      all_goals (repeat' split) <;> omega
    rw [this]
    exact Ev.now _
/-- exergueref01.Row, of rows as long as any. -/
theorem row_l0 (a b : List Int) (hl : a.length = b.length) (hm : a.length ≤ 9223372036854775807) (n : Nat) : ∀ i : Nat, i + n = a.length → exergueref01_Row.l0 (n + 1) a b (i : Int) = some (decide (a.drop i = b.drop i)) := by
  induction n with
  | zero =>
    intro i hi
    have h1 : ¬ ((i : Int) < (a.length : Int)) := by omega
    rw [exergueref01_Row.l0, if_neg h1, List.drop_of_length_le (by omega), List.drop_of_length_le (by omega)]
    rfl
  | succ n ih =>
    intro i hi
    have h1 : (i : Int) < (a.length : Int) := by omega
    have h2 : wrap64 ((i : Int) + 1) = ((i + 1 : Nat) : Int) := by rw [w64 _ (by omega) (by omega)]; omega
    rw [exergueref01_Row.l0, if_pos h1, if_pos (by omega), if_pos (by omega), drop_cons a i (by omega), drop_cons b i (by omega)]
    by_cases he : rd a i = rd b i
    · rw [if_pos he, h2, ih (i + 1) (by omega), he]
      simp
    · rw [if_neg he]
      simp [he]
theorem row_e (a b : List Int) (hm : a.length ≤ 9223372036854775807) : Ev (fun k => exergueref01_Row.f k a b) (decide (a = b)) := by
  unfold exergueref01_Row.f
  by_cases hl : a.length = b.length
  · simp only [if_pos (show (a.length : Int) = (b.length : Int) by omega)]
    refine Ev.of (k := a.length + 1) (fun k => exergueref01_Row.mono_l k _ _ _) ?_
    have := row_l0 a b hl hm a.length 0 (by omega)
    simpa using this
  · simp only [if_neg (show ¬ (a.length : Int) = (b.length : Int) by omega)]
    have : decide (a = b) = false := by
      rw [decide_eq_false_iff_not]
      rintro rfl
      exact hl rfl
    rw [this]
    exact Ev.now _
/-- exergueref05.Same. -/
theorem same_e (ga gb : Bool) (a b : List Int) (ea eb : Int) (hm : a.length ≤ 9223372036854775807) : Ev (fun k => exergueref05_Same.f k ga a ea gb b eb) (decide (ga = gb ∧ a = b ∧ ea = eb)) := by
  unfold exergueref05_Same.f
  refine Ev.bind (row_e a b hm) ?_
  by_cases h1 : a = b
  · simp only [h1, decide_true, if_true]
    by_cases h2 : ga = gb
    · simp only [h2, beq_self_eq_true, if_true, true_and]
      exact Ev.congr (fun _ => by rw [show (ea == eb) = decide (ea = eb) by rw [Bool.eq_iff_iff]; simp]) (Ev.now _)
    · have h3 : (ga == gb) = false := by simpa using h2
      simp only [h3, h2, decide_false, Bool.false_eq_true, if_false, false_and]
      exact Ev.now _
  · simp only [h1, decide_false, Bool.false_eq_true, if_false, false_and, and_false]
    exact Ev.now _
theorem same_self (g : Bool) (a : List Int) (e : Int) (hm : a.length ≤ 9223372036854775807) : Ev (fun k => exergueref05_Same.f k g a e g a e) true := by
  have := same_e g g a a e e hm
  simpa using this
theorem Ev_shift {α : Type} {g : Nat → Option α} {r : α} (h : Ev (fun n => g (n + 1)) r) : Ev g r := Ev.step (fun _ => rfl) h
/-- Right numbers that are worth the same are the same. -/
theorem valN_inj {a b : List Int} {ea eb : Int} (ha : RDec a ea) (hb : RDec b eb) (ha0 : 0 < a.length) (hb0 : 0 < b.length) (h : valN a ea = valN b eb) : a = b ∧ ea = eb := by
  have la := ha.len
  have lb := hb.len
  have xa := ha.exp
  have xb := hb.exp
  have va := valN_bounds ha.figs ha0 (ha.first ha0) ea (by omega)
  have vb := valN_bounds hb.figs hb0 (hb.first hb0) eb (by omega)
  have l1 := T10_lt (show T10 (a.length + ea + 2999).toNat < T10 (b.length + eb + 3000).toNat by omega)
  have l2 := T10_lt (show T10 (b.length + eb + 2999).toNat < T10 (a.length + ea + 3000).toNat by omega)
  have hs : (a.length : Int) + ea = b.length + eb := by omega
  obtain ⟨N, hNa, hNb, hN⟩ : ∃ N : Nat, a.length ≤ N ∧ b.length ≤ N ∧ N ≤ 1000 := ⟨max a.length b.length, by omega, by omega, by omega⟩
  have pa := valN_pad ea N hNa (by omega)
  have pb := valN_pad eb N hNb (by omega)
  rw [hs] at pa
  have e1 : num (pad a N) = num (pad b N) := Int.eq_of_mul_eq_mul_right (Int.ne_of_gt (T10_pos _)) (by rw [← pa, ← pb]; exact h)
  have e2 : pad a N = pad b N := num_inj (pad_figs ha.figs N) (pad_figs hb.figs N) (by rw [pad_length _ _ hNa, pad_length _ _ hNb]) e1
  have e3 : ∀ k : Nat, rd a k = rd b k := fun k => by rw [← pad_rd a N k, e2, pad_rd]
  have hl : a.length = b.length := by
    rcases Nat.lt_trichotomy a.length b.length with g | g | g
    · have := hb.last hb0
      have e : (b.length : Int) - 1 = ((b.length - 1 : Nat) : Int) := by omega
      rw [e, ← e3, rd_out a _ (by omega)] at this
      omega
    · exact g
    · have := ha.last ha0
      have e : (a.length : Int) - 1 = ((a.length - 1 : Nat) : Int) := by omega
      rw [e, e3, rd_out b _ (by omega)] at this
      omega
  refine ⟨?_, by omega⟩
  unfold pad at e2
  exact (List.append_inj e2 hl).1
theorem nil_of {l : List Int} (h : ¬ 0 < l.length) : l = [] := List.eq_nil_of_length_eq_zero (by omega)
theorem RDec.val_zero {l : List Int} {e : Int} (h : RDec l e) (g : Bool) : val g l e = 0 ↔ l = [] := by
  constructor
  · intro hv
    apply Classical.byContradiction
    intro hn
    have h0 : 0 < l.length := List.length_pos_iff.2 hn
    have := valN_pos h.figs h0 (h.first h0) e
    unfold val at hv
    split at hv <;> omega
  · rintro rfl
    exact val_nil g e
/-- What is worth the same: the same, or both noughts. -/
theorem RDec.val_eq {ga gb : Bool} {a b : List Int} {ea eb : Int} (ha : RDec a ea) (hb : RDec b eb) : val ga a ea = val gb b eb ↔ ((ga = gb ∧ a = b ∧ ea = eb) ∨ (a = [] ∧ b = [])) := by
  constructor
  · intro h
    by_cases h0 : a = []
    · have := (ha.val_zero ga).2 h0
      exact .inr ⟨h0, (hb.val_zero gb).1 (by omega)⟩
    · by_cases h1 : b = []
      · have := (hb.val_zero gb).2 h1
        exact absurd ((ha.val_zero ga).1 (by omega)) h0
      · have a0 : 0 < a.length := List.length_pos_iff.2 h0
        have b0 : 0 < b.length := List.length_pos_iff.2 h1
        have pa := valN_pos ha.figs a0 (ha.first a0) ea
        have pb := valN_pos hb.figs b0 (hb.first b0) eb
        unfold val at h
        cases ga <;> cases gb <;> simp only [Bool.false_eq_true, if_false, if_true] at h
        · exact .inl ⟨rfl, valN_inj ha hb a0 b0 h⟩
        · omega
        · omega
        · exact .inl ⟨rfl, valN_inj ha hb a0 b0 (by omega)⟩
  · rintro (⟨rfl, rfl, rfl⟩ | ⟨rfl, rfl⟩)
    · rfl
    · rw [val_nil, val_nil]
end Go.Proofs.YtahkamggdbibiaaDoor.PZ
