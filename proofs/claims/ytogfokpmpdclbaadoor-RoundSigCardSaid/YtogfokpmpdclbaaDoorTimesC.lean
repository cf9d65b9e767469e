/- round.times: its contract, and what its figures are worth.
   Conditions: none. -/
import Derived.Test.YtogfokpmpdclbaaDoorTimes
import Derived.Test.YtogfokpmpdclbaaDoorNum
import Derived.Test.YtogfokpmpdclbaaDoorPZx1
set_option linter.unusedSimpArgs false
set_option linter.unusedVariables false
namespace Go.Proofs.YtogfokpmpdclbaaDoor.PZ
open Go.RowKit Go.Shelf Go.Proofs.YtogfokpmpdclbaaDoorW.PrintWords Go.Proofs.YtogfokpmpdclbaaDoorW.PrintLast
theorem lowD_num (c : Nat) : num (lowD c).reverse = c ∧ Figs (lowD c) := by
  induction c using Nat.strongRecOn with
  | ind c ih =>
    by_cases h : 0 < c
    · obtain ⟨h1, h2⟩ := ih (c / 10) (by omega)
      rw [lowD_pos h, List.reverse_cons, num_snoc, h1]
      exact ⟨by omega, Figs.cons (by omega) (by omega) h2⟩
    · obtain rfl : c = 0 := by omega
      rw [lowD_zero]
      exact ⟨rfl, Figs.nil⟩
theorem backK_snd (zs : List Int) (n : Nat) (h : n ≤ zs.length) : (backK zs n).map Prod.snd = (zs.drop (zs.length - n)).reverse := by
  induction n with
  | zero => simp [backK]
  | succ n ih =>
    rw [backK_succ, List.map_append, ih (by omega)]
    have e : zs.length - (n + 1) + 1 = zs.length - n := by omega
    rw [drop_cons zs (zs.length - (n + 1)) (by omega), e, List.reverse_cons]
    congr 2
    have : (zs.length : Int) - 1 - n = ((zs.length - (n + 1) : Nat) : Int) := by omega
    simp [this]
theorem timesS_eq (k : Int) (l : List Int) : timesS k (backK l l.length) = l.reverse.foldl (timesStep k) (0, []) := by
  unfold timesS
  rw [backK_snd l l.length (Nat.le_refl _)]
  simp
theorem timesStep_eq {k s c : Int} (out : List Int) (hk : 0 ≤ k ∧ k ≤ 1000000000) (hs : 0 ≤ s ∧ s ≤ k) (hc : 0 ≤ c ∧ c ≤ 9) : timesStep k (s, out) c = ((s + c * k) / 10, out ++ [(s + c * k) % 10]) ∧ 0 ≤ (s + c * k) / 10 ∧ (s + c * k) / 10 ≤ k := by
  have h1 : 0 ≤ c * k := Int.mul_nonneg hc.1 hk.1
  have h2 : c * k ≤ 9 * k := Int.mul_le_mul_of_nonneg_right hc.2 hk.1
  unfold timesStep
  rw [w64 c (by omega) (by omega)]
  generalize c * k = y at *
  have e1 : wrap64 y = y := w64 _ (by omega) (by omega)
  dsimp only
  rw [e1, w64 (s + y) (by omega) (by omega), Int.tdiv_eq_ediv_of_nonneg (by omega), Int.tmod_eq_emod_of_nonneg (by omega), w64 ((s + y) / 10) (by omega) (by omega)]
  have e2 : (s + y) % 10 % 256 = (s + y) % 10 := by omega
  rw [e2]
  exact ⟨rfl, by omega, by omega⟩
theorem times_fold {k : Int} (hk : 0 ≤ k ∧ k ≤ 1000000000) (p : List Int) (hp : Figs p) : ∀ s : Int × List Int, 0 ≤ s.1 ∧ s.1 ≤ k → Figs s.2 →
    (0 ≤ (p.foldl (timesStep k) s).1 ∧ (p.foldl (timesStep k) s).1 ≤ k) ∧ Figs (p.foldl (timesStep k) s).2 ∧ (p.foldl (timesStep k) s).2.length = s.2.length + p.length ∧
    num (p.foldl (timesStep k) s).2.reverse + (p.foldl (timesStep k) s).1 * T10 (s.2.length + p.length) = num s.2.reverse + (s.1 + k * num p.reverse) * T10 s.2.length := by
  induction p with
  | nil => intro s h1 h2; exact ⟨h1, h2, by simp, by simp [num_nil]⟩
  | cons c p ih =>
    rintro ⟨s, out⟩ h1 h2
    obtain ⟨e, b1, b2⟩ := timesStep_eq out hk h1 hp.head
    rw [List.foldl_cons, e]
    obtain ⟨a1, a2, a3, a4⟩ := ih hp.tail ((s + c * k) / 10, out ++ [(s + c * k) % 10]) ⟨b1, b2⟩ (h2.append (Figs.cons (by omega) (by omega) Figs.nil))
    refine ⟨a1, a2, by rw [a3]; simp; omega, ?_⟩
    have e2 : (out ++ [(s + c * k) % 10]).length + p.length = out.length + (c :: p).length := by simp; omega
    dsimp only at a4 ⊢
    rw [e2] at a4
    have e7 : num (c :: p).reverse = num p.reverse * 10 + c := by rw [List.reverse_cons, num_snoc]
    rw [a4, List.reverse_append, e7]
    have e3 : num (([(s + c * k) % 10] : List Int).reverse ++ out.reverse) = (s + c * k) % 10 * T10 out.length + num out.reverse := by
      rw [num_append]; simp [num_one]
    rw [e3]
    have e4 : (out ++ [(s + c * k) % 10]).length = out.length + 1 := by simp
    rw [e4, T10_succ]
    have e5 : s + c * k = 10 * ((s + c * k) / 10) + (s + c * k) % 10 := by omega
    generalize (s + c * k) / 10 = u at *
    generalize (s + c * k) % 10 = v at *
    have e6 : s = 10 * u + v - c * k := by omega
    subst e6
    grind
/-- Figures times a number, as the program's loops make them. -/
def timesL (l : List Int) (k : Int) : List Int := ((l.reverse.foldl (timesStep k) (0, [])).2 ++ lowD (l.reverse.foldl (timesStep k) (0, [])).1.toNat).reverse
theorem timesL_num {l : List Int} {k : Int} (hl : Figs l) (hk : 0 ≤ k ∧ k ≤ 1000000000) : Figs (timesL l k) ∧ num (timesL l k) = num l * k ∧ (timesL l k).length ≤ l.length + 10 := by
  obtain ⟨a1, a2, a3, a4⟩ := times_fold hk l.reverse hl.reverse (0, []) ⟨Int.le_refl _, hk.1⟩ Figs.nil
  obtain ⟨b1, b2⟩ := lowD_num (l.reverse.foldl (timesStep k) (0, [])).1.toNat
  have b3 := lowD_len 10 (l.reverse.foldl (timesStep k) (0, [])).1.toNat (by omega)
  unfold timesL
  generalize l.reverse.foldl (timesStep k) (0, []) = s at *
  obtain ⟨c, out⟩ := s
  dsimp only at *
  simp only [List.length_nil, List.length_reverse, Nat.zero_add, List.reverse_nil, List.reverse_reverse, num_nil, T10_zero] at a3 a4
  refine ⟨(a2.append b2).reverse, ?_, by simp; omega⟩
  rw [List.reverse_append, num_append, b1, List.length_reverse, a3, Int.toNat_of_nonneg a1.1]
  have : k * num l = num l * k := Int.mul_comm _ _
  omega
/-- What times answers, where its figures are figures and its number is no greater than 10^9. -/
def round_times.f (l : List Int) (k : Int) : Option (List Int) := if (0 ≤ k ∧ k ≤ 1000000000 ∧ l.length ≤ 70368744177664) ∧ (∀ c ∈ l, 0 ≤ c ∧ c ≤ 9) then some (timesL l k) else none
theorem rev_l0 (d : Nat) : ∀ (k : Nat) (a m b : List Int), m.length ≤ d → d < k → a.length + m.length + b.length ≤ 4611686018427387904 →
    slices_Reverse_byte_byte.l0 k (a ++ m ++ b) a.length ((a.length + m.length : Int) - 1) = some (a ++ m.reverse ++ b) := by
  induction d with
  | zero =>
    intro k a m b hm hk hb
    obtain ⟨k, rfl⟩ : ∃ j, k = j + 1 := ⟨k - 1, by omega⟩
    have : m = [] := List.eq_nil_of_length_eq_zero (by omega)
    subst this
    simp only [slices_Reverse_byte_byte.l0, List.length_nil, List.reverse_nil]
    rw [if_neg (by omega)]
  | succ d ih =>
    intro k a m b hm hk hb
    obtain ⟨k, rfl⟩ : ∃ j, k = j + 1 := ⟨k - 1, by omega⟩
    cases m with
    | nil => simp only [slices_Reverse_byte_byte.l0, List.length_nil, List.reverse_nil]; rw [if_neg (by omega)]
    | cons x m =>
      rcases List.eq_nil_or_concat m with rfl | ⟨m, y, rfl⟩
      · simp only [slices_Reverse_byte_byte.l0, List.length_cons, List.length_nil, List.reverse_cons, List.reverse_nil, List.nil_append]; rw [if_neg (by omega)]
      · simp only [List.concat_eq_append] at *
        have hlm : (x :: (m ++ [y])).length = m.length + 2 := by simp
        rw [hlm] at hm hb ⊢
        have hL : (a ++ (x :: (m ++ [y])) ++ b).length = a.length + m.length + 2 + b.length := by simp; omega
        have hj : ((a.length : Int) + ((m.length + 2 : Nat) : Int)) - 1 = ((a.length + m.length + 1 : Nat) : Int) := by omega
        have hx : rd (a ++ (x :: (m ++ [y])) ++ b) (a.length : Int) = x := by
          simp [rd, List.getD_eq_getElem?_getD]
        have hy : rd (a ++ (x :: (m ++ [y])) ++ b) ((a.length + m.length + 1 : Nat) : Int) = y := by
          have e1 : a ++ (x :: (m ++ [y])) ++ b = (a ++ x :: m) ++ (y :: b) := by simp
          rw [e1, rd_append_right _ _ _ (by simp; omega)]
          have : a.length + m.length + 1 - (a ++ x :: m).length = 0 := by simp; omega
          rw [this]; rfl
        have hs : ((a ++ (x :: (m ++ [y])) ++ b).set a.length y).set (a.length + m.length + 1) x = (a ++ [y]) ++ m ++ (x :: b) := by
          have e1 : (a ++ (x :: (m ++ [y])) ++ b).set a.length y = a ++ (y :: (m ++ [y])) ++ b := by
            rw [List.append_assoc, List.set_append_right _ _ (Nat.le_refl _), Nat.sub_self, List.cons_append, List.set_cons_zero]
            simp
          have e2 : a ++ (y :: (m ++ [y])) ++ b = ((a ++ [y]) ++ m) ++ (y :: b) := by simp
          rw [e1, e2, List.set_append_right _ _ (by simp; omega)]
          have : a.length + m.length + 1 - ((a ++ [y]) ++ m).length = 0 := by simp; omega
          rw [this, List.set_cons_zero]
        have := ih k (a ++ [y]) m (x :: b) (by omega) (by omega) (by simp; omega)
        simp only [slices_Reverse_byte_byte.l0]
        rw [hj, if_pos (by omega), if_pos (by omega), if_pos (by rw [hL]; omega), if_pos (by omega), if_pos (by rw [hL]; omega), hx, hy]
        simp only [Int.toNat_natCast]
        rw [hs, w64 _ (by omega) (by omega), w64 _ (by omega) (by omega)]
        have e3 : ((a ++ [y]).length : Int) = (a.length : Int) + 1 := by simp
        have e4 : ((a ++ [y]).length + m.length : Int) - 1 = ((a.length + m.length + 1 : Nat) : Int) - 1 := by simp; omega
        rw [e3] at this e4
        rw [e4] at this
        rw [this]
        simp
theorem rev_f (l : List Int) (hl : l.length ≤ 4611686018427387904) : slices_Reverse_byte_byte.f (l.length + 1) l = some l.reverse := by
  have := rev_l0 l.length (l.length + 1) [] l [] (Nat.le_refl _) (by omega) (by simpa using hl)
  unfold slices_Reverse_byte_byte.f
  rw [w64 _ (by omega) (by omega)]
  simpa using this
theorem round_times.calls (A0 : Option Addr) (c0 : Nat) (l0 : List Int) (a1 : Int) (r : List Int) (w : World) (hr0 : Kd.C (Kd.int .u8) w A0 l0.length l0) (_hc0 : l0.length ≤ c0) (h : round_times.f l0 a1 = some r) :
    Calls Tryd.prog 29 #[.slice A0 l0.length c0, .int .i64 a1] w fun e w' => ∃ v0_ : Value, e = .returned (v0_) ∧ Kd.R (Kd.int .u8) 5 w' w.heap.size (fun _ => True) v0_ r ∧ Below w.heap.size w w' := by
  unfold round_times.f at h
  by_cases hb : (0 ≤ a1 ∧ a1 ≤ 1000000000 ∧ l0.length ≤ 70368744177664) ∧ (∀ c ∈ l0, 0 ≤ c ∧ c ≤ 9)
  · rw [if_pos hb] at h
    obtain rfl := Option.some.inj h
    obtain ⟨⟨b1, b2, b3⟩, hf⟩ := hb
    obtain ⟨a1', _⟩ := times_fold ⟨b1, b2⟩ l0.reverse (Figs.reverse hf) (0, []) ⟨Int.le_refl _, b1⟩ Figs.nil
    have hcar : 0 ≤ (timesS a1 (backK l0 l0.length)).1 ∧ (timesS a1 (backK l0 l0.length)).1 < 9223372036854775808 := by rw [timesS_eq]; omega
    have := times_in Fence.wide 3 trivial trivial trivial trivial rfl (Nat.le_refl _) A0 c0 l0 a1 b3 hcar w hr0 ?_
    · have h2 := callsIn_wide.1 this
      rw [timesS_eq] at h2
      exact h2
    · intro v outs W hB hown hol
      refine callsIn_wide.2 ?_
      refine (slices_Reverse_byte_byte.calls (outs.length + 1) (fun k => v.ownBlock = some k) v outs outs.reverse w W hB (Kd.R_of_own hown (fun k hk => ?_)) (rev_f outs (by omega))).mono ?_
      · exact hk
      · rintro e W' ⟨h1, h2, h3, h4⟩
        exact ⟨h1, Kd.R_mono h2 (fun _ _ => trivial), h3, h4⟩
  · rw [if_neg hb] at h
    cases h
end Go.Proofs.YtogfokpmpdclbaaDoor.PZ
