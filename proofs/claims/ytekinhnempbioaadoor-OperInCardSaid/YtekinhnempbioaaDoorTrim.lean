/- oper.bare and oper.full, with bytes.TrimLeft and bytes.TrimRight at the cutset of one nought: what they answer; they only read.
   Conditions: none. -/
import Derived.Test.YtekinhnempbioaaDoorPZx0
import Derived.Test.YtekinhnempbioaaDoorNum
namespace Go.Proofs.YtekinhnempbioaaDoor.PZ
open Go.RowKit Go.Proofs.YtekinhnempbioaaDoorW.PrintWords Go.Proofs.YtekinhnempbioaaDoorW.PrintLast
/-- Figures without noughts ahead. -/
def bareL (l : List Int) : List Int := l.dropWhile fun d => decide (d = 0)
theorem bareL_nil : bareL [] = [] := rfl
theorem bareL_zero (l : List Int) : bareL (0 :: l) = bareL l := rfl
theorem bareL_other {d : Int} (l : List Int) (h : d ≠ 0) : bareL (d :: l) = d :: l := by unfold bareL; rw [List.dropWhile_cons_of_neg (by simpa using h)]
/-- How long figures are without noughts at their end. -/
def fullN (l : List Int) : Nat := (l.reverse.dropWhile fun d => decide (d = 0)).length
theorem fullN_nil : fullN [] = 0 := rfl
theorem fullN_zero (l : List Int) : fullN (l ++ [0]) = fullN l := by unfold fullN; rw [List.reverse_append]; rfl
theorem fullN_other (l : List Int) {d : Int} (h : d ≠ 0) : fullN (l ++ [d]) = l.length + 1 := by
  unfold fullN
  rw [List.reverse_append]
  simp [h]
theorem fullN_le (l : List Int) : fullN l ≤ l.length := by
  unfold fullN
  have := (List.dropWhile_sublist (fun d : Int => decide (d = 0)) (l := l.reverse)).length_le
  simpa using this
theorem eq_snoc' {α : Type} (l : List α) (h : 0 < l.length) : ∃ a x, l = a ++ [x] := ⟨l.dropLast, l.getLast (List.length_pos_iff.1 h), (List.dropLast_concat_getLast _).symm⟩
theorem fullN_last (l : List Int) (h : 0 < l.length) : (rd l ((l.length : Int) - 1) = 0 → fullN l = fullN (l.take (l.length - 1))) ∧ (rd l ((l.length : Int) - 1) ≠ 0 → fullN l = l.length) := by
  obtain ⟨a, d, rfl⟩ := eq_snoc' l h
  have e1 : (((a ++ [d]).length : Nat) : Int) - 1 = ((a.length : Nat) : Int) := by simp
  have e2 : rd (a ++ [d]) ((a.length : Nat) : Int) = d := by rw [rd_append_right _ _ _ (Nat.le_refl _), Nat.sub_self]; rfl
  have e3 : (a ++ [d]).take ((a ++ [d]).length - 1) = a := by simp
  rw [e1, e2, e3]
  exact ⟨fun hd => by rw [hd, fullN_zero], fun hd => by rw [fullN_other a hd]; simp⟩
/-- What trimLeftByte hands back, as a value. -/
def trimV : Option Addr → Nat → List Int → Value
  | _, _, [] => .slice none 0 0
  | A, c, d :: l => if d = 0 then trimV (if c = 1 then A else A.map (·.add (1 * 1))) (c - 1) l else .slice A (l.length + 1) c
theorem trimV_V (w : World) (b : Nat) (P0 : Nat → Prop) (l : List Int) : ∀ (A : Option Addr) (c : Nat), l.length ≤ c → Kd.F (Kd.int .u8) w P0 A l.length l → Kd.V (Kd.int .u8) 5 w b P0 (trimV A c l) (bareL l) := by
  induction l with
  | nil => intro A c _ _; exact Kd.V_nil _ _ _ _ _
  | cons d l ih =>
    intro A c hc hF
    by_cases hd : d = 0
    · subst hd
      have hr := Kd.F_cut (d := Kd.int .u8) (W := w) (ok := P0) (A := A) (xs := 0 :: l) (m := 1) (c := c) hF (by simp) hc
      have e : trimV A c (0 :: l) = trimV (if c = 1 then A else A.map (·.add (1 * 1))) (c - 1) l := rfl
      rw [e, bareL_zero]
      refine ih _ _ ?_ hr
      rw [List.length_cons] at hc; omega
    · have e : trimV A c (d :: l) = .slice A (d :: l).length c := by unfold trimV; rw [if_neg hd]; rfl
      rw [e, bareL_other l hd]
      exact Kd.V_mk hc hF
theorem trimByteInfo : (Tryd.prog.info? 5).map (fun i => (i.zero, i.size, i.bytes)) = some (some (.int .u8 0), 1, 1) := by kernel_rfl
set_option maxHeartbeats 1000000 in
theorem trimLeftByte_calls (P0 : Nat → Prop) (A0 : Option Addr) (c0 : Nat) (l0 : List Int) (w : World) (hs0 : Kd.V (Kd.int .u8) 5 w w.heap.size P0 (.slice A0 l0.length c0) l0) :
    Calls Tryd.prog 48 #[.slice A0 l0.length c0, .int .u8 0] w fun e w' => e = .returned (trimV A0 c0 l0) ∧ ∃ q, w' = w.drewN q := by
  obtain ⟨_, hc0, hF0⟩ := Kd.V_at hs0
  have HF0 := Aside0.mk hF0
  have HC0 := Aside0.mk hc0
  clear hs0 hF0 hc0
  have hl : l0.length ≤ 9223372036854775807 := Kd.C_max (Kd.F_now HF0.out)
  obtain ⟨i0, hi0, _, hsz, _⟩ := info_parts trimByteInfo
  have HI := Aside0.mk hi0
  have HSZ := Aside0.mk hsz
  clear hi0 hsz
  go_enter Tryd.func48, Tryd.ntmps48
  go_wp2
  go_loopg [0] l0.length (fun gg s0 wr => ∃ (A : Option Addr) (n c : Nat) (y : List Int) (q : Nat), s0 = .slice A n c ∧ n ≤ gg ∧ n ≤ l0.length ∧ wr = w.drewN q ∧ Aside0 (n ≤ c) ∧ Aside0 (y.length = n) ∧ Aside0 (trimV A c y = trimV A0 c0 l0) ∧ Aside0 (Kd.F (Kd.int .u8) w P0 A n y))
  case atStart => exact ⟨A0, l0.length, c0, l0, 0, rfl, Nat.le_refl _, Nat.le_refl _, rfl, HC0, ⟨rfl⟩, ⟨rfl⟩, HF0⟩
  case round =>
    obtain ⟨A, n, c, y, q, rfl, hg, hn, rfl, HC, HL, HB, HF⟩ := hrel
    by_cases hpos : 0 < n
    · obtain ⟨ad, e1, hcell⟩ := Kd.at_int (Kd.F_now HF.out) 0 (by omega) (by omega)
      cases e1
      rw [show ((0 : Int)).toNat = 0 from rfl, Addr.add_zero'] at hcell
      have hd1 : decide (0 < n) = true := decide_eq_true hpos
      have hd2 : decide (0 < (n : Int)) = true := decide_eq_true (by omega)
      have hd3 : ((n : Int) == 0) = false := by rw [beq_eq_false_iff_ne]; omega
      have hd4 : (0 < n) = True := eq_true hpos
      have Y : Aside0 (y = rd y 0 :: y.drop 1) := ⟨by have := drop_cons y 0 (by rw [HL.out]; exact hpos); simpa using this⟩
      by_cases hz : rd y 0 = 0
      · rw [hz] at hcell
        have Z := Aside0.mk hz
        clear hz
        have hcut := cut_from (P := Tryd.prog) 22 5 .i64 Tryd.underlying22 HI.out 1 HSZ.out (some ad) n c 1 (by omega) (by omega)
        rw [show ((1 : Int)).toNat = 1 from rfl] at hcut
        have hr := Kd.F_cut (d := Kd.int .u8) (W := w) (ok := P0) (A := some ad) (xs := y) (m := 1) (c := c) (by rw [HL.out]; exact HF.out) (by rw [HL.out]; exact hpos) (by rw [HL.out]; exact HC.out)
        obtain ⟨A1, hA1⟩ : ∃ A1, A1 = (if c = 1 then (some ad) else ((some ad) : Option Addr).map (·.add (1 * 1))) := ⟨_, rfl⟩
        rw [← hA1] at hcut
        replace hr : Kd.F (Kd.int .u8) w P0 A1 (y.drop 1).length (y.drop 1) := by rw [hA1]; exact hr
        have HR := Aside0.mk hr
        have A1E := Aside0.mk hA1
        clear hr hA1
        go_wp2
        go_roundg (n - 1)
        case measure => omega
        case rel =>
          refine ⟨A1, n - 1, c - 1, y.drop 1, _, rfl, Nat.le_refl _, by omega, rfl, ⟨Nat.sub_le_sub_right HC.out 1⟩, ⟨by rw [List.length_drop, HL.out]⟩, ⟨?_⟩, ⟨?_⟩⟩
          · rw [← HB.out, Y.out, Z.out, A1E.out]; rfl
          · have := HR.out; rwa [List.length_drop, HL.out] at this
      · have he : (rd y 0 == 0) = false := by simpa using hz
        have Z := Aside0.mk hz
        clear hz
        generalize hv : rd y 0 = v at hcell he
        have VV := Aside0.mk hv
        clear hv
        go_wp2
        go_ret
        refine ⟨?_, q, rfl⟩
        have hl1 : (y.drop 1).length + 1 = n := by rw [List.length_drop, HL.out]; omega
        rw [← HB.out, Y.out]
        unfold trimV
        rw [if_neg Z.out, hl1]
        rfl
    · have : n = 0 := by omega
      subst this
      go_wp2
      go_ret
      refine ⟨?_, q, rfl⟩
      rw [← HB.out, List.eq_nil_of_length_eq_zero HL.out]
      rfl
set_option maxHeartbeats 1000000 in
set_option maxRecDepth 100000 in
theorem trimLeft_calls (P0 : Nat → Prop) (A0 : Option Addr) (c0 : Nat) (l0 : List Int) (w : World) (hs0 : Kd.V (Kd.int .u8) 5 w w.heap.size P0 (.slice A0 l0.length c0) l0) :
    Calls Tryd.prog 43 #[.slice A0 l0.length c0, .string ⟨#[0]⟩] w fun e w' => e = .returned (trimV A0 c0 l0) ∧ ∃ q, w' = w.drewN q := by
  have hc := Aside0.mk (trimLeftByte_calls P0 A0 c0 l0 w hs0)
  clear hs0
  by_cases h0 : l0.length = 0
  · have : l0 = [] := List.eq_nil_of_length_eq_zero h0
    subst this
    clear hc h0
    go_enter Tryd.func43, Tryd.ntmps43
    go_wp2
    go_ret
    exact ⟨rfl, 0, rfl⟩
  · have hd3 : ((l0.length : Int) == 0) = false := by rw [beq_eq_false_iff_ne]; omega
    clear h0
    generalize trimV A0 c0 l0 = vv at hc ⊢
    generalize l0.length = n at hc hd3 ⊢
    go_enter Tryd.func43, Tryd.ntmps43
    go_wp2_with (go_at_call 48; refine hc.out.mono ?_; rintro e w1 ⟨rfl, q, rfl⟩)
    go_ret
    exact ⟨rfl, q, rfl⟩
def oper_bare.f (l : List Int) : Option (List Int) := some (bareL l)
set_option maxHeartbeats 1000000 in
/-- bare, told as a call that only reads. -/
theorem bare_quiet (P0 : Nat → Prop) (A0 : Option Addr) (c0 : Nat) (l0 : List Int) (w : World) (hs0 : Kd.V (Kd.int .u8) 5 w w.heap.size P0 (.slice A0 l0.length c0) l0) :
    Calls Tryd.prog 26 #[.slice A0 l0.length c0] w fun e w' => e = .returned (trimV A0 c0 l0) ∧ ∃ q, w' = w.drewN q := by
  have hc := Aside0.mk (trimLeft_calls P0 A0 c0 l0 w hs0)
  clear hs0
  generalize trimV A0 c0 l0 = vv at hc ⊢
  go_enter Tryd.func26, Tryd.ntmps26
  go_wp2_with (go_at_call 43; refine hc.out.mono ?_; rintro e w1 ⟨rfl, q, rfl⟩)
  go_ret
  exact ⟨rfl, q, rfl⟩
theorem oper_bare.calls (P0_ : Nat → Prop) (A0 : Option Addr) (c0 : Nat) (l0 : List Int) (r : List Int) (w : World) (hs0 : Kd.V (Kd.int .u8) 5 w w.heap.size (fun k_ => P0_ k_) (.slice A0 l0.length c0) l0) (h : oper_bare.f l0 = some r) :
    Calls Tryd.prog 26 #[.slice A0 l0.length c0] w fun e w' => ∃ v0_ : Value, e = .returned (v0_) ∧ Kd.V (Kd.int .u8) 5 w' w.heap.size (fun k_ => (P0_ k_ ∨ w.heap.size ≤ k_)) v0_ r ∧ Below w.heap.size w w' := by
  obtain rfl := Option.some.inj h
  refine (bare_quiet P0_ A0 c0 l0 w hs0).mono ?_
  rintro e w' ⟨rfl, q, rfl⟩
  obtain ⟨_, hc, hF⟩ := Kd.V_at hs0
  exact ⟨_, rfl, Kd.V_mono (Kd.V_drewN (trimV_V w _ P0_ l0 A0 c0 hc hF) q) (fun _ hk => .inl hk), pw_below_drewN (Below.refl _ _) q⟩
/-! the other end -/
set_option maxHeartbeats 1000000 in
theorem trimRightByte_calls (A0 : Option Addr) (c0 : Nat) (l0 : List Int) (w : World) (hr0 : Kd.C (Kd.int .u8) w A0 l0.length l0) (hc0 : l0.length ≤ c0) :
    Calls Tryd.prog 54 #[.slice A0 l0.length c0, .int .u8 0] w fun e w' => e = .returned (.slice A0 (fullN l0) c0) ∧ ∃ q, w' = w.drewN q := by
  have HF0 := Aside0.mk hr0
  have HC0 := Aside0.mk hc0
  have hl : l0.length ≤ 9223372036854775807 := Kd.C_max hr0
  clear hr0 hc0
  obtain ⟨i0, hi0, _, hsz, _⟩ := info_parts trimByteInfo
  have HI := Aside0.mk hi0
  clear hi0 hsz
  go_enter Tryd.func54, Tryd.ntmps54
  go_wp2
  go_loopg [0] l0.length (fun gg s0 wr => ∃ (n q : Nat), s0 = .slice A0 n c0 ∧ n ≤ gg ∧ n ≤ l0.length ∧ wr = w.drewN q ∧ Aside0 (fullN (l0.take n) = fullN l0))
  case atStart => exact ⟨l0.length, 0, rfl, Nat.le_refl _, Nat.le_refl _, rfl, ⟨by rw [List.take_length]⟩⟩
  case round =>
    obtain ⟨n, q, rfl, hg, hn, rfl, HB⟩ := hrel
    by_cases hpos : 0 < n
    · obtain ⟨ad, e1, hcell⟩ := Kd.at_int HF0.out ((n : Int) - 1) (by omega) (by omega)
      cases e1
      have HT : Aside0 (((n : Int) - 1).toNat = n - 1) := ⟨by omega⟩
      rw [HT.out] at hcell
      have hd1 : decide (0 < n) = true := decide_eq_true hpos
      have hd2 : decide (0 < (n : Int)) = true := decide_eq_true (by omega)
      have L := Aside0.mk (fullN_last (l0.take n) (by rw [List.length_take]; omega))
      have E : Aside0 ((l0.take n).length = n) := ⟨by rw [List.length_take]; omega⟩
      have R : Aside0 (rd (l0.take n) ((n : Int) - 1) = rd l0 ((n : Int) - 1)) := ⟨by
        have e : (n : Int) - 1 = ((n - 1 : Nat) : Int) := by omega
        rw [e]
        have := rd_append_left (l0.take n) (l0.drop n) (n - 1) (by rw [List.length_take]; omega)
        rw [List.take_append_drop] at this
        exact this.symm⟩
      by_cases hz : rd l0 ((n : Int) - 1) = 0
      · rw [hz] at hcell
        have Z := Aside0.mk hz
        clear hz
        have hcut := cut_to (P := Tryd.prog) 22 5 .i64 Tryd.underlying22 HI.out (some ad) n c0 ((n : Int) - 1) (by omega) (by omega) (Nat.le_trans hn HC0.out)
        rw [HT.out] at hcut
        go_wp2
        go_roundg (n - 1)
        case measure => omega
        case rel =>
          refine ⟨n - 1, _, rfl, Nat.le_refl _, by omega, rfl, ⟨?_⟩⟩
          have h1 := L.out.1 (by rw [E.out, R.out]; exact Z.out)
          rw [E.out, List.take_take, Nat.min_eq_left (by omega)] at h1
          rw [← HB.out, h1]
      · have he : (rd l0 ((n : Int) - 1) == 0) = false := by simpa using hz
        have Z := Aside0.mk hz
        clear hz
        generalize hv : rd l0 ((n : Int) - 1) = v at hcell he
        have VV := Aside0.mk hv
        clear hv
        go_wp2
        go_ret
        have h1 := L.out.2 (by rw [E.out, R.out]; exact Z.out)
        rw [E.out, HB.out] at h1
        exact ⟨by rw [h1]; rfl, q, rfl⟩
    · have : n = 0 := by omega
      subst this
      go_wp2
      go_ret
      have h1 := HB.out
      rw [List.take_zero, fullN_nil] at h1
      exact ⟨by rw [← h1]; rfl, q, rfl⟩
set_option maxHeartbeats 1000000 in
set_option maxRecDepth 100000 in
theorem trimRight_calls (A0 : Option Addr) (c0 : Nat) (l0 : List Int) (w : World) (hr0 : Kd.C (Kd.int .u8) w A0 l0.length l0) (hc0 : l0.length ≤ c0) :
    Calls Tryd.prog 46 #[.slice A0 l0.length c0, .string ⟨#[0]⟩] w fun e w' => e = .returned (.slice A0 (fullN l0) c0) ∧ ∃ q, w' = w.drewN q := by
  have hc := Aside0.mk (trimRightByte_calls A0 c0 l0 w hr0 hc0)
  clear hr0 hc0
  by_cases h0 : l0.length = 0
  · have : l0 = [] := List.eq_nil_of_length_eq_zero h0
    subst this
    clear hc h0
    go_enter Tryd.func46, Tryd.ntmps46
    go_wp2
    go_ret
    exact ⟨rfl, 0, rfl⟩
  · have hd3 : ((l0.length : Int) == 0) = false := by rw [beq_eq_false_iff_ne]; omega
    clear h0
    generalize l0.length = n at hc hd3 ⊢
    go_enter Tryd.func46, Tryd.ntmps46
    go_wp2_with (go_at_call 54; refine hc.out.mono ?_; rintro e w1 ⟨rfl, q, rfl⟩)
    go_ret
    exact ⟨rfl, q, rfl⟩
def oper_full.f (l : List Int) : Option Int := some (fullN l : Int)
set_option maxHeartbeats 1000000 in
theorem oper_full_quiet (A0 : Option Addr) (c0 : Nat) (l0 : List Int) (r : Int) (w : World) (hr0 : Kd.C (Kd.int .u8) w A0 l0.length l0) (hc0 : l0.length ≤ c0) (h : oper_full.f l0 = some r) :
    Calls Tryd.prog 31 #[.slice A0 l0.length c0] w fun e w' => e = .returned (.int .i64 r) ∧ Drawn0 w w' := by
  obtain rfl := Option.some.inj h
  have hc := Aside0.mk (trimRight_calls A0 c0 l0 w hr0 hc0)
  clear hr0 hc0 h
  go_enter Tryd.func31, Tryd.ntmps31
  go_wp2_with (go_at_call 46; refine hc.out.mono ?_; rintro e w1 ⟨rfl, q, rfl⟩)
  go_ret
  exact ⟨rfl, ⟨q, rfl⟩⟩
theorem oper_full.calls (A0 : Option Addr) (c0 : Nat) (l0 : List Int) (r : Int) (w : World) (hr0 : Kd.C (Kd.int .u8) w A0 l0.length l0) (hc0 : l0.length ≤ c0) (h : oper_full.f l0 = some r) :
    Calls Tryd.prog 31 #[.slice A0 l0.length c0] w fun e w' => e = .returned (.int .i64 r) ∧ Below w.heap.size w w' :=
  (oper_full_quiet A0 c0 l0 r w hr0 hc0 h).mono fun _ _ h => ⟨h.1, h.2.below⟩
end Go.Proofs.YtekinhnempbioaaDoor.PZ
