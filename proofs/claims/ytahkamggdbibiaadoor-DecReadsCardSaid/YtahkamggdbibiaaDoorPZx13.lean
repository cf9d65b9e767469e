-- made by wip/xprint.py (a program of this session over the kit's print.py). Not trusted: Lean checks it.
import Derived.Test.YtahkamggdbibiaaDoorPZx0
import Derived.Test.YtahkamggdbibiaaDoorPZx12
namespace Go.Proofs.YtahkamggdbibiaaDoor.PZ
open Go.RowKit Go.Proofs.YtahkamggdbibiaaDoorW.PrintWords Go.Proofs.YtahkamggdbibiaaDoorW.PrintLast Go.Proofs.YtahkamggdbibiaaDoorW.PrintMore
attribute [local go_sem] max2_int min2_int max_two min_two max_three min_three max_four min_four   -- for this text's walks alone
set_option linter.unusedVariables false
set_option linter.unusedSimpArgs false

/-! ### exergueref05_Text: function 16 -/
mutual
def exergueref05_Text.j0 : Nat → ByteArray → Bool → List Int → Int → Option (ByteArray)
  | 0, _, _, _, _ => none
  | k + 1, x3, x184000, x184001, x184002 => exergueref05_Text.l0 k x3 0 x184000 x184001 x184002
def exergueref05_Text.l0 : Nat → ByteArray → Int → Bool → List Int → Int → Option (ByteArray)
  | 0, _, _, _, _, _ => none
  | k + 1, x3, x4, x184000, x184001, x184002 => if x4 < (x184001.length : Int) then (if 0 ≤ x4 then ((some (([(48 + (rd x184001 x4)) % 256] : List Int) : List Int)).bind fun y185 => (if x3.size + (strOfNums y185).size ≤ 9223372036854775807 then (exergueref05_Text.l0 k (x3 ++ (strOfNums y185)) (wrap64 (x4 + 1)) x184000 x184001 x184002) else (none))) else (none)) else (if (x184001.length : Int) = 0 then (if x3.size + 1 ≤ 9223372036854775807 then (if (x3 ++ (⟨#[48]⟩ : ByteArray)).size + 1 ≤ 9223372036854775807 then ((exergueref05_Number.f k x184002).bind fun t188 => (if ((x3 ++ (⟨#[48]⟩ : ByteArray)) ++ (⟨#[101]⟩ : ByteArray)).size + t188.size ≤ 9223372036854775807 then (some (((x3 ++ (⟨#[48]⟩ : ByteArray)) ++ (⟨#[101]⟩ : ByteArray)) ++ t188)) else (none))) else (none)) else (none)) else (if x3.size + 1 ≤ 9223372036854775807 then ((exergueref05_Number.f k x184002).bind fun t189 => (if (x3 ++ (⟨#[101]⟩ : ByteArray)).size + t189.size ≤ 9223372036854775807 then (some ((x3 ++ (⟨#[101]⟩ : ByteArray)) ++ t189)) else (none))) else (none)))
end
def exergueref05_Text.f (k : Nat) (a0_0 : Bool) (l0_1 : List Int) (a0_2 : Int) : Option (ByteArray) := if a0_0 = true then (exergueref05_Text.j0 k (⟨#[45]⟩ : ByteArray) a0_0 l0_1 a0_2) else (exergueref05_Text.j0 k (⟨#[]⟩ : ByteArray) a0_0 l0_1 a0_2)
theorem exergueref05_Text.mono_l : ∀ k, (∀ y0 y1 y2 y3, LeO (exergueref05_Text.j0 k y0 y1 y2 y3) (exergueref05_Text.j0 (k + 1) y0 y1 y2 y3)) ∧ (∀ y0 y1 y2 y3 y4, LeO (exergueref05_Text.l0 k y0 y1 y2 y3 y4) (exergueref05_Text.l0 (k + 1) y0 y1 y2 y3 y4))
  | 0 => ⟨fun _ _ _ _ r h => by simp [exergueref05_Text.j0] at h, fun _ _ _ _ _ r h => by simp [exergueref05_Text.l0] at h⟩
  | k + 1 => by
    obtain ⟨ih0, ih1⟩ := exergueref05_Text.mono_l k
    refine ⟨?_, ?_⟩
    · intro y0 y1 y2 y3
      unfold exergueref05_Text.j0
      repeat' first
      | (with_reducible exact ih0 _ _ _ _)
      | (with_reducible exact ih1 _ _ _ _ _)
      | (with_reducible exact exergueref05_Number.mono _ _)
      | (with_reducible exact LeO.refl _)
      | (with_reducible exact LeO.none _)
      | (with_reducible refine LeO.ite ?_ ?_)
      | (with_reducible refine LeO.bind ?_ (fun _ => ?_))
      | exact ih0 _ _ _ _
      | exact ih1 _ _ _ _ _
      | exact exergueref05_Number.mono _ _
      | exact LeO.none _
      | refine LeO.ite ?_ ?_
      | refine LeO.bind ?_ (fun _ => ?_)
    · intro y0 y1 y2 y3 y4
      unfold exergueref05_Text.l0
      repeat' first
      | (with_reducible exact ih0 _ _ _ _)
      | (with_reducible exact ih1 _ _ _ _ _)
      | (with_reducible exact exergueref05_Number.mono _ _)
      | (with_reducible exact LeO.refl _)
      | (with_reducible exact LeO.none _)
      | (with_reducible refine LeO.ite ?_ ?_)
      | (with_reducible refine LeO.bind ?_ (fun _ => ?_))
      | exact ih0 _ _ _ _
      | exact ih1 _ _ _ _ _
      | exact exergueref05_Number.mono _ _
      | exact LeO.none _
      | refine LeO.ite ?_ ?_
      | refine LeO.bind ?_ (fun _ => ?_)
theorem exergueref05_Text.mono : ∀ a0 a1 a2 k, LeO (exergueref05_Text.f k a0 a1 a2) (exergueref05_Text.f (k + 1) a0 a1 a2) := by
  intro a0 a1 a2 k
  obtain ⟨ih0, ih1⟩ := exergueref05_Text.mono_l k
  unfold exergueref05_Text.f
  repeat' first
      | (with_reducible exact ih0 _ _ _ _)
      | (with_reducible exact ih1 _ _ _ _ _)
      | (with_reducible exact exergueref05_Number.mono _ _)
      | (with_reducible exact LeO.refl _)
      | (with_reducible exact LeO.none _)
      | (with_reducible refine LeO.ite ?_ ?_)
      | (with_reducible refine LeO.bind ?_ (fun _ => ?_))
      | exact ih0 _ _ _ _
      | exact ih1 _ _ _ _ _
      | exact exergueref05_Number.mono _ _
      | exact LeO.none _
      | refine LeO.ite ?_ ?_
      | refine LeO.bind ?_ (fun _ => ?_)
set_option maxHeartbeats 8000000 in
set_option maxRecDepth 100000 in
theorem exergueref05_Text.calls (k : Nat) (a0_0 : Bool) (A0_1 : Option Addr) (c0_1 : Nat) (l0_1 : List Int) (a0_2 : Int) (r : ByteArray) (w : World) (hr0_1 : Kd.C (Kd.int .u8) w A0_1 l0_1.length l0_1) (hc0_1 : l0_1.length ≤ c0_1) (h : exergueref05_Text.f k a0_0 l0_1 a0_2 = some r) :
    Calls Tryd.prog 16 #[.agg #[.bool a0_0, .slice A0_1 l0_1.length c0_1, .int .i64 a0_2]] w fun e w' => e = .returned (.string r) ∧ Below w.heap.size w w' := by
  have hu24 := Tryd.underlying24
  have HR0_1 := Aside0.mk hr0_1
  have HC0_1 := Aside0.mk hc0_1
  clear hr0_1 hc0_1
  have HB := Aside0.mk (Below.refl w.heap.size w)
  have H : (if a0_0 = true then (exergueref05_Text.j0 k (⟨#[45]⟩ : ByteArray) a0_0 l0_1 a0_2) else (exergueref05_Text.j0 k (⟨#[]⟩ : ByteArray) a0_0 l0_1 a0_2)) = some r := h
  clear h
  have HC2 := Aside0.mk H
  clear H
  go_enter Tryd.func16, Tryd.ntmps16
  go_upto_if 6 with (first | ((with_reducible refine gate_dst (N := 1) rfl ?_); refine box_event ?hg (N := 1) ?hd (cs := #[.bool a0_0, .slice A0_1 l0_1.length c0_1, .int .i64 a0_2]) (t := 24) ?hr ?_; (case hd => rfl); (case hg => rfl); (case hr => first | (go_simp; done) | (go_simp; rfl)); intro gb183 hg w3 hbox hb; have n0_ := Aside0.mk (below_step (by repeat (first | (with_reducible first | exact HB.out | apply below_alloc | apply pw_below_drewN | apply below_drew1) | exact HB.out)) hb); have n1_ := Aside0.mk (hbox); have n2_ := Aside0.mk ((by rw [hg]; exact (below_size (by repeat (first | (with_reducible first | exact HB.out | apply below_alloc | apply pw_below_drewN | apply below_drew1) | exact HB.out))) : w.heap.size ≤ gb183)); have n3_ := Aside0.mk ((by rw [hg]; exact (below_size (by repeat (first | (with_reducible first | exact HB.out | apply below_alloc | apply pw_below_drewN | apply below_drew1) | exact HB.out))) : w.heap.size ≤ gb183)); clear HB; have HB := n0_; have BK183 := n1_; have GW183 := n2_; have GE183 := n3_; clear n0_ n1_ n2_ n3_; clear hb hbox hg; have hcz4_0 : w3.cell? ⟨gb183, 0, none⟩ = some (.bool a0_0) := (blk_cell BK183.out 0).trans rfl; have hcz4_1 : w3.cell? ⟨gb183, 1, none⟩ = some (.slice A0_1 l0_1.length c0_1) := (blk_cell BK183.out 1).trans rfl; have hcz4_2 : w3.cell? ⟨gb183, 2, none⟩ = some (.int .i64 a0_2) := (blk_cell BK183.out 2).trans rfl; have hfz4_0 := blk_frozen BK183.out 0; have hfz4_1 := blk_frozen BK183.out 1; have hfz4_2 := blk_frozen BK183.out 2))
  (try simp only [Act.put, List.setIfInBounds_toArray, List.set_cons_zero, List.set_cons_succ])
  go_cut [3] (fun v3 wc => ∃ (kq : Nat) (x3_1 : ByteArray), v3 = .string x3_1 ∧ Aside0 (exergueref05_Text.j0 kq x3_1 a0_0 l0_1 a0_2 = some r) ∧ Aside0 (kq ≤ k) ∧ Aside0 (wc.heap[gb183]? = some (.cells #[.bool a0_0, (.slice A0_1 l0_1.length c0_1), .int .i64 a0_2] 24 (0, 0))) ∧ Aside0 (Below w.heap.size w wc))
  case first =>
    have H := HC2.out
    clear HC2
    by_cases c5 : a0_0 = true
    · subst c5
      have H1 : (exergueref05_Text.j0 k (⟨#[45]⟩ : ByteArray) true l0_1 a0_2) = some r := by rw [if_pos rfl] at H; exact H
      clear H
      have H := H1
      clear H1
      have H' := Aside0.mk H
      clear H
      go_wp2
      go_meet
      case rel => exact ⟨_, ((⟨#[45]⟩ : ByteArray)), (by first | rfl | (simp; done) | (simp [*]; done)), H', ⟨by first | omega | exact Nat.le_refl _⟩, ⟨by (with_reducible repeat (first | refine blk_drewN ?_ _ | refine blk_drew ?_ | refine blk_alloc ?_ _)); exact BK183.out⟩, ⟨by repeat (first | (with_reducible first | exact HB.out | apply below_alloc | apply pw_below_drewN | apply below_drew1 | refine below_set ?_ GE183.out) | exact HB.out)⟩⟩
    · replace c5 := Bool.eq_false_iff.mpr c5
      subst c5
      have H1 : (exergueref05_Text.j0 k (⟨#[]⟩ : ByteArray) false l0_1 a0_2) = some r := by rw [if_neg (show ¬ (false = true) by decide)] at H; exact H
      clear H
      have H := H1
      clear H1
      have H' := Aside0.mk H
      clear H
      go_wp2
      go_meet
      case rel => exact ⟨_, ((⟨#[]⟩ : ByteArray)), (by first | rfl | (simp; done) | (simp [*]; done)), H', ⟨by first | omega | exact Nat.le_refl _⟩, ⟨by (with_reducible repeat (first | refine blk_drewN ?_ _ | refine blk_drew ?_ | refine blk_alloc ?_ _)); exact BK183.out⟩, ⟨by repeat (first | (with_reducible first | exact HB.out | apply below_alloc | apply pw_below_drewN | apply below_drew1 | refine below_set ?_ GE183.out) | exact HB.out)⟩⟩
  case rest =>
    clear HC2
    try clear c1
    try clear p2
    try clear c5
    try clear hcz4_0
    try clear hcz4_1
    try clear hcz4_2
    try clear hfz4_0
    try clear hfz4_1
    try clear hfz4_2
    obtain ⟨kq, x3_1, rfl, HA, HJ1, BK183, HB⟩ := hcut
    cases kq with
    | zero => exact absurd HA.out (by simp [exergueref05_Text.j0])
    | succ kj1 =>
      have H := HA.out
      clear HA
      simp only [exergueref05_Text.j0] at H
      have H' := Aside0.mk H
      clear H
      go_wp2
      go_loopg [3, 4] kj1 (fun kq v3 v4 w' => ∃ (x3_2 : ByteArray) (x4_2 : Int), v3 = .string x3_2 ∧ v4 = .int .i64 x4_2 ∧ Aside0 (exergueref05_Text.l0 kq x3_2 x4_2 a0_0 l0_1 a0_2 = some r) ∧ Aside0 (kq ≤ kj1) ∧ Aside0 (w'.heap[gb183]? = some (.cells #[.bool a0_0, (.slice A0_1 l0_1.length c0_1), .int .i64 a0_2] 24 (0, 0))) ∧ Aside0 (Below w.heap.size w w'))
      case atStart => exact ⟨(x3_1), (0), (by first | rfl | (simp; done) | (simp [*]; done)), (by first | rfl | (simp; done) | (simp [*]; done)), H', ⟨Nat.le_refl _⟩, ⟨by (with_reducible repeat (first | refine blk_drewN ?_ _ | refine blk_drew ?_ | refine blk_alloc ?_ _)); exact BK183.out⟩, ⟨by repeat (first | (with_reducible first | exact HB.out | apply below_alloc | apply pw_below_drewN | apply below_drew1 | refine below_set ?_ GE183.out) | exact HB.out)⟩⟩
      case round =>
        clear H'
        try clear c1
        try clear p2
        try clear c5
        try clear hcz4_0
        try clear hcz4_1
        try clear hcz4_2
        try clear hfz4_0
        try clear hfz4_1
        try clear hfz4_2
        try clear p2
        obtain ⟨x3_2, x4_2, rfl, rfl, HA, HK2, BK183, HB⟩ := hrel
        cases gk with
        | zero => exact absurd HA.out (by simp [exergueref05_Text.l0])
        | succ k2 =>
          have H := HA.out
          clear HA
          simp only [exergueref05_Text.l0] at H
          by_cases c6 : x4_2 < (l0_1.length : Int)
          · rw [if_pos c6] at H
            have c6b0 : decide (x4_2 < (l0_1.length : Int)) = true := decide_eq_true c6
            clear c6
            by_cases c7 : 0 ≤ x4_2
            · rw [if_pos c7] at H
              have c7b0 : decide (0 ≤ x4_2) = true := decide_eq_true c7
              clear c7
              obtain ⟨y185, hy185⟩ : ∃ y_ : List Int, y_ = (([(48 + (rd l0_1 x4_2)) % 256] : List Int)) := ⟨_, rfl⟩
              replace H : (if x3_2.size + (strOfNums y185).size ≤ 9223372036854775807 then (exergueref05_Text.l0 k2 (x3_2 ++ (strOfNums y185)) (wrap64 (x4_2 + 1)) a0_0 l0_1 a0_2) else (none)) = some r := by first | (rw [hy185]; with_reducible exact H) | (have H2_ := (Option.bind_some _ _).symm.trans H; rw [hy185]; with_reducible exact H2_) | (have H2_ := (Option.bind_some _ _).symm.trans H; with_reducible exact H2_) | with_reducible exact H | (rw [hy185]; exact H) | exact H
              have Ny185 := Aside0.mk hy185
              clear hy185
              by_cases c8 : x3_2.size + (strOfNums y185).size ≤ 9223372036854775807
              · rw [if_pos c8] at H
                have c8b0 := eq_true c8
                have c8b1 : decide (x3_2.size + (strOfNums y185).size ≤ 9223372036854775807) = true := decide_eq_true c8
                try have c8b2 : (9223372036854775807 < x3_2.size + (strOfNums y185).size) = False := eq_false (Nat.not_lt.2 c8)
                have H' := Aside0.mk H
                clear H
                have hcz9_0 : wr.cell? ⟨gb183, 0, none⟩ = some (.bool a0_0) := (blk_cell BK183.out 0).trans rfl
                have hcz9_1 : wr.cell? ⟨gb183, 1, none⟩ = some (.slice A0_1 l0_1.length c0_1) := (blk_cell BK183.out 1).trans rfl
                have hcz9_2 : wr.cell? ⟨gb183, 2, none⟩ = some (.int .i64 a0_2) := (blk_cell BK183.out 2).trans rfl
                have hfz9_0 := blk_frozen BK183.out 0
                have hfz9_1 := blk_frozen BK183.out 1
                have hfz9_2 := blk_frozen BK183.out 2
                have p184 : 0 ≤ (x4_2 : Int) := of_decide_eq_true (by first | (with_reducible assumption) | assumption)
                have q184 : x4_2 < (l0_1.length : Int) := of_decide_eq_true (by first | (with_reducible assumption) | assumption)
                obtain ⟨ad184, e184, hx184_0⟩ := Kd.at_int HR0_1.out x4_2 p184 q184
                cases e184
                replace hx184_0 := (HB.out.cell (World.block_lt_of_cell? w _ hx184_0)).trans hx184_0
                replace p184 := eq_true p184
                replace q184 := eq_true q184
                go_wp2_with (first | ((with_reducible refine gate_dst (N := 21) rfl ?_); refine Kd.R_lit (Kd.int .u8) _ 5 ?hg (N := 21) ?hd (xs := ([(48 + (rd l0_1 x4_2)) % 256] : List Int)) (inner := [.int .u8 ((48 + (rd l0_1 x4_2)) % 256)]) (ok := fun _ => True) (okp := fun _ => True) ?hr ?hp (fun _ hk => hk) trivial (Below.refl _ _) (Nat.le_refl _) (by simp) ?_; (case hd => rfl); (case hg => rfl); (case hr => first | (go_simp; done) | (go_simp; rfl)); (case hp => exact (Reps.one (show Kd.M (Kd.int .u8) _ _ _ ((48 + (rd l0_1 x4_2)) % 256) [.int .u8 ((48 + (rd l0_1 x4_2)) % 256)] from rfl) (Reps.none _ _))); intro v186 w10 ho11 hb hg_ hnew_; clear hg_ hnew_; (first | rw [← Ny185.out] at ho11 | (simp only [Int.reduceToNat] at ho11; rw [← Ny185.out] at ho11)); have n0_ := Aside0.mk (Kd.R_lower ho11 (below_size (by repeat (first | (with_reducible first | exact HB.out | apply below_alloc | apply pw_below_drewN | apply below_drew1 | refine below_set ?_ GE183.out) | exact HB.out)))); have n1_ := Aside0.mk (blk_below (g := gb183) (o := .cells #[.bool a0_0, .slice (some ad184) l0_1.length c0_1, .int .i64 a0_2] 24 (0, 0)) (by (with_reducible repeat (first | refine blk_drewN ?_ _ | refine blk_drew ?_ | refine blk_alloc ?_ _)); exact BK183.out) hb); have n2_ := Aside0.mk (below_step (by repeat (first | (with_reducible first | exact HB.out | apply below_alloc | apply pw_below_drewN | apply below_drew1 | refine below_set ?_ GE183.out) | exact HB.out)) hb); clear BK183; clear HB; have HO187 := n0_; have BK183 := n1_; have HB := n2_; clear n0_ n1_ n2_; clear hb ho11; have hcv12 := own_string (P := Tryd.prog) Tryd.underlying22 Tryd.underlying5 Tryd.underlying9 (Kd.own_of_R HO187.out)))
                go_roundg k2
                case measure => have := HJ1.out; have := HK2.out; omega
                case rel => exact ⟨(x3_2 ++ (strOfNums y185)), (wrap64 (x4_2 + 1)), (by first | rfl | (simp; done) | (simp [*]; done)), (by first | rfl | (simp; done) | (simp [*]; done)), H', ⟨by have := HJ1.out; have := HK2.out; omega⟩, ⟨by (with_reducible repeat (first | refine blk_drewN ?_ _ | refine blk_drew ?_ | refine blk_alloc ?_ _)); exact BK183.out⟩, ⟨by repeat (first | (with_reducible first | exact HB.out | apply below_alloc | apply pw_below_drewN | apply below_drew1 | refine below_set ?_ GE183.out) | exact HB.out)⟩⟩
              · rw [if_neg c8] at H
                exact absurd H (by simp)
            · rw [if_neg c7] at H
              exact absurd H (by simp)
          · rw [if_neg c6] at H
            have c6b0 : decide (x4_2 < (l0_1.length : Int)) = false := decide_eq_false c6
            clear c6
            by_cases c13 : (l0_1.length : Int) = 0
            · rw [if_pos c13] at H
              have c13b0 : ((l0_1.length : Int) == 0) = true := beq_iff_eq.mpr c13
              have c13b1 : ((l0_1.length : Int) != 0) = false := bne_eq_false_iff_eq.mpr c13
              clear c13
              by_cases c14 : x3_2.size + 1 ≤ 9223372036854775807
              · rw [if_pos c14] at H
                have c14b0 := eq_true c14
                have c14b1 : decide (x3_2.size + 1 ≤ 9223372036854775807) = true := decide_eq_true c14
                try have c14b2 : (9223372036854775807 < x3_2.size + 1) = False := eq_false (Nat.not_lt.2 c14)
                by_cases c15 : (x3_2 ++ (⟨#[48]⟩ : ByteArray)).size + 1 ≤ 9223372036854775807
                · rw [if_pos c15] at H
                  have c15b0 := eq_true c15
                  have c15b1 : decide ((x3_2 ++ (⟨#[48]⟩ : ByteArray)).size + 1 ≤ 9223372036854775807) = true := decide_eq_true c15
                  try have c15b2 : (9223372036854775807 < (x3_2 ++ (⟨#[48]⟩ : ByteArray)).size + 1) = False := eq_false (Nat.not_lt.2 c15)
                  try have c15b5 : (9223372036854775807 < x3_2.size + 1 + 1) = False := eq_false (by have h_ := c15; simp only [ByteArray.size_append, show (⟨#[48]⟩ : ByteArray).size = 1 from rfl] at h_; omega)
                  replace H := Option.bind_eq_some_iff.mp H
                  obtain ⟨t188, A160, H⟩ := H
                  replace H : (if ((x3_2 ++ (⟨#[48]⟩ : ByteArray)) ++ (⟨#[101]⟩ : ByteArray)).size + t188.size ≤ 9223372036854775807 then (some (((x3_2 ++ (⟨#[48]⟩ : ByteArray)) ++ (⟨#[101]⟩ : ByteArray)) ++ t188)) else (none)) = some r := H
                  have A16 := Aside0.mk A160
                  clear A160
                  by_cases c17 : ((x3_2 ++ (⟨#[48]⟩ : ByteArray)) ++ (⟨#[101]⟩ : ByteArray)).size + t188.size ≤ 9223372036854775807
                  · rw [if_pos c17] at H
                    have c17b0 := eq_true c17
                    have c17b1 : decide (((x3_2 ++ (⟨#[48]⟩ : ByteArray)) ++ (⟨#[101]⟩ : ByteArray)).size + t188.size ≤ 9223372036854775807) = true := decide_eq_true c17
                    try have c17b2 : (9223372036854775807 < ((x3_2 ++ (⟨#[48]⟩ : ByteArray)) ++ (⟨#[101]⟩ : ByteArray)).size + t188.size) = False := eq_false (Nat.not_lt.2 c17)
                    try have c17b5 : (9223372036854775807 < x3_2.size + 1 + 1 + t188.size) = False := eq_false (by have h_ := c17; simp only [ByteArray.size_append, show (⟨#[101]⟩ : ByteArray).size = 1 from rfl, show (⟨#[48]⟩ : ByteArray).size = 1 from rfl] at h_; omega)
                    obtain rfl := Option.some.inj H
                    have hcz18_0 : wr.cell? ⟨gb183, 0, none⟩ = some (.bool a0_0) := (blk_cell BK183.out 0).trans rfl
                    have hcz18_1 : wr.cell? ⟨gb183, 1, none⟩ = some (.slice A0_1 l0_1.length c0_1) := (blk_cell BK183.out 1).trans rfl
                    have hcz18_2 : wr.cell? ⟨gb183, 2, none⟩ = some (.int .i64 a0_2) := (blk_cell BK183.out 2).trans rfl
                    have hfz18_0 := blk_frozen BK183.out 0
                    have hfz18_1 := blk_frozen BK183.out 1
                    have hfz18_2 := blk_frozen BK183.out 2
                    go_wp2_with (first | ((with_reducible refine gate_callee (f := 34) rfl ?_); refine goesL_ (some 34) rfl rfl Tryd.func34 (by kernel_rfl) rfl #[.int .i64 a0_2] rfl (by (try simp only [List.map_toArray, List.map_cons, List.map_nil]); first | done | rfl | (simp only [List.length_drop, List.length_take]; rfl)) ?_; (with_reducible refine (exergueref05_Number.calls k2 a0_2 t188 _ A16.out).mono ?_); rintro e w19 ⟨rfl, hb⟩; refine ⟨_, rfl, ?_⟩; have n0_ := Aside0.mk (blk_below (g := gb183) (o := .cells #[.bool a0_0, .slice A0_1 l0_1.length c0_1, .int .i64 a0_2] 24 (0, 0)) (by (with_reducible repeat (first | refine blk_drewN ?_ _ | refine blk_drew ?_ | refine blk_alloc ?_ _)); exact BK183.out) hb); have n1_ := Aside0.mk (below_step (by repeat (first | (with_reducible first | exact HB.out | apply below_alloc | apply pw_below_drewN | apply below_drew1 | refine below_set ?_ GE183.out) | exact HB.out)) hb); clear BK183; clear HB; have BK183 := n0_; have HB := n1_; clear n0_ n1_; (try clear hb); (try clear hb2); (try clear hk); (try clear hi)))
                    go_ret
                    exact ⟨by first | rfl | (simp [errW_none, errW_some] <;> rfl) | (simp [*, errW_none, errW_some] <;> rfl), by repeat (first | (with_reducible first | exact HB.out | apply below_alloc | apply pw_below_drewN | apply below_drew1 | refine below_set ?_ GE183.out) | exact HB.out)⟩
                  · rw [if_neg c17] at H
                    exact absurd H (by simp)
                · rw [if_neg c15] at H
                  exact absurd H (by simp)
              · rw [if_neg c14] at H
                exact absurd H (by simp)
            · rw [if_neg c13] at H
              have c13b0 : ((l0_1.length : Int) == 0) = false := beq_eq_false_iff_ne.mpr c13
              have c13b1 : ((l0_1.length : Int) != 0) = true := bne_iff_ne.mpr c13
              have c13b2 : ¬ (l0_1 = []) := fun h_ => c13 (by rw [h_]; rfl)
              by_cases c20 : x3_2.size + 1 ≤ 9223372036854775807
              · rw [if_pos c20] at H
                have c20b0 := eq_true c20
                have c20b1 : decide (x3_2.size + 1 ≤ 9223372036854775807) = true := decide_eq_true c20
                try have c20b2 : (9223372036854775807 < x3_2.size + 1) = False := eq_false (Nat.not_lt.2 c20)
                replace H := Option.bind_eq_some_iff.mp H
                obtain ⟨t189, A210, H⟩ := H
                replace H : (if (x3_2 ++ (⟨#[101]⟩ : ByteArray)).size + t189.size ≤ 9223372036854775807 then (some ((x3_2 ++ (⟨#[101]⟩ : ByteArray)) ++ t189)) else (none)) = some r := H
                have A21 := Aside0.mk A210
                clear A210
                by_cases c22 : (x3_2 ++ (⟨#[101]⟩ : ByteArray)).size + t189.size ≤ 9223372036854775807
                · rw [if_pos c22] at H
                  have c22b0 := eq_true c22
                  have c22b1 : decide ((x3_2 ++ (⟨#[101]⟩ : ByteArray)).size + t189.size ≤ 9223372036854775807) = true := decide_eq_true c22
                  try have c22b2 : (9223372036854775807 < (x3_2 ++ (⟨#[101]⟩ : ByteArray)).size + t189.size) = False := eq_false (Nat.not_lt.2 c22)
                  try have c22b5 : (9223372036854775807 < x3_2.size + 1 + t189.size) = False := eq_false (by have h_ := c22; simp only [ByteArray.size_append, show (⟨#[101]⟩ : ByteArray).size = 1 from rfl] at h_; omega)
                  obtain rfl := Option.some.inj H
                  have hcz23_0 : wr.cell? ⟨gb183, 0, none⟩ = some (.bool a0_0) := (blk_cell BK183.out 0).trans rfl
                  have hcz23_1 : wr.cell? ⟨gb183, 1, none⟩ = some (.slice A0_1 l0_1.length c0_1) := (blk_cell BK183.out 1).trans rfl
                  have hcz23_2 : wr.cell? ⟨gb183, 2, none⟩ = some (.int .i64 a0_2) := (blk_cell BK183.out 2).trans rfl
                  have hfz23_0 := blk_frozen BK183.out 0
                  have hfz23_1 := blk_frozen BK183.out 1
                  have hfz23_2 := blk_frozen BK183.out 2
                  go_wp2_with (first | ((with_reducible refine gate_callee (f := 34) rfl ?_); refine goesL_ (some 34) rfl rfl Tryd.func34 (by kernel_rfl) rfl #[.int .i64 a0_2] rfl (by (try simp only [List.map_toArray, List.map_cons, List.map_nil]); first | done | rfl | (simp only [List.length_drop, List.length_take]; rfl)) ?_; (with_reducible refine (exergueref05_Number.calls k2 a0_2 t189 _ A21.out).mono ?_); rintro e w24 ⟨rfl, hb⟩; refine ⟨_, rfl, ?_⟩; have n0_ := Aside0.mk (blk_below (g := gb183) (o := .cells #[.bool a0_0, .slice A0_1 l0_1.length c0_1, .int .i64 a0_2] 24 (0, 0)) (by (with_reducible repeat (first | refine blk_drewN ?_ _ | refine blk_drew ?_ | refine blk_alloc ?_ _)); exact BK183.out) hb); have n1_ := Aside0.mk (below_step (by repeat (first | (with_reducible first | exact HB.out | apply below_alloc | apply pw_below_drewN | apply below_drew1 | refine below_set ?_ GE183.out) | exact HB.out)) hb); clear BK183; clear HB; have BK183 := n0_; have HB := n1_; clear n0_ n1_; (try clear hb); (try clear hb2); (try clear hk); (try clear hi)))
                  go_ret
                  exact ⟨by first | rfl | (simp [errW_none, errW_some] <;> rfl) | (simp [*, errW_none, errW_some] <;> rfl), by repeat (first | (with_reducible first | exact HB.out | apply below_alloc | apply pw_below_drewN | apply below_drew1 | refine below_set ?_ GE183.out) | exact HB.out)⟩
                · rw [if_neg c22] at H
                  exact absurd H (by simp)
              · rw [if_neg c20] at H
                exact absurd H (by simp)

end Go.Proofs.YtahkamggdbibiaaDoor.PZ
