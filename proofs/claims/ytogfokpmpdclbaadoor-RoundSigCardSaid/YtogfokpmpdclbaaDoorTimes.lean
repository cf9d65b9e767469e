/- round.times: a row of figures times a number.
   Conditions: none. -/
import Derived.Maps.AppendAt
import Derived.Test.YtogfokpmpdclbaaDoorBackward
set_option linter.unusedSimpArgs false
set_option linter.unusedVariables false
namespace Go.Proofs.YtogfokpmpdclbaaDoor.PZ
open Go.RowKit Go.Shelf Go.Proofs.YtogfokpmpdclbaaDoorW.PrintWords Go.Proofs.YtogfokpmpdclbaaDoorW.PrintLast
attribute [local go_sem] Oper.semAt_some
def timesStep (k : Int) (s : Int × List Int) (c : Int) : Int × List Int :=
  (wrap64 ((wrap64 (s.1 + wrap64 (wrap64 c * k))).tdiv 10), s.2 ++ [(wrap64 (s.1 + wrap64 (wrap64 c * k))).tmod 10 % 256])
def timesS (k : Int) (pre : List (Int × Int)) : Int × List Int := (pre.map Prod.snd).foldl (timesStep k) (0, [])
theorem timesS_snoc (k : Int) (pre : List (Int × Int)) (x : Int × Int) : timesS k (pre ++ [x]) = timesStep k (timesS k pre) x.2 := by simp [timesS]
theorem timesS_len (k : Int) (pre : List (Int × Int)) : (timesS k pre).2.length = pre.length := by
  unfold timesS
  have : ∀ (l : List Int) (s : Int × List Int), (l.foldl (timesStep k) s).2.length = s.2.length + l.length := by
    intro l
    induction l with
    | nil => intro s; simp
    | cons c l ih => intro s; rw [List.foldl_cons, ih]; simp [timesStep]; omega
  rw [this]; simp
/-- A number's figures, the lowest first. -/
def lowD (c : Nat) : List Int := if h : c = 0 then [] else ((c % 10 : Nat) : Int) :: lowD (c / 10)
termination_by c
decreasing_by omega
theorem lowD_zero : lowD 0 = [] := by unfold lowD; simp
theorem lowD_pos {c : Nat} (h : 0 < c) : lowD c = ((c % 10 : Nat) : Int) :: lowD (c / 10) := by
  conv => lhs; unfold lowD
  rw [dif_neg (by omega)]
theorem lowD_len (m c : Nat) (h : c < 10 ^ m) : (lowD c).length ≤ m := by
  induction m generalizing c with
  | zero => have : c = 0 := by simpa using h
            subst this; simp [lowD_zero]
  | succ m ih =>
    by_cases h0 : 0 < c
    · rw [lowD_pos h0, List.length_cons]
      have := ih (c / 10) (by rw [Nat.pow_succ] at h; omega)
      omega
    · have : c = 0 := by omega
      subst this; simp [lowD_zero]
def Parked (p : Prop) : Prop := p
theorem parked {p : Prop} (h : Parked p) : p := h
theorem timesByteInfo : (Tryd.prog.info? 5).map (fun i => (i.zero, i.size, i.bytes)) = some (some (.int .u8 0), 1, 1) := by kernel_rfl
set_option maxRecDepth 100000 in
set_option maxHeartbeats 4000000 in
theorem times_in (F : Fence) (n : Nat) (hf : F.fn 29) (hf1 : F.fn 46) (hf2 : F.fn 55) (hf3 : F.fn 47) (hro : F.round = none) (hn : 3 ≤ n) (A : Option Addr) (cap : Nat) (zs : List Int) (k : Int) (hlen : zs.length ≤ 70368744177664) (hcar : 0 ≤ (timesS k (backK zs zs.length)).1 ∧ (timesS k (backK zs zs.length)).1 < 9223372036854775808) (w : World) (hC : Kd.C (Kd.int .u8) w A zs.length zs)
    (hRev : ∀ (v : Value) (outs : List Int) (W : World), Below w.heap.size w W → W.ownsRow w.heap.size 5 1 v outs.length (outs.map (Value.int .u8)) → outs.length ≤ 70368744177664 + 64 → CallsIn F (n - 1) Tryd.prog 47 #[v] W fun e W' => e = .returned (.tuple #[]) ∧ Kd.R (Kd.int .u8) 5 W' w.heap.size (fun _ => True) v outs.reverse ∧ Below w.heap.size w W' ∧ Kept W W' (fun k_ => v.ownBlock = some k_)) :
    CallsIn F n Tryd.prog 29 #[.slice A zs.length cap, .int .i64 k] w fun e W' => ∃ v0_ : Value, e = .returned v0_ ∧ Kd.R (Kd.int .u8) 5 W' w.heap.size (fun _ => True) v0_ ((timesS k (backK zs zs.length)).2 ++ lowD (timesS k (backK zs zs.length)).1.toNat).reverse ∧ Below w.heap.size w W' := by
  have h1 : 1 ≤ n := by omega
  obtain ⟨i0, hi, hz0, hz1, hz2⟩ := info_parts timesByteInfo
  refine callsIn_of_wp_marks Tryd.func29 rfl hf ?_ hro
  simp only [Tryd.ntmps29, List.size_toArray, List.length_cons, List.length_nil, Nat.reduceAdd, Nat.reduceSub, Array.replicate_succ, Array.replicate_zero, List.push_toArray, List.append_toArray, List.nil_append, List.cons_append]
  gi_wp2_with (gi_at_call 46; refine (backward_in F (n - 1) hf1 hro _ _ _ _).mono ?_; rintro e w' ⟨rfl, rfl⟩)
  have bK := Boxed.new w 3 (.int .i64 k)
  have bO := Boxed.new (w.alloc (.cells #[.int .i64 k] 3)) 22 (.slice none 0 0)
  have bC := Boxed.new ((w.alloc (.cells #[.int .i64 k] 3)).alloc (.cells #[.slice none 0 0] 22)) 3 (.int .i64 0)
  have bS := Boxed.new (((w.alloc (.cells #[.int .i64 k] 3)).alloc (.cells #[.slice none 0 0] 22)).alloc (.cells #[.int .i64 0] 3)) 22 (.slice A zs.length cap)
  have hB0 : Below w.heap.size w ((((w.alloc (.cells #[.int .i64 k] 3)).alloc (.cells #[.slice none 0 0] 22)).alloc (.cells #[.int .i64 0] 3)).alloc (.cells #[.slice A zs.length cap] 22)) := ((((Below.refl _ w).alloc (Nat.le_refl _) _).alloc (by simp) _).alloc (by simp; omega) _).alloc (by simp; omega) _
  simp only [World.size_alloc] at bO bC bS
  refine wpIn_rangeFunc_ownG hro h1 (gf := 55) (lb := #[.pointer (some ⟨w.heap.size + 1 + 1 + 1, 0, none⟩)]) rfl hf2 (enters_of Tryd.func55 (by kernel_rfl) rfl)
    (backward_stops F (n - 1) hf2 hro (by omega) (w.heap.size + 1 + 1 + 1) w.heap.size A cap zs (by omega) _ (by simp) (by simp; omega) bS.cell (fun W' h => Kd.C_below hC (hB0.trans h))) backKp_t (backKp_b (by simp; omega) (by simp)) (Below.refl _ _) (fun _ => rfl)
    (fun pre W => (((∃ v, Boxed W (w.heap.size + 1) 22 v ∧ W.ownsRow w.heap.size 5 1 v (timesS k pre).2.length ((timesS k pre).2.map (Value.int .u8)) ∧ True) ∧ Boxed W w.heap.size 3 (.int .i64 k)) ∧ (Boxed W (w.heap.size + 1 + 1) 3 (.int .i64 (timesS k pre).1) ∧ Boxed W (w.heap.size + 1 + 1 + 1) 22 (.slice A zs.length cap))) ∧ Below w.heap.size w W)
    (fun _ _ _ => False)
    (OwnFrom.and (OwnFrom.and (OwnFrom.and (Own.from (holdsRow_own w.heap.size (w.heap.size + 1) 22 5 1 (fun pre => (timesS k pre).2.length) (fun pre => (timesS k pre).2.map (Value.int .u8)) (fun _ _ => True)) _) (Own.from (boxed_own w.heap.size 3 (fun _ => .int .i64 k)) _))
      (OwnFrom.and (Own.from (boxed_own (w.heap.size + 1 + 1) 3 (fun pre => .int .i64 (timesS k pre).1)) _) (Own.from (boxed_own (w.heap.size + 1 + 1 + 1) 22 (fun _ => .slice A zs.length cap)) _))) (ownFrom_below (Nat.le_refl _) (by simp; omega)))
    (fun _ _ _ _ _ hs _ _ => hs)
    ⟨⟨⟨⟨_, ((bO.alloc _).alloc _), World.ownsRow_nil _ _ _ _, trivial⟩, (((bK.alloc _).alloc _).alloc _)⟩, (bC.alloc _), bS⟩, hB0⟩
    (fun x => { tmps := #[.slice A zs.length cap, .int .i64 k, undef, .pointer (some ⟨w.heap.size, 0, none⟩), .slice none 0 0, .pointer (some ⟨w.heap.size + 1, 0, none⟩), .pointer (some ⟨w.heap.size + 1 + 1, 0, none⟩), undef, .int .u8 x.2, .slice A zs.length cap, .func (.func 55) #[] #[.pointer (some ⟨w.heap.size + 1 + 1 + 1, 0, none⟩)], .int .i64 x.1, .int .u8 x.2, undef, undef, undef, undef, undef, undef, undef, undef, undef, undef, undef, undef, undef, undef, undef, undef, undef, undef, undef, undef, undef, undef, undef, undef, undef, undef, undef], defers := [] }) ?assign ?body ?done ?stop
  case assign =>
    intro l x W K hK
    gi_wp2
    exact hK
  case body =>
    rintro l pre x W ⟨⟨⟨⟨v, hv, hrow, _⟩, hk⟩, hcy, hbs⟩, hB⟩ hlt
    obtain ⟨t, ht⟩ : ∃ t, t = wrap64 ((timesS k pre).1 + wrap64 (wrap64 x.2 * k)) := ⟨_, rfl⟩
    have hkc := hk.cell
    have hcc := hcy.cell
    have hcf := hcy.frozen
    have hpl := timesS_len k pre
    obtain ⟨W1, hW1⟩ : ∃ W1, W1 = W.setCell ⟨w.heap.size + 1 + 1, 0, none⟩ (.int .i64 t) := ⟨_, rfl⟩
    have hsz1 : W1.heap.size = W.heap.size := by rw [hW1, World.size_setCell]
    have hv1 : Boxed W1 (w.heap.size + 1) 22 v := by rw [hW1]; exact hv.other (by omega) _
    have hk1 : Boxed W1 w.heap.size 3 (.int .i64 k) := by rw [hW1]; exact hk.other (by omega) _
    have hs1 : Boxed W1 (w.heap.size + 1 + 1 + 1) 22 (.slice A zs.length cap) := by rw [hW1]; exact hbs.other (by omega) _
    have hcy1 : Boxed W1 (w.heap.size + 1 + 1) 3 (.int .i64 t) := by rw [hW1]; exact hcy.set _
    have hrow1 : W1.ownsRow w.heap.size 5 1 v (timesS k pre).2.length ((timesS k pre).2.map (Value.int .u8)) := by rw [hW1]; exact hrow.kept (grownBy_setCell' W _ _) (.inr (hcy.not_row (by decide) hrow).symm)
    have hB1 : Below w.heap.size w W1 := by rw [hW1]; exact hB.setCell (p := ⟨w.heap.size + 1 + 1, 0, none⟩) (by simp; omega) _
    have hK1 : KeepsOthers W W1 := by rw [hW1]; exact KeepsOthers.setCell _ _ _
    have hBW1 : Below w.heap.size W W1 := by rw [hW1]; exact (Below.refl _ W).setCell (p := ⟨w.heap.size + 1 + 1, 0, none⟩) (by simp; omega) _
    have hc := hv1.cell
    have hcc1 := hcy1.cell
    rw [hW1, ht] at hc hcc1
    have hone : ∀ j u, [Value.int .u8 (t.tmod 10 % 256)][j]? = some u → (W1.alloc (.cells #[.int .u8 (t.tmod 10 % 256)] 5)).cell? ((⟨W.heap.size, 0, none⟩ : Addr).add j) = some u := by
      have := cell_one_new W1 (.int .u8 (t.tmod 10 % 256)) 5
      rwa [hsz1] at this
    have hbase : w.heap.size ≤ (W1.alloc (.cells #[.int .u8 (t.tmod 10 % 256)] 5)).heap.size := by
      have := hB1.size
      simp only [World.size_alloc]
      omega
    gi_wp2_with (gi_at_builtin; apply parked)
    unfold Parked
    rw [← ht, ← hW1]
    refine wpListIn_append_own _ rfl _ _ 22 rfl w.heap.size 5 i0 (.int .u8 0) 1 1 Tryd.underlying22 hi hz0 hz1 hz2 rfl (by decide) _ _ _ rfl (hrow1.alloc _) ⟨W.heap.size, 0, none⟩ 1 1 [.int .u8 (t.tmod 10 % 256)] rfl rfl hone (by simp [Value.oneCell']) (by simp only [maxLen]; omega) (by omega) hbase ?_
    intro v' w1 hown' hgrow _
    obtain ⟨g', cap', rfl⟩ := ownsRow_succ hown'
    obtain ⟨hv1', hv2, hr2, hk2, hb2⟩ := hv1.appended (by decide) hrow1 hB1.size (by omega) hown' hgrow
    have hc1 := hv1'.cell
    have hf1 := hv1'.frozen
    have hcy2 := ((hcy1.alloc _).kept hgrow (hcy1.not_row (by decide) hrow1)).other (B' := w.heap.size + 1) (by omega) (.slice (some ⟨g', 0, none⟩) ((timesS k pre).2.length + 1) cap')
    have hk2' := ((hk1.alloc _).kept hgrow (hk1.not_row (by decide) hrow1)).other (B' := w.heap.size + 1) (by omega) (.slice (some ⟨g', 0, none⟩) ((timesS k pre).2.length + 1) cap')
    have hbs1 : Boxed w1 (w.heap.size + 1 + 1 + 1) 22 (.slice A zs.length cap) := (hs1.alloc _).kept hgrow (hs1.not_row (by decide) hrow1)
    have hs2 := hbs1.other (B' := w.heap.size + 1) (by omega) (.slice (some ⟨g', 0, none⟩) ((timesS k pre).2.length + 1) cap')
    have hcc2 := hcy2.cell
    have hcf2 := hcy2.frozen
    have HP := Aside0.mk hpl
    have HT := Aside0.mk ht
    have HW1 := Aside0.mk hW1
    clear hpl ht hW1 hc hcc hcf hkc hcc1
    gi_wp2
    refine ⟨((hK1.trans hk2).trans (KeepsOthers.setCell _ _ _)).from _, ⟨(hBW1.trans hb2).setCell (p := ⟨w.heap.size + 1 + 1, 0, none⟩) (by simp; omega) _, ?_⟩, ⟨⟨⟨_, hv2.other (by omega) _, ?_, trivial⟩, hk2'.other (by omega) _⟩, ?_, hs2.other (by omega) _⟩, ((hB1.trans hb2).setCell (p := ⟨w.heap.size + 1 + 1, 0, none⟩) (by simp; omega) _)⟩
    · rw [(hs2.other (by omega) _).cell, hbs.cell]
    · rw [timesS_snoc, timesStep, ← HT.out]
      have := hr2.kept (grownBy_setCell' _ (w.heap.size + 1 + 1) (.int .i64 (wrap64 (t.tdiv 10)))) (.inr (hcy2.not_row (by decide) hr2).symm)
      simpa using this
    · rw [timesS_snoc, timesStep, ← HT.out]
      exact hcy2.set _
  case done =>
    rintro D ys W hD rfl ⟨⟨⟨⟨v, hv, hrow, _⟩, hk⟩, hcy, hbs⟩, hB⟩ hK
    have hcc := hcy.cell
    obtain ⟨TT, hT⟩ : ∃ TT, TT = (timesS k (backK zs zs.length)).2 ++ lowD (timesS k (backK zs zs.length)).1.toNat := ⟨_, rfl⟩
    gi_wp2
    have hTT : TT.length ≤ 70368744177664 + 64 := by
      have h1 := lowD_len 19 (timesS k (backK zs zs.length)).1.toNat (by omega)
      have h2 := timesS_len k (backK zs zs.length)
      rw [backK_length] at h2
      rw [hT, List.length_append]
      omega
    gi_loopw [27] (fun _ wr => ∃ (c : Nat) (outs : List Int) (v : Value), Boxed wr (w.heap.size + 1 + 1) 3 (.int .i64 c) ∧ Boxed wr (w.heap.size + 1) 22 v ∧ wr.ownsRow w.heap.size 5 1 v outs.length (outs.map (Value.int .u8)) ∧ Below w.heap.size w wr ∧ wr.heap[D]? = some (.deferred (some [])) ∧ D < wr.heap.size ∧ outs ++ lowD c = TT ∧ c ≤ 9223372036854775807)
      (fun _ wr => match wr.cell? ⟨w.heap.size + 1 + 1, 0, none⟩ with | some (.int _ c) => c.toNat | _ => 0)
    case atStart =>
      exact ⟨(timesS k (backK zs zs.length)).1.toNat, (timesS k (backK zs zs.length)).2, v, by rw [Int.toNat_of_nonneg hcar.1]; exact hcy, hv, hrow, hB, hK, (Array.getElem?_eq_some_iff.1 hK).1, hT.symm, by omega⟩
    case round =>
      obtain ⟨c, outs, v1, hcy1, hv1, hrow1, hB1, hK1, hD1, hl1, hk1⟩ := hrel
      have hc1 := hcy1.cell
      have hf1 := hcy1.frozen
      have hol : outs.length ≤ 70368744177664 + 64 := by rw [← hl1, List.length_append] at hTT; omega
      have hv1c := hv1.cell
      by_cases hpos : 0 < c
      · have hd := decide_eq_true hpos
        gi_wp2_with (gi_at_builtin; apply parked)
        unfold Parked
        obtain ⟨y, hy⟩ : ∃ y, y = (c : Int) % 10 := ⟨_, rfl⟩
        have hone : ∀ j u, [Value.int .u8 y][j]? = some u → (wr.alloc (.cells #[.int .u8 y] 5)).cell? ((⟨wr.heap.size, 0, none⟩ : Addr).add j) = some u := cell_one_new wr (.int .u8 y) 5
        have hbase : w.heap.size ≤ (wr.alloc (.cells #[.int .u8 y] 5)).heap.size := by
          have := hB1.size
          simp only [World.size_alloc]
          omega
        rw [← hy]
        refine wpListIn_append_own _ rfl _ _ 22 rfl w.heap.size 5 i0 (.int .u8 0) 1 1 Tryd.underlying22 hi hz0 hz1 hz2 rfl (by decide) _ _ _ rfl (hrow1.alloc _) ⟨wr.heap.size, 0, none⟩ 1 1 [.int .u8 y] rfl rfl hone (by simp [Value.oneCell']) (by simp only [maxLen]; omega) (by omega) hbase ?_
        intro v' w1 hown' hgrow _
        obtain ⟨g', cap', rfl⟩ := ownsRow_succ hown'
        obtain ⟨hv1', hv2, hr2, hk2, hb2⟩ := hv1.appended (by decide) hrow1 hB1.size (by omega) hown' hgrow
        have hc1' := hv1'.cell
        have hf1' := hv1'.frozen
        have hcy2 := ((hcy1.alloc _).kept hgrow (hcy1.not_row (by decide) hrow1)).other (B' := w.heap.size + 1) (by omega) (.slice (some ⟨g', 0, none⟩) (outs.length + 1) cap')
        have hcc2 := hcy2.cell
        have hcf2 := hcy2.frozen
        gi_wp2
        have hcy3 := hcy2.set (.int .i64 ((c : Int) / 10))
        have hK3 := (hk2.trans (KeepsOthers.setCell _ ⟨w.heap.size + 1 + 1, 0, none⟩ (.int .i64 ((c : Int) / 10)))).same D _ hK1 rfl
        refine ⟨⟨c / 10, outs ++ [y], _, hcy3, hv2.other (by omega) _, ?_, ((hB1.trans hb2).setCell (p := ⟨w.heap.size + 1 + 1, 0, none⟩) (by simp; omega) _), hK3, (Array.getElem?_eq_some_iff.1 hK3).1, ?_, by omega⟩, ?_⟩
        · have := hr2.kept (grownBy_setCell' _ (w.heap.size + 1 + 1) (.int .i64 ((c : Int) / 10))) (.inr (hcy2.not_row (by decide) hr2).symm)
          simpa using this
        · rw [List.append_assoc, hy, ← hl1, lowD_pos hpos]; simp
        · rw [hcy3.cell, hc1]
          simp
          omega
      · have hd := decide_eq_false hpos
        have hc0 : c = 0 := by omega
        rw [hc0, lowD_zero, List.append_nil] at hl1
        have hnr := hv1.not_row (by decide) hrow1
        have hDr : some D ≠ v1.ownBlock := by
          rcases hrow1.2 with ⟨rfl, _⟩ | ⟨g, cp, cur, rfl, _, hgb, _⟩
          · simp [Value.ownBlock]
          · intro e'
            obtain rfl : D = g := by simpa [Value.ownBlock] using e'
            rw [hK1] at hgb
            cases hgb
        have hlt5 := hv1.lt
        gi_wp2_with (gi_at_call 47; refine (hRev v1 outs wr hB1 hrow1 hol).mono ?_; rintro e w2 ⟨rfl, hR2, hB2, hK2⟩; have hv2 : Boxed w2 (w.heap.size + 1) 22 v1 := (hK2.2 _ hlt5 (fun h => hnr h.symm)).trans hv1; have hD2 : w2.heap[D]? = some (.deferred (some [])) := (hK2.2 _ hD1 (fun h => hDr h.symm)).trans hK1; have hvc2 := hv2.cell)
        refine ⟨by simp, .inl ⟨_, _, rfl, run_takeDeferred hD2, ?_⟩⟩
        refine ⟨_, results_tmp rfl _ _ _, v1, rfl, ?_, hB2.trans (belowK_b (w := w) (Nat.le_refl _) w2 D _ _ (by simp at hD; omega) hD2 rfl rfl)⟩
        rw [← hT, ← hl1]
        exact Kd.R_of_own (ownsRow_putObj (Kd.own_of_R hR2) _ hD2 rfl) (fun _ _ => trivial)
  case stop =>
    rintro D c pre W _ _ h _
    exact h.elim
end Go.Proofs.YtogfokpmpdclbaaDoor.PZ
