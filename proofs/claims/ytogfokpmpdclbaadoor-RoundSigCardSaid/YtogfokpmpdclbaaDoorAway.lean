/- (round.found).away: is a number rounded away from nought?
   Conditions: none. -/
import Derived.Test.YtogfokpmpdclbaaDoorOrders
import Derived.Test.YtogfokpmpdclbaaDoorMapRun
import Derived.Test.YtogfokpmpdclbaaDoorPZx6
set_option linter.unusedSimpArgs false
set_option linter.unusedVariables false
namespace Go.Proofs.YtogfokpmpdclbaaDoor.PZ
open Go.RowKit Go.Proofs.YtogfokpmpdclbaaDoorW.PrintWords Go.Proofs.YtogfokpmpdclbaaDoorW.PrintLast
def nearF (half : Int) (t : Bool) : Bool := decide (half > 0) || (half == 0 && t)
theorem nearer_calls (w : World) (b : Nat) (half : Int) (t : Bool) (hc : w.cell? ⟨b, 1, none⟩ = some (.int .i64 half)) :
    Calls Tryd.prog 38 #[.bool t, .pointer (some ⟨b, 0, none⟩)] w fun e w' => e = .returned (.bool (nearF half t)) ∧ w' = w := by
  unfold nearF
  by_cases h0 : half > 0
  · have h1 : decide (0 < half) = true := decide_eq_true h0
    go_enter Tryd.func38, Tryd.ntmps38
    go_wp2
    go_ret
    simp [h0]
  · have h1 : decide (0 < half) = false := decide_eq_false h0
    cases h2 : (half == 0)
    all_goals
      go_enter Tryd.func38, Tryd.ntmps38
      go_wp2
      go_ret
      simp [h0, h2]
/-- What the map holds at the way's number. -/
def wayF (neg : Bool) (half : Int) (odd : Bool) (k : Int) : Bool :=
  if k = 0 then true else if k = 1 then false else if k = 2 then !neg else if k = 3 then neg else if k = 4 then nearF half true else if k = 5 then nearF half false else if k = 6 then nearF half odd else nearF half (!odd)
def round_found_away.f (l : List Int) (half : Int) (left neg : Bool) (mode : Int) : Option Bool := (round_found_odd.f l half left).bind fun o => if 0 ≤ mode ∧ mode ≤ 7 then some (left && wayF neg half o mode) else none
/-- All entries are as they are to be. -/
def GoodM (f : Int → Bool) (es : Array MapEntry) : Prop := ∀ e ∈ es.toList, ∃ k, e.key = .int .i64 k ∧ e.val = .bool (f k)
def HasM (es : Array MapEntry) (k : Int) : Prop := ∃ e ∈ es.toList, e.key = .int .i64 k
theorem GoodM.keys {f : Int → Bool} {es : Array MapEntry} (h : GoodM f es) : ∀ x ∈ es.toList, MapKept.IsKey (.int .i64) x.key := by
  intro x hx
  obtain ⟨k, hk, _⟩ := h x hx
  rw [hk]
  simp [MapKept.IsKey]
theorem insert_good {P : Program} {mty kt et : TypeId} (hm : P.underlying mty = some (.map kt et)) (hk : P.underlying kt = some (.int .i64)) {f : Int → Bool} {W : World} {g : Nat} {es : Array MapEntry} {clk : Nat} (hb : W.heap[g]? = some (.map es clk)) (hg : GoodM f es) (k : Int) :
    ∃ es' clk', (Instr.mapUpdate mty (.map (some g)) (.int .i64 k) (.bool (f k))).run P W = .ok () { W with heap := W.heap.setIfInBounds g (.map es' clk') } ∧ GoodM f es' ∧ HasM es' k ∧ ∀ k', HasM es k' → HasM es' k' := by
  have hik : MapKept.IsKey (.int .i64) (Value.int .i64 k) := by simp [MapKept.IsKey]
  rcases MapKept.findNow_spec hik es.toList 0 hg.keys with ⟨h1, h2⟩ | ⟨j, e, h1, h2, h3⟩
  · refine ⟨es.push { key := .int .i64 k, val := .bool (f k), born := clk }, clk + 1, ?_, ?_, ?_, ?_⟩
    · simp only [Instr.mapUpdate, Sem.run_bind, run_underlying hm, MapKept.run_getObj_map hb, MapKept.run_checkKey hk hik, MapKept.run_findKey hk h1, MapKept.run_setObj_map _ hb, Result.andThen]
    · intro x hx
      rw [Array.toList_push, List.mem_append] at hx
      rcases hx with hx | hx
      · exact hg x hx
      · obtain rfl : x = _ := List.mem_singleton.1 hx
        exact ⟨k, rfl, rfl⟩
    · exact ⟨_, by rw [Array.toList_push]; exact List.mem_append_right _ (List.mem_singleton.2 rfl), rfl⟩
    · rintro k' ⟨x, hx, e⟩
      exact ⟨x, by rw [Array.toList_push]; exact List.mem_append_left _ hx, e⟩
  · have hj : es[j]? = some e := by simpa using h2
    have hej : e ∈ es.toList := List.mem_of_getElem? h2
    have hev : e = { key := .int .i64 k, val := .bool (f k), born := e.born } := by
      obtain ⟨k', a1, a2⟩ := hg e hej
      rw [h3] at a1
      obtain rfl : k = k' := by injection a1
      cases e
      simp_all
    have hmod : (es.modify j fun e => { e with key := .int .i64 k, val := .bool (f k) }) = es := by
      apply Array.ext_getElem?
      intro i
      rw [Array.getElem?_modify]
      split
      · rename_i hi
        subst hi
        rw [hj]
        simp only [Option.map_some]
        rw [← hev]
      · rfl
    refine ⟨es, clk, ?_, hg, ⟨e, hej, h3⟩, fun _ h => h⟩
    simp only [Instr.mapUpdate, Sem.run_bind, run_underlying hm, MapKept.run_getObj_map hb, MapKept.run_checkKey hk hik, MapKept.run_findKey hk h1, Result.andThen]
    rw [Nat.zero_add, hj]
    simp only [Option.map_some, Option.getD_some, h3, MapKept.run_keyThatStays hik, MapKept.run_setObj_map _ hb, hmod]
theorem look_good {P : Program} {mty kt et : TypeId} (hm : P.underlying mty = some (.map kt et)) (hk : P.underlying kt = some (.int .i64)) {f : Int → Bool} {W : World} {g : Nat} {es : Array MapEntry} {clk : Nat} (hb : W.heap[g]? = some (.map es clk)) (hg : GoodM f es) (k : Int) (hh : HasM es k) :
    (Instr.lookup mty (.map (some g)) (.int .i64 k) false).run P W = .ok (.bool (f k)) W := by
  have hik : MapKept.IsKey (.int .i64) (Value.int .i64 k) := by simp [MapKept.IsKey]
  have hc : (Instr.checkKey es.isEmpty 10000 kt (.int .i64 k)).run P W = .ok () W := MapKept.run_checkKey hk hik _ 9999
  rcases MapKept.findNow_spec hik es.toList 0 hg.keys with ⟨h1, h2⟩ | ⟨j, e, h1, h2, h3⟩
  · obtain ⟨x, hx, e⟩ := hh
    exact absurd e (h2 x hx)
  · obtain ⟨k', a1, a2⟩ := hg e (List.mem_of_getElem? h2)
    rw [h3] at a1
    obtain rfl : k = k' := by injection a1
    rw [a2] at h1
    simp only [Instr.lookup, Sem.run_bind, Sem.run_pure, run_underlying hm, MapKept.run_getObj_map hb, hc, MapKept.run_findKey hk h1, Result.andThen]
    rfl
def sel (b : Bool) (v : Value) : Value := if b then v else undef
theorem sel_true (v : Value) : sel true v = v := rfl
/-- The frame when such and such have come up. -/
def awF (ag cl mp : Value) (neg : Bool) (mode half : Int) (odd : Bool) (B : Nat) (b : Nat → Bool) : Act :=
  { tmps := #[ag, .bool neg, .int .i64 mode, .pointer (some ⟨B, 0, none⟩), undef, undef, .bool false, cl, sel (b 26) mp, cl, sel (b 0) mp, sel (b 3) (.bool neg), sel (b 4) (.bool !neg), sel (b 6) (.bool neg), sel (b 8) cl, sel (b 9) (.bool (nearF half true)),
      sel (b 11) cl, sel (b 12) (.bool (nearF half false)), sel (b 14) cl, sel (b 15) ag, sel (b 16) (.bool odd), sel (b 17) (.bool (nearF half odd)), sel (b 19) cl, sel (b 20) ag, sel (b 21) (.bool odd), sel (b 22) (.bool !odd), sel (b 23) (.bool (nearF half !odd)), sel (b 25) mp,
      undef, undef, undef, undef, undef, undef, undef], defers := [] }
/-- Which insert stores which key. -/
def awKeys : List (Nat × Int) := [(1, 0), (2, 1), (5, 2), (7, 3), (10, 4), (13, 5), (18, 6), (24, 7)]
def awW (w0 : World) (f : Int → Bool) (g : Nat) (b : Nat → Bool) (W : World) : Prop :=
  Below w0.heap.size w0 W ∧ (b 0 = false → ∀ p ∈ awKeys, b p.1 = false) ∧
    (b 0 = true → w0.heap.size ≤ g ∧ ∃ es clk, W.heap[g]? = some (.map es clk) ∧ GoodM f es ∧ ∀ p ∈ awKeys, b p.1 = true → HasM es p.2)
theorem awW.same {w0 : World} {f : Int → Bool} {g : Nat} {b : Nat → Bool} {W : World} (h : awW w0 f g b W) (i : Nat) (hi : i ≠ 0 ∧ ∀ p ∈ awKeys, p.1 ≠ i) : awW w0 f g (upd b i) W := by
  obtain ⟨h1, h2, h3⟩ := h
  refine ⟨h1, ?_, ?_⟩
  · intro h0 p hp
    rw [upd_ne b (fun z => hi.1 z.symm)] at h0
    rw [upd_ne b (hi.2 p hp)]
    exact h2 h0 p hp
  · intro h0
    rw [upd_ne b (fun z => hi.1 z.symm)] at h0
    obtain ⟨hg, es, clk, e1, e2, e3⟩ := h3 h0
    exact ⟨hg, es, clk, e1, e2, fun p hp hb => e3 p hp (by rwa [upd_ne b (hi.2 p hp)] at hb)⟩
theorem awW.below {w0 : World} {f : Int → Bool} {g : Nat} {b : Nat → Bool} {W W' : World} (h : awW w0 f g b W) (hB : Below W.heap.size W W') : awW w0 f g b W' := by
  obtain ⟨h1, h2, h3⟩ := h
  refine ⟨h1.trans (hB.mono h1.size), h2, fun h0 => ?_⟩
  obtain ⟨hg, es, clk, e1, e2, e3⟩ := h3 h0
  exact ⟨hg, es, clk, by rw [hB.block g (Array.getElem?_eq_some_iff.1 e1).1]; exact e1, e2, e3⟩
theorem awW.make {w0 : World} {f : Int → Bool} {g : Nat} {b : Nat → Bool} {W : World} (h : awW w0 f g b W) (h0 : b 0 = false) (clk : Nat) : awW w0 f W.heap.size (upd b 0) (W.alloc (.map #[] clk)) := by
  obtain ⟨h1, h2, h3⟩ := h
  refine ⟨h1.alloc h1.size _, fun h => ?_, fun _ => ⟨h1.size, #[], clk, map_at W _ _, fun e he => by simp at he, fun p hp hb => ?_⟩⟩
  · rw [upd_same] at h; cases h
  · have hne : p.1 ≠ 0 := by simp only [awKeys, List.mem_cons, List.not_mem_nil, or_false] at hp; rcases hp with rfl | rfl | rfl | rfl | rfl | rfl | rfl | rfl <;> decide
    rw [upd_ne b hne, h2 h0 p hp] at hb
    cases hb
theorem awW.insert {w0 : World} {f : Int → Bool} {g : Nat} {b : Nat → Bool} {W : World} (h : awW w0 f g b W) (h0 : b 0 = true) (i : Nat) (k : Int) (hik : (i, k) ∈ awKeys) :
    ∃ W', (Instr.mapUpdate 65 (.map (some g)) (.int .i64 k) (.bool (f k))).run Tryd.prog W = .ok () W' ∧ awW w0 f g (upd b i) W' := by
  obtain ⟨h1, h2, h3⟩ := h
  obtain ⟨hg, es, clk, e1, e2, e3⟩ := h3 h0
  obtain ⟨es', clk', hr, a1, a2, a3⟩ := insert_good Tryd.underlying65 Tryd.underlying3 e1 e2 k
  have hi0 : i ≠ 0 := by simp only [awKeys, List.mem_cons, List.not_mem_nil, or_false, Prod.mk.injEq] at hik; omega
  refine ⟨_, hr, ?_, fun h => ?_, fun _ => ⟨hg, es', clk', (MapKept.heap_set e1).1, a1, fun p hp hb => ?_⟩⟩
  · exact ⟨h1.os, h1.tape, h1.output, by simpa using h1.size, fun k hk => by rw [(MapKept.heap_set e1).2 k (by omega)]; exact h1.block k hk⟩
  · rw [upd_ne b (fun z => hi0 z.symm), h0] at h
    cases h
  · by_cases e : p.1 = i
    · have : p.2 = k := by
        simp only [awKeys, List.mem_cons, List.not_mem_nil, or_false, Prod.mk.injEq] at hik
        simp only [awKeys, List.mem_cons, List.not_mem_nil, or_false] at hp
        rcases hp with rfl | rfl | rfl | rfl | rfl | rfl | rfl | rfl <;> simp only at e ⊢ <;> omega
      rw [this]
      exact a2
    · rw [upd_ne b e] at hb
      exact a3 _ (e3 p hp hb)
def awI (ag cl : Value) (neg : Bool) (mode half : Int) (odd : Bool) (B : Nat) (w0 : World) (b : Nat → Bool) (a : Act) (W : World) : Prop := ∃ g, a = awF ag cl (.map (some g)) neg mode half odd B b ∧ awW w0 (wayF neg half odd) g b W ∧ (b 0 = false → b 25 = false ∧ b 26 = false)
theorem awW_cells {w : World} {f : Int → Bool} {g : Nat} {b : Nat → Bool} {W : World} {x y z : Value} {t : TypeId} (h : awW (w.alloc (.cells #[x, y, z] t)) f g b W) : W.cell? ⟨w.heap.size, 0, none⟩ = some x ∧ W.cell? ⟨w.heap.size, 1, none⟩ = some y ∧ W.cell? ⟨w.heap.size, 2, none⟩ = some z := by
  have hb := h.1.block w.heap.size (by simp)
  have hn := heap_alloc_new w (.cells #[x, y, z] t)
  have hc : ∀ o, W.cell? ⟨w.heap.size, o, none⟩ = (w.alloc (.cells #[x, y, z] t)).cell? ⟨w.heap.size, o, none⟩ := fun o => by simp only [World.cell?, hb]
  exact ⟨by rw [hc, cell_of_row _ _ _ _ _ _ hn]; rfl, by rw [hc, cell_of_row _ _ _ _ _ _ hn]; rfl, by rw [hc, cell_of_row _ _ _ _ _ _ hn]; rfl⟩
set_option maxRecDepth 100000 in
theorem round_found_away.calls (A0_0 : Option Addr) (c0_0 : Nat) (l0_0 : List Int) (a0_1 : Int) (a0_2 : Bool) (a1 : Bool) (a2 : Int) (r : Bool) (w : World) (hr0_0 : Kd.C (Kd.int .u8) w A0_0 l0_0.length l0_0) (hc0_0 : l0_0.length ≤ c0_0) (h : round_found_away.f l0_0 a0_1 a0_2 a1 a2 = some r) :
    Calls Tryd.prog 26 #[.agg #[.slice A0_0 l0_0.length c0_0, .int .i64 a0_1, .bool a0_2], .bool a1, .int .i64 a2] w fun e w' => e = .returned (.bool r) ∧ Below w.heap.size w w' := by
  unfold round_found_away.f at h
  cases ho : round_found_odd.f l0_0 a0_1 a0_2 with
  | none => rw [ho] at h; cases h
  | some od =>
    rw [ho, Option.bind_some] at h
    by_cases hb : 0 ≤ a2 ∧ a2 ≤ 7
    · rw [if_pos hb] at h
      obtain rfl := Option.some.inj h
      have hu := Tryd.underlying53
      have hOdd : ∀ W, Below (w.alloc (.cells #[.slice A0_0 l0_0.length c0_0, .int .i64 a0_1, .bool a0_2] 53)).heap.size (w.alloc (.cells #[.slice A0_0 l0_0.length c0_0, .int .i64 a0_1, .bool a0_2] 53)) W →
          Calls Tryd.prog 39 #[.agg #[.slice A0_0 l0_0.length c0_0, .int .i64 a0_1, .bool a0_2]] W fun e w' => e = .returned (.bool od) ∧ Below W.heap.size W w' := fun W hW =>
        round_found_odd.calls A0_0 c0_0 l0_0 a0_1 a0_2 od W (Kd.C_below hr0_0 (((Below.refl _ w).alloc (Nat.le_refl _) _).trans (hW.mono (by simp)))) hc0_0 ho
      have HB := Aside0.mk hb
      clear ho hb h hr0_0
      go_enter Tryd.func26, Tryd.ntmps26
      go_wp2
      refine wp_region_inv (awI (.agg #[.slice A0_0 l0_0.length c0_0, .int .i64 a0_1, .bool a0_2]) (.func (.func 38) #[] #[.pointer (some ⟨w.heap.size, 0, none⟩)]) a1 a2 a0_1 od w.heap.size (w.alloc (.cells #[.slice A0_0 l0_0.length c0_0, .int .i64 a0_1, .bool a0_2] 53))) (by kernel_rfl) (by kernel_rfl) ?hI ?hstep ?hend
      case hI =>
        exact ⟨0, by simp [awF, sel], ⟨pw_below_drewN (Below.refl _ _) 1, fun _ _ _ => rfl, fun h => by cases h⟩, fun _ => ⟨rfl, rfl⟩⟩
      case hend =>
        rintro b a W hb ⟨g, rfl, hW, _⟩
        obtain ⟨hc0, hc1, hc2⟩ := awW_cells hW
        obtain ⟨_, es, clk, e1, e2, e3⟩ := hW.2.2 (hb 0 (by simp))
        have hBl : Below w.heap.size w W := ((Below.refl _ w).alloc (Nat.le_refl _) _).trans (hW.1.mono (by simp))
        have hl := look_good Tryd.underlying65 Tryd.underlying3 e1 e2 a2 (by
          obtain ⟨h1, h2⟩ := HB.out
          have : a2 = 0 ∨ a2 = 1 ∨ a2 = 2 ∨ a2 = 3 ∨ a2 = 4 ∨ a2 = 5 ∨ a2 = 6 ∨ a2 = 7 := by omega
          rcases this with rfl | rfl | rfl | rfl | rfl | rfl | rfl | rfl
          · exact e3 (1, 0) (by simp [awKeys]) (hb 1 (by simp))
          · exact e3 (2, 1) (by simp [awKeys]) (hb 2 (by simp))
          · exact e3 (5, 2) (by simp [awKeys]) (hb 5 (by simp))
          · exact e3 (7, 3) (by simp [awKeys]) (hb 7 (by simp))
          · exact e3 (10, 4) (by simp [awKeys]) (hb 10 (by simp))
          · exact e3 (13, 5) (by simp [awKeys]) (hb 13 (by simp))
          · exact e3 (18, 6) (by simp [awKeys]) (hb 18 (by simp))
          · exact e3 (24, 7) (by simp [awKeys]) (hb 24 (by simp)))
        obtain ⟨wf, hwf⟩ : ∃ wf, wayF a1 a0_1 od a2 = wf := ⟨_, rfl⟩
        rw [hwf] at hl
        have HWF := Aside0.mk hwf
        clear hwf
        have hf : awF (.agg #[.slice A0_0 l0_0.length c0_0, .int .i64 a0_1, .bool a0_2]) (.func (.func 38) #[] #[.pointer (some ⟨w.heap.size, 0, none⟩)]) (.map (some g)) a1 a2 a0_1 od w.heap.size b =
            awF (.agg #[.slice A0_0 l0_0.length c0_0, .int .i64 a0_1, .bool a0_2]) (.func (.func 38) #[] #[.pointer (some ⟨w.heap.size, 0, none⟩)]) (.map (some g)) a1 a2 a0_1 od w.heap.size (fun _ => true) := by
          unfold awF
          simp only [hb 0 (by simp), hb 3 (by simp), hb 4 (by simp), hb 6 (by simp), hb 8 (by simp), hb 9 (by simp), hb 11 (by simp), hb 12 (by simp), hb 14 (by simp), hb 15 (by simp), hb 16 (by simp), hb 17 (by simp), hb 19 (by simp), hb 20 (by simp), hb 21 (by simp), hb 22 (by simp), hb 23 (by simp), hb 25 (by simp), hb 26 (by simp)]
        rw [hf]
        unfold awF
        simp only [sel_true]
        clear hf hb e1 e2 e3 hW
        have HBl := Aside0.mk hBl
        clear hBl
        cases a0_2
        all_goals
          go_wp2
          go_ret
          exact ⟨by simp [HWF.out], HBl.out⟩
      case hstep =>
        refine ⟨⟨rfl, ?_⟩, ⟨rfl, ?_⟩, ⟨rfl, ?_⟩, ⟨rfl, ?_⟩, ⟨rfl, ?_⟩, ⟨rfl, ?_⟩, ⟨rfl, ?_⟩, ⟨rfl, ?_⟩, ⟨rfl, ?_⟩, ⟨rfl, ?_⟩, ⟨rfl, ?_⟩, ⟨rfl, ?_⟩, ⟨rfl, ?_⟩, ⟨rfl, ?_⟩, ⟨rfl, ?_⟩, ⟨rfl, ?_⟩, ⟨rfl, ?_⟩, ⟨rfl, ?_⟩, ⟨rfl, ?_⟩, ⟨rfl, ?_⟩, ⟨rfl, ?_⟩, ⟨rfl, ?_⟩, ⟨rfl, ?_⟩, ⟨rfl, ?_⟩, ⟨rfl, ?_⟩, ⟨rfl, ?_⟩, ⟨rfl, ?_⟩, trivial⟩
        -- BEGIN STEPS
        · rintro b a W h0 hn ⟨g, rfl, hW, hz⟩
          obtain ⟨z25, z26⟩ := hz h0
          have hmm := @run_makeMap Tryd.prog
          unfold awF
          go_simp
          exact ⟨W.heap.size, by simp [awF, upd, sel, z25, z26], hW.make h0 _, by simp [upd]⟩
        · rintro b a W h0 hn ⟨g, rfl, hW, hz⟩
          have hb0 : b 0 = true := hn 0 (of_decide_eq_true (by kernel_rfl))
          obtain ⟨W', hr, hW'⟩ := hW.insert hb0 1 0 (by simp [awKeys])
          rw [show wayF a1 a0_1 od 0 = (true) from rfl] at hr
          unfold awF
          simp only [sel_true, hb0]
          go_simp
          exact ⟨g, by simp [awF, upd, sel_true, hb0], hW', by simpa [upd] using hz⟩
        · rintro b a W h0 hn ⟨g, rfl, hW, hz⟩
          have hb0 : b 0 = true := hn 0 (of_decide_eq_true (by kernel_rfl))
          obtain ⟨W', hr, hW'⟩ := hW.insert hb0 2 1 (by simp [awKeys])
          rw [show wayF a1 a0_1 od 1 = (false) from rfl] at hr
          unfold awF
          simp only [sel_true, hb0]
          go_simp
          exact ⟨g, by simp [awF, upd, sel_true, hb0], hW', by simpa [upd] using hz⟩
        · rintro b a W h0 hn ⟨g, rfl, hW, hz⟩
          unfold awF
          go_simp
          exact ⟨g, by simp [awF, upd, sel_true], hW.same 3 (by simp [awKeys]), by simpa [upd] using hz⟩
        · rintro b a W h0 hn ⟨g, rfl, hW, hz⟩
          have hb3 : b 3 = true := hn 3 (of_decide_eq_true (by kernel_rfl))
          unfold awF
          simp only [sel_true, hb3]
          go_simp
          exact ⟨g, by simp [awF, upd, sel_true, hb3], hW.same 4 (by simp [awKeys]), by simpa [upd] using hz⟩
        · rintro b a W h0 hn ⟨g, rfl, hW, hz⟩
          have hb0 : b 0 = true := hn 0 (of_decide_eq_true (by kernel_rfl))
          have hb4 : b 4 = true := hn 4 (of_decide_eq_true (by kernel_rfl))
          obtain ⟨W', hr, hW'⟩ := hW.insert hb0 5 2 (by simp [awKeys])
          rw [show wayF a1 a0_1 od 2 = (!a1) from rfl] at hr
          unfold awF
          simp only [sel_true, hb0, hb4]
          go_simp
          exact ⟨g, by simp [awF, upd, sel_true, hb0, hb4], hW', by simpa [upd] using hz⟩
        · rintro b a W h0 hn ⟨g, rfl, hW, hz⟩
          unfold awF
          go_simp
          exact ⟨g, by simp [awF, upd, sel_true], hW.same 6 (by simp [awKeys]), by simpa [upd] using hz⟩
        · rintro b a W h0 hn ⟨g, rfl, hW, hz⟩
          have hb0 : b 0 = true := hn 0 (of_decide_eq_true (by kernel_rfl))
          have hb6 : b 6 = true := hn 6 (of_decide_eq_true (by kernel_rfl))
          obtain ⟨W', hr, hW'⟩ := hW.insert hb0 7 3 (by simp [awKeys])
          rw [show wayF a1 a0_1 od 3 = (a1) from rfl] at hr
          unfold awF
          simp only [sel_true, hb0, hb6]
          go_simp
          exact ⟨g, by simp [awF, upd, sel_true, hb0, hb6], hW', by simpa [upd] using hz⟩
        · rintro b a W h0 hn ⟨g, rfl, hW, hz⟩
          unfold awF
          go_simp
          exact ⟨g, by simp [awF, upd, sel_true], hW.same 8 (by simp [awKeys]), by simpa [upd] using hz⟩
        · rintro b a W h0 hn ⟨g, rfl, hW, hz⟩
          have hb8 : b 8 = true := hn 8 (of_decide_eq_true (by kernel_rfl))
          obtain ⟨hc0, hc1, hc2⟩ := awW_cells hW
          unfold awF
          simp only [sel_true, hb8]
          go_simp
          refine (nearer_calls W _ a0_1 (true) hc1).mono ?_
          rintro e w' ⟨rfl, rfl⟩
          exact ⟨g, by simp [awF, upd, sel_true, hb8], hW.same 9 (by simp [awKeys]), by simpa [upd] using hz⟩
        · rintro b a W h0 hn ⟨g, rfl, hW, hz⟩
          have hb0 : b 0 = true := hn 0 (of_decide_eq_true (by kernel_rfl))
          have hb9 : b 9 = true := hn 9 (of_decide_eq_true (by kernel_rfl))
          obtain ⟨W', hr, hW'⟩ := hW.insert hb0 10 4 (by simp [awKeys])
          rw [show wayF a1 a0_1 od 4 = (nearF a0_1 true) from rfl] at hr
          unfold awF
          simp only [sel_true, hb0, hb9]
          go_simp
          exact ⟨g, by simp [awF, upd, sel_true, hb0, hb9], hW', by simpa [upd] using hz⟩
        · rintro b a W h0 hn ⟨g, rfl, hW, hz⟩
          unfold awF
          go_simp
          exact ⟨g, by simp [awF, upd, sel_true], hW.same 11 (by simp [awKeys]), by simpa [upd] using hz⟩
        · rintro b a W h0 hn ⟨g, rfl, hW, hz⟩
          have hb11 : b 11 = true := hn 11 (of_decide_eq_true (by kernel_rfl))
          obtain ⟨hc0, hc1, hc2⟩ := awW_cells hW
          unfold awF
          simp only [sel_true, hb11]
          go_simp
          refine (nearer_calls W _ a0_1 (false) hc1).mono ?_
          rintro e w' ⟨rfl, rfl⟩
          exact ⟨g, by simp [awF, upd, sel_true, hb11], hW.same 12 (by simp [awKeys]), by simpa [upd] using hz⟩
        · rintro b a W h0 hn ⟨g, rfl, hW, hz⟩
          have hb0 : b 0 = true := hn 0 (of_decide_eq_true (by kernel_rfl))
          have hb12 : b 12 = true := hn 12 (of_decide_eq_true (by kernel_rfl))
          obtain ⟨W', hr, hW'⟩ := hW.insert hb0 13 5 (by simp [awKeys])
          rw [show wayF a1 a0_1 od 5 = (nearF a0_1 false) from rfl] at hr
          unfold awF
          simp only [sel_true, hb0, hb12]
          go_simp
          exact ⟨g, by simp [awF, upd, sel_true, hb0, hb12], hW', by simpa [upd] using hz⟩
        · rintro b a W h0 hn ⟨g, rfl, hW, hz⟩
          unfold awF
          go_simp
          exact ⟨g, by simp [awF, upd, sel_true], hW.same 14 (by simp [awKeys]), by simpa [upd] using hz⟩
        · rintro b a W h0 hn ⟨g, rfl, hW, hz⟩
          obtain ⟨hc0, hc1, hc2⟩ := awW_cells hW
          unfold awF
          go_simp
          exact ⟨g, by simp [awF, upd, sel_true], hW.same 15 (by simp [awKeys]), by simpa [upd] using hz⟩
        · rintro b a W h0 hn ⟨g, rfl, hW, hz⟩
          have hb15 : b 15 = true := hn 15 (of_decide_eq_true (by kernel_rfl))
          obtain ⟨hc0, hc1, hc2⟩ := awW_cells hW
          unfold awF
          simp only [sel_true, hb15]
          go_simp
          refine (hOdd W hW.1).mono ?_
          rintro e w' ⟨rfl, hB'⟩
          exact ⟨g, by simp [awF, upd, sel_true, hb15], (hW.same 16 (by simp [awKeys])).below hB', by simpa [upd] using hz⟩
        · rintro b a W h0 hn ⟨g, rfl, hW, hz⟩
          have hb14 : b 14 = true := hn 14 (of_decide_eq_true (by kernel_rfl))
          have hb16 : b 16 = true := hn 16 (of_decide_eq_true (by kernel_rfl))
          obtain ⟨hc0, hc1, hc2⟩ := awW_cells hW
          unfold awF
          simp only [sel_true, hb14, hb16]
          go_simp
          refine (nearer_calls W _ a0_1 (od) hc1).mono ?_
          rintro e w' ⟨rfl, rfl⟩
          exact ⟨g, by simp [awF, upd, sel_true, hb14, hb16], hW.same 17 (by simp [awKeys]), by simpa [upd] using hz⟩
        · rintro b a W h0 hn ⟨g, rfl, hW, hz⟩
          have hb0 : b 0 = true := hn 0 (of_decide_eq_true (by kernel_rfl))
          have hb17 : b 17 = true := hn 17 (of_decide_eq_true (by kernel_rfl))
          obtain ⟨W', hr, hW'⟩ := hW.insert hb0 18 6 (by simp [awKeys])
          rw [show wayF a1 a0_1 od 6 = (nearF a0_1 od) from rfl] at hr
          unfold awF
          simp only [sel_true, hb0, hb17]
          go_simp
          exact ⟨g, by simp [awF, upd, sel_true, hb0, hb17], hW', by simpa [upd] using hz⟩
        · rintro b a W h0 hn ⟨g, rfl, hW, hz⟩
          unfold awF
          go_simp
          exact ⟨g, by simp [awF, upd, sel_true], hW.same 19 (by simp [awKeys]), by simpa [upd] using hz⟩
        · rintro b a W h0 hn ⟨g, rfl, hW, hz⟩
          obtain ⟨hc0, hc1, hc2⟩ := awW_cells hW
          unfold awF
          go_simp
          exact ⟨g, by simp [awF, upd, sel_true], hW.same 20 (by simp [awKeys]), by simpa [upd] using hz⟩
        · rintro b a W h0 hn ⟨g, rfl, hW, hz⟩
          have hb20 : b 20 = true := hn 20 (of_decide_eq_true (by kernel_rfl))
          obtain ⟨hc0, hc1, hc2⟩ := awW_cells hW
          unfold awF
          simp only [sel_true, hb20]
          go_simp
          refine (hOdd W hW.1).mono ?_
          rintro e w' ⟨rfl, hB'⟩
          exact ⟨g, by simp [awF, upd, sel_true, hb20], (hW.same 21 (by simp [awKeys])).below hB', by simpa [upd] using hz⟩
        · rintro b a W h0 hn ⟨g, rfl, hW, hz⟩
          have hb21 : b 21 = true := hn 21 (of_decide_eq_true (by kernel_rfl))
          unfold awF
          simp only [sel_true, hb21]
          go_simp
          exact ⟨g, by simp [awF, upd, sel_true, hb21], hW.same 22 (by simp [awKeys]), by simpa [upd] using hz⟩
        · rintro b a W h0 hn ⟨g, rfl, hW, hz⟩
          have hb19 : b 19 = true := hn 19 (of_decide_eq_true (by kernel_rfl))
          have hb22 : b 22 = true := hn 22 (of_decide_eq_true (by kernel_rfl))
          obtain ⟨hc0, hc1, hc2⟩ := awW_cells hW
          unfold awF
          simp only [sel_true, hb19, hb22]
          go_simp
          refine (nearer_calls W _ a0_1 (!od) hc1).mono ?_
          rintro e w' ⟨rfl, rfl⟩
          exact ⟨g, by simp [awF, upd, sel_true, hb19, hb22], hW.same 23 (by simp [awKeys]), by simpa [upd] using hz⟩
        · rintro b a W h0 hn ⟨g, rfl, hW, hz⟩
          have hb0 : b 0 = true := hn 0 (of_decide_eq_true (by kernel_rfl))
          have hb23 : b 23 = true := hn 23 (of_decide_eq_true (by kernel_rfl))
          obtain ⟨W', hr, hW'⟩ := hW.insert hb0 24 7 (by simp [awKeys])
          rw [show wayF a1 a0_1 od 7 = (nearF a0_1 !od) from rfl] at hr
          unfold awF
          simp only [sel_true, hb0, hb23]
          go_simp
          exact ⟨g, by simp [awF, upd, sel_true, hb0, hb23], hW', by simpa [upd] using hz⟩
        · rintro b a W h0 hn ⟨g, rfl, hW, hz⟩
          have hb0 : b 0 = true := hn 0 (of_decide_eq_true (by kernel_rfl))
          unfold awF
          simp only [sel_true, hb0]
          go_simp
          exact ⟨g, by simp [awF, upd, sel_true, hb0], hW.same 25 (by simp [awKeys]), by simp [upd, hb0]⟩
        · rintro b a W h0 hn ⟨g, rfl, hW, hz⟩
          have hb25 : b 25 = true := hn 25 (of_decide_eq_true (by kernel_rfl))
          unfold awF
          simp only [sel_true, hb25]
          go_simp
          exact ⟨g, by simp [awF, upd, sel_true, hb25], hW.same 26 (by simp [awKeys]), fun h => by have h2 := hz (by simpa [upd] using h); simp [hb25] at h2⟩
        -- END STEPS
    · rw [if_neg hb] at h
      cases h
end Go.Proofs.YtogfokpmpdclbaaDoor.PZ
