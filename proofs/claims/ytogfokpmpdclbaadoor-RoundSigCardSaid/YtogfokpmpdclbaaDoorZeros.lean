/- round.zeros: a row with noughts behind it.
   Conditions: none. -/
import Derived.Test.YtogfokpmpdclbaaDoorMix
set_option linter.unusedSimpArgs false
set_option linter.unusedVariables false
namespace Go.Proofs.YtogfokpmpdclbaaDoor.PZ
open Go.RowKit Go.Proofs.YtogfokpmpdclbaaDoorW.PrintWords Go.Proofs.YtogfokpmpdclbaaDoorW.PrintLast Go.Proofs.YtogfokpmpdclbaaDoorW.PrintMore
attribute [local go_sem] max2_int min2_int max_two min_two max_three min_three max_four min_four
/-- A block just made that begins with the row's cells. -/
theorem fresh_V (W : World) (L : List Int) (tail : Array Value) (base : Nat) (hb : base ≤ W.heap.size) (c : Nat) (hc : L.length ≤ c) (hl : L.length ≤ maxLen) (P0 : Nat → Prop) (hP2 : ∀ k, base ≤ k → P0 k) :
    Kd.V (Kd.int .u8) 5 (W.alloc (.cells ((L.map (Value.int .u8)).toArray ++ tail) 5)) base P0 (.slice (some ⟨W.heap.size, 0, none⟩) L.length c) L := by
  refine Kd.V_mk hc ?_
  intro W' hW
  have hg := hW W.heap.size (hP2 _ hb) (by simp)
  refine Kd.C_of_reads (d := (0 : Int)) (h1 := fun _ => rfl) ⟨rfl, by simp only [maxLen] at hl; omega, fun _ => ⟨_, rfl, fun j hj => ?_⟩⟩
  rw [add_plain, World.cell?_of_block (w := W.alloc (.cells ((L.map (Value.int .u8)).toArray ++ tail) 5)) hg, cell_of_row _ _ _ _ _ _ (heap_alloc_new W _)]
  rw [Array.getElem?_append_left (by simpa using hj)]
  simp [rd, List.getD_eq_getElem?_getD, List.getElem?_eq_getElem hj]
theorem clip_run (t e : TypeId) {P : Program} {i : TypeInfo} (ht : P.underlying t = some (.slice e)) (hi : P.info? e = some i) (A : Option Addr) (n c : Nat) (hc : n ≤ c) :
    ∀ W : World, (Instr.slice t (.slice A n c) none (some (.int .i64 n)) (some (.int .i64 n))).run P W = .ok (.slice A n n) W := by
  intro W
  have hel : P.elem t = e := by simp [Program.elem, ht]
  have hu : P.underlying t = some (.slice (P.elem t)) := by rw [hel]; exact ht
  have ha : (A.map fun x => x.add 0) = A := by cases A <;> simp [Addr.add]
  have hn : ((n : Int)) ≤ (c : Int) := by omega
  rw [run_slice_any W t A n c hu, hel]
  simp [Instr.sliceBounds, run_sliceBound, hn, sizeOf, typeInfo, hi, sliced, Result.andThen, ha]
theorem zerosByteInfo : (Tryd.prog.info? 5).map (fun i => (i.zero, i.size, i.bytes)) = some (some (.int .u8 0), 1, 1) := by kernel_rfl
theorem zero_cells (m : Nat) : Builtin.zeroCells (Value.int .u8 0).cells m = (List.replicate m (Value.int .u8 0)).toArray := by
  apply Array.ext
  · simp [Builtin.zeroCells, Value.cells]
  · intro j h1 h2
    simp [Builtin.zeroCells, Value.cells, Nat.mod_one]
theorem clip_zeros_run (P0 : Nat → Prop) (A : Option Addr) (l : List Int) (w : World) (hF : Kd.F (Kd.int .u8) w P0 A l.length l) (m : Nat) (hm : l.length + m ≤ 140737488355328) (ty : TypeId) :
    ∃ v' w', (Builtin.append_ #[22, 3] ty #[.slice A l.length l.length, .int .i64 m]).run Tryd.prog w = .ok v' w' ∧ Kd.V (Kd.int .u8) 5 w' w.heap.size (fun k => P0 k ∨ w.heap.size ≤ k) v' (l ++ List.replicate m 0) ∧ Below w.heap.size w w' := by
  obtain ⟨i, hi, hz, hsz, hby⟩ := info_parts zerosByteInfo
  have ht := Tryd.underlying22
  have hti := Tryd.underlying3
  have hw : IntKind.i64.wrap (m : Int) = m := by rw [IntKind.wrap_i64]; omega
  have hw0 : IntKind.i64.wrap 0 = 0 := by rw [IntKind.wrap_i64]; rfl
  by_cases h0 : m = 0
  · subst h0
    refine ⟨.slice A l.length l.length, w, ?_, ?_, Below.refl _ _⟩
    · cases A <;> simp [Builtin.append_, run_underlying ht, run_underlying hti, sizeOf, typeInfo, hi, asInt, asIntOf, hw0, storeCells]
    · rw [List.replicate_zero, List.append_nil]
      exact Kd.V_mono (Kd.V_mk (Nat.le_refl _) hF) (fun _ hk => .inl hk)
  · have hn : ¬ (l.length + m ≤ l.length) := by omega
    have h63' : ¬ (9223372036854775807 < ((l.length : Int) + (m : Int))) := by omega
    have hfit := growslice_fits (need := l.length + m) (old := l.length) (bytes := 1) (by omega) (by omega)
    have h48' : ¬ (281474976710656 < Builtin.nextslicecap (l.length + m) l.length * i.bytes) := by rw [hby]; omega
    have hneg : ¬ ((m : Int) < 0) := by omega
    have hbig : ¬ (281474976710656 < (m : Int) * (i.bytes : Int)) := by rw [hby]; omega
    have hmz : ¬ (m * i.size = 0) := by rw [hsz]; omega
    have hfo : (Builtin.firstCells i.size l.length (.slice A l.length l.length)).run Tryd.prog w.drew = .ok ((l.map (Value.int .u8)).toArray) w.drew := by
      cases A with
      | none =>
        have : l = [] := by
          cases l with
          | nil => rfl
          | cons x l => obtain ⟨ad, he, _⟩ := Kd.at_int (Kd.F_now hF) 0 (by omega) (by simp); cases he
        subst this
        exact run_firstCells_none _ _ _ _ _
      | some a =>
        refine run_firstCells_some w.drew i.size l.length a l.length l.length _ (by rw [hsz, List.length_map, Nat.mul_one]) ?_
        intro j u hu
        have hj : j < l.length := by have := (List.getElem?_eq_some_iff.1 hu).1; simpa using this
        obtain ⟨ad, he, hcell⟩ := Kd.at_int (Kd.F_now hF) (j : Int) (by omega) (by omega)
        cases he
        simp only [Int.toNat_natCast] at hcell
        rw [World.cell?_drew, hcell]
        rw [List.getElem?_map, List.getElem?_eq_getElem hj] at hu
        simp [rd, List.getD_eq_getElem?_getD, List.getElem?_eq_getElem hj]
        simpa using hu
    refine ⟨.slice (some ⟨w.heap.size, 0, none⟩) (l.length + m) (grownCap w (l.length + m) l.length 5), w.drew.alloc (.cells (((l ++ List.replicate m 0).map (Value.int .u8)).toArray ++ Builtin.zeroCells (Value.int .u8 0).cells (grownCap w (l.length + m) l.length 5 - (l.length + m))) 5), ?_, ?_, ?_⟩
    · simp [Builtin.append_, run_underlying ht, run_underlying hti, sizeOf, typeInfo, zeroValue, hi, hz, asInt, asIntOf, hw, hneg, hbig, hn, h63', h48', Question.forced, hfo, newRow, grownCap, hmz, zero_cells]
      congr 2
      apply Array.ext'
      simp only [Array.toList_append, Array.toList_replicate, List.toList_toArray, List.append_assoc, List.append_cancel_left_eq]
      exact List.replicate_append_replicate.symm
    · have := fresh_V w.drew (l ++ List.replicate m 0) (Builtin.zeroCells (Value.int .u8 0).cells (grownCap w (l.length + m) l.length 5 - (l.length + m))) w.heap.size (by simp) (grownCap w (l.length + m) l.length 5) (by simp only [List.length_append, List.length_replicate]; exact grownCap_ge _ _ _ _) (by simp only [List.length_append, List.length_replicate, maxLen]; omega) (fun k => P0 k ∨ w.heap.size ≤ k) (fun k hk => .inr hk)
      simpa using this
    · exact (pw_below_drewN (Below.refl _ w) 1).alloc (by simp) _
theorem wpList_append_runs {P : Program} {ops : Array Oper} {rest : List Oper} {o : Oper} {a : Act} {Q : Exit → Act → World → Prop} {W w' : World} (hgd : o.guard = none) (s x : Operand) (t ti : TypeId) (v y v' : Value)
    (ho : o.op = .call { callee := .builtin .append, args := #[s, x], argTypes := #[t, ti] }) (hs : a.eval s = v) (hx : a.eval x = y)
    (hr : (Builtin.append_ #[t, ti] o.type #[v, y]).run P W = .ok v' w') (h : wpList P ops Q rest (a.put o.dst v') w') : wpList P ops Q (o :: rest) a W := by
  refine wpList_plain hgd fun K hK => ?_
  unfold Oper.wp execOp
  simp only [ho, resolve, invoke, builtin, Sem.run_bind, Sem.run_pure, Result.andThen_ok, List.map_toArray, List.map_cons, List.map_nil, hs, hx, hr]
  exact hK _ _ h
theorem Clip_calls (A0 : Option Addr) (n c0 : Nat) (hc0 : n ≤ c0) (hn : n ≤ 140737488355328) (w : World) :
    Calls Tryd.prog 49 #[.slice A0 n c0] w fun e w' => e = .returned (.slice A0 n n) ∧ w' = w := by
  obtain ⟨i0, hi0, _, hsz, _⟩ := info_parts zerosByteInfo
  have hcut := clip_run (P := Tryd.prog) 22 5 Tryd.underlying22 hi0 A0 n c0 hc0
  clear hi0 hsz hc0
  go_enter Tryd.func49, Tryd.ntmps49
  go_wp2
  go_ret
  exact ⟨rfl, rfl⟩
def round_zeros.f (l : List Int) (n : Int) : Option (List Int) := if (l.length : Int) + n ≤ 140737488355328 ∧ l.length ≤ 140737488355328 then some (l ++ List.replicate n.toNat 0) else none
theorem round_zeros.calls (P0_ : Nat → Prop) (A0 : Option Addr) (c0 : Nat) (l0 : List Int) (a1 : Int) (r : List Int) (w : World) (hs0 : Kd.V (Kd.int .u8) 5 w w.heap.size (fun k_ => P0_ k_) (.slice A0 l0.length c0) l0) (h : round_zeros.f l0 a1 = some r) :
    Calls Tryd.prog 34 #[.slice A0 l0.length c0, .int .i64 a1] w fun e w' => ∃ v0_ : Value, e = .returned (v0_) ∧ Kd.V (Kd.int .u8) 5 w' w.heap.size (fun k_ => (P0_ k_ ∨ w.heap.size ≤ k_)) v0_ r ∧ Below w.heap.size w w' := by
  unfold round_zeros.f at h
  by_cases hb : (l0.length : Int) + a1 ≤ 140737488355328 ∧ l0.length ≤ 140737488355328
  · rw [if_pos hb] at h
    obtain rfl := Option.some.inj h
    clear h
    obtain ⟨_, hc, hF⟩ := Kd.V_at hs0
    have hcl := Clip_calls A0 l0.length c0 hc hb.2 w
    obtain ⟨m, hm⟩ : ∃ m : Nat, m = a1.toNat := ⟨_, rfl⟩
    have hmx : (if a1 < 0 then (0 : Int) else a1) = (m : Int) := by split <;> omega
    have hrun := fun ty => clip_zeros_run P0_ A0 l0 w hF m (by omega) ty
    rw [← hm]
    clear hs0 hb hF hc hm
    obtain ⟨v', w', hr, hV, hB⟩ := hrun 22
    have HV := Aside0.mk hV
    have HB := Aside0.mk hB
    clear hrun hV hB
    go_enter Tryd.func34, Tryd.ntmps34
    go_wp2_with (first | (go_at_call 49; refine hcl.mono ?_; rintro e w1 ⟨rfl, rfl⟩) | (at_builtin; refine wpList_append_runs rfl (.tmp 6) (.tmp 8) 22 3 _ _ _ rfl rfl rfl hr ?_))
    go_ret
    exact ⟨_, rfl, HV.out, HB.out⟩
  · rw [if_neg hb] at h
    cases h
end Go.Proofs.YtogfokpmpdclbaaDoor.PZ
