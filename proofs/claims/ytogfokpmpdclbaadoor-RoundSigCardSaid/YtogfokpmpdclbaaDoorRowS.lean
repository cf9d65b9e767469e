/- A row that may be appended to though its block's end is frozen: what append makes of it; and round.figures' row as such.
   Conditions: the laid table of powers of ten reads. -/
import Derived.Test.YtogfokpmpdclbaaDoorFigures
import Derived.Test.YtogfokpmpdclbaaDoorZeros
import Derived.Test.YtogfokpmpdclbaaDoorMoreR
import Derived.Deep.Upon
import Derived.Deep.AppendSrc
import Derived.Deep.MidRow
import Derived.Lib.JoinLaws
set_option linter.unusedVariables false
set_option linter.unusedSimpArgs false
namespace Go.Proofs.YtogfokpmpdclbaaDoor.PZ
open Go.RowKit Go.Proofs.YtogfokpmpdclbaaDoorW.PrintWords Go.Proofs.YtogfokpmpdclbaaDoorW.PrintLast
def RowS (W : World) (base : Nat) (v : Value) (l : List Int) : Prop := ∃ g cap, v = .slice (some ⟨g, 0, none⟩) l.length cap ∧ base ≤ g ∧ g < W.heap.size ∧ l.length ≤ cap ∧ cap ≤ 9223372036854775807 ∧ (∀ j, j < l.length → W.cell? ⟨g, j, none⟩ = some (.int .u8 (rd l j))) ∧ ∀ j, j < cap → (W.cell? ⟨g, j, none⟩).isSome = true ∧ W.frozen? ⟨g, j, none⟩ = false
theorem cell_of_blk {W W' : World} {g : Nat} (h : W'.heap[g]? = W.heap[g]?) (j : Nat) : W'.cell? ⟨g, j, none⟩ = W.cell? ⟨g, j, none⟩ ∧ W'.frozen? ⟨g, j, none⟩ = W.frozen? ⟨g, j, none⟩ := by
  constructor
  · simp only [World.cell?, h]
  · simp only [World.frozen?, h]
theorem RowS.below {W W' : World} {base : Nat} {v : Value} {l : List Int} (h : RowS W base v l) (hb : Below W.heap.size W W') : RowS W' base v l := by
  obtain ⟨g, cap, e, h1, h2, h3, h4, h5, h6⟩ := h
  have hg := hb.block g h2
  exact ⟨g, cap, e, h1, Nat.lt_of_lt_of_le h2 hb.size, h3, h4, fun j hj => by rw [(cell_of_blk hg j).1]; exact h5 j hj, fun j hj => by rw [(cell_of_blk hg j).1, (cell_of_blk hg j).2]; exact h6 j hj⟩
theorem RowS.keep {W W' : World} {base : Nat} {v : Value} {l : List Int} (h : RowS W base v l) (hs : W.heap.size ≤ W'.heap.size) (hb : ∀ g, v.ownBlock = some g → W'.heap[g]? = W.heap[g]?) : RowS W' base v l := by
  obtain ⟨g, cap, e, h1, h2, h3, h4, h5, h6⟩ := h
  have hg := hb g (by rw [e]; rfl)
  exact ⟨g, cap, e, h1, Nat.lt_of_lt_of_le h2 hs, h3, h4, fun j hj => by rw [(cell_of_blk hg j).1]; exact h5 j hj, fun j hj => by rw [(cell_of_blk hg j).1, (cell_of_blk hg j).2]; exact h6 j hj⟩
theorem RowS.F {W : World} {base : Nat} {v : Value} {l : List Int} (h : RowS W base v l) : ∃ A cap, v = .slice A l.length cap ∧ l.length ≤ cap ∧ Kd.F (Kd.int .u8) W (fun k => base ≤ k) A l.length l := by
  obtain ⟨g, cap, rfl, h1, h2, h3, h4, h5, h6⟩ := h
  refine ⟨_, cap, rfl, h3, fun W' hW => ?_⟩
  refine Kd.C_of_reads (d := (0 : Int)) (h1 := fun _ => rfl) ⟨rfl, by omega, fun _ => ⟨_, rfl, fun j hj => ?_⟩⟩
  rw [add_plain, (cell_of_blk (hW g h1 h2) j).1, h5 j hj]
  simp [rd, List.getD_eq_getElem?_getD, List.getElem?_eq_getElem hj]
theorem RowS.make (W : World) (m : Nat) (hm : m ≤ 9223372036854775807) (base : Nat) (hb : base ≤ W.heap.size) : RowS (W.alloc (.cells (List.replicate m (Value.int .u8 0)).toArray 5)) base (.slice (some ⟨W.heap.size, 0, none⟩) m m) (List.replicate m 0) := by
  have hn := heap_alloc_new W (.cells (List.replicate m (Value.int .u8 0)).toArray 5)
  have hc : ∀ j, j < m → (W.alloc (.cells (List.replicate m (Value.int .u8 0)).toArray 5)).cell? ⟨W.heap.size, j, none⟩ = some (.int .u8 0) := fun j hj => by
    rw [cell_of_row _ _ _ _ _ _ hn]
    simp [hj]
  refine ⟨W.heap.size, m, by simp, hb, by simp, by simp, hm, fun j hj => ?_, fun j hj => ⟨by rw [hc j hj]; rfl, ?_⟩⟩
  · rw [hc j (by simpa using hj), rd_zeros]
  · unfold World.frozen?
    simp only [hn]
    simp
theorem src_of_C (W : World) (A : Option Addr) (zs : List Int) (c : Nat) (hC : Kd.C (Kd.int .u8) W A zs.length zs) : Src Tryd.prog 1 22 (.slice A zs.length c) zs.length (zs.map (Value.int .u8)) W := by
  cases A with
  | none =>
    have : zs = [] := by
      cases zs with
      | nil => rfl
      | cons x l => obtain ⟨ad, he, _⟩ := Kd.at_int hC 0 (by omega) (by simp); cases he
    subst this
    exact ⟨.inl ⟨_, Tryd.underlying22⟩, fun _ => rfl, run_firstCells_none _ _ _ _ _, run_firstCells_none _ _ _ _ _, rfl, by simp⟩
  | some a =>
    refine Src.ofSlice W Tryd.underlying22 a zs.length c _ (by simp) (fun j u hu => ?_) (fun u hu => ?_)
    · have hj : j < zs.length := by have := (List.getElem?_eq_some_iff.1 hu).1; simpa using this
      obtain ⟨ad, he, hcell⟩ := Kd.at_int hC (j : Int) (by omega) (by omega)
      cases he
      simp only [Int.toNat_natCast] at hcell
      rw [hcell]
      rw [List.getElem?_map, List.getElem?_eq_getElem hj] at hu
      simp [rd, List.getD_eq_getElem?_getD, List.getElem?_eq_getElem hj]
      simpa using hu
    · obtain ⟨x, _, rfl⟩ := List.mem_map.1 hu
      rfl
theorem size_sets (g : Nat) : ∀ (vs : List Value) (o : Nat) (W : World), (W.setCells g o vs).heap.size = W.heap.size
  | [], _, _ => rfl
  | v :: r, o, W => (size_sets g r (o + 1) _).trans (by simp)
theorem append_rows (W : World) (base : Nat) (v : Value) (l : List Int) (h : RowS W base v l) (A : Option Addr) (zs : List Int) (c : Nat) (hC : Kd.C (Kd.int .u8) W A zs.length zs) (hlen : l.length + zs.length ≤ 140737488355328) (hbase : base ≤ W.heap.size) (ty : TypeId) :
    ∃ v' W', (Builtin.append_ #[22, 22] ty #[v, .slice A zs.length c]).run Tryd.prog W = .ok v' W' ∧ RowS W' base v' (l ++ zs) ∧ Below base W W' := by
  obtain ⟨i, hi, hz, hsz, hby⟩ := info_parts zerosByteInfo
  obtain ⟨g, cap, rfl, h1, h2, h3, h4, h5, h6⟩ := h
  have hsrc : Src Tryd.prog i.size 22 (.slice A zs.length c) zs.length (zs.map (Value.int .u8)) W := by rw [hsz]; exact src_of_C W A zs c hC
  by_cases h0 : zs.length = 0
  · obtain rfl : zs = [] := List.eq_nil_of_length_eq_zero h0
    refine ⟨_, W, run_append_nothing W _ _ ty _ i Tryd.underlying22 hi _ _ _ h3 _ hsrc, ?_, Below.refl _ _⟩
    rw [List.append_nil]
    exact ⟨g, cap, rfl, h1, h2, h3, h4, h5, h6⟩
  · by_cases hroom : l.length + zs.length ≤ cap
    · refine ⟨_, _, run_append_room_src W _ _ ty _ i Tryd.underlying22 hi g 0 l.length cap _ _ _ hsrc hroom (fun j hj => ?_) (fun j hj => ?_), ?_, below_sets h1 _ _ _ (Below.refl _ _)⟩
      · rw [hsz]; simp at hj; exact (h6 _ (by omega)).1
      · rw [hsz]; simp at hj; exact (h6 _ (by omega)).2
      · rw [hsz, Nat.mul_one, Nat.zero_add]
        have hin : ∀ j, j < (zs.map (Value.int .u8)).length → (W.cell? ⟨g, l.length + j, none⟩).isSome = true := fun j hj => (h6 _ (by simp at hj; omega)).1
        refine ⟨g, cap, by simp, h1, by rw [size_sets]; exact h2, by simpa using hroom, h4, fun j hj => ?_, fun j hj => ⟨?_, ?_⟩⟩
        · rw [List.length_append] at hj
          by_cases hjl : j < l.length
          · rw [World.cell?_setCells_out g _ _ _ _ (fun _ _ => by show j < l.length ∨ _; omega), h5 j hjl, rd_append_left _ _ _ hjl]
          · have hq := World.cell?_setCells_in g (zs.map (Value.int .u8)) l.length W hin (j - l.length) (by simp; omega)
            rw [show l.length + (j - l.length) = j by omega] at hq
            rw [hq, rd_append_right _ _ _ (by omega)]
            simp [rd, List.getD_eq_getElem?_getD, List.getElem?_eq_getElem (show j - l.length < zs.length by omega)]
        · exact World.isSome_setCells g _ _ _ _ (h6 j hj).1
        · rw [World.frozen?_setCells]; exact (h6 j hj).2
    · have hold : (Builtin.firstCells i.size l.length (.slice (some ⟨g, 0, none⟩) l.length cap)).run Tryd.prog W.drew = .ok ((l.map (Value.int .u8)).toArray) W.drew := by
        refine run_firstCells_some W.drew i.size l.length ⟨g, 0, none⟩ l.length cap _ (by rw [hsz, List.length_map, Nat.mul_one]) ?_
        intro j u hu
        have hj : j < l.length := by have := (List.getElem?_eq_some_iff.1 hu).1; simpa using this
        rw [add_plain, World.cell?_drew, h5 j hj]
        rw [List.getElem?_map, List.getElem?_eq_getElem hj] at hu
        simp [rd, List.getD_eq_getElem?_getD, List.getElem?_eq_getElem hj]
        simpa using hu
      have hrun := run_append_grow_src W 22 22 ty 5 i _ Tryd.underlying22 hi hz (some ⟨g, 0, none⟩) l.length cap (l.map (Value.int .u8)) hold _ zs.length _ hsrc (by omega) (by omega) (by rw [hby]; exact growslice_fits (by omega) (by omega))
      have hG := grownCap_ge W (l.length + zs.length) cap 5
      have hG2 := grownCap_le_maxLen W (l.length + zs.length) cap 5 (by unfold maxLen; omega)
      unfold maxLen at hG2
      generalize grownCap W (l.length + zs.length) cap 5 = G at *
      rw [zero_cells] at hrun
      refine ⟨_, _, hrun, ?_, (below_drew (Below.refl _ _)).alloc (by simpa using hbase) _⟩
      · have hn := heap_alloc_new W.drew (.cells ((l.map (Value.int .u8) ++ zs.map (Value.int .u8)).toArray ++ (List.replicate (G - (l.length + zs.length)) (Value.int .u8 0)).toArray) 5)
        rw [World.size_drew] at hn
        have hc : ∀ j, (W.drew.alloc (.cells ((l.map (Value.int .u8) ++ zs.map (Value.int .u8)).toArray ++ (List.replicate (G - (l.length + zs.length)) (Value.int .u8 0)).toArray) 5)).cell? ⟨W.heap.size, j, none⟩ = ((l ++ zs).map (Value.int .u8) ++ List.replicate (G - (l.length + zs.length)) (Value.int .u8 0))[j]? := fun j => by
          rw [cell_of_row _ _ _ _ _ _ hn, ← Array.getElem?_toList, Array.toList_append, List.toList_toArray, List.toList_toArray, List.map_append]
        refine ⟨W.heap.size, G, by simp, hbase, by simp, by simpa using hG, hG2, fun j hj => ?_, fun j hj => ⟨?_, ?_⟩⟩
        · rw [hc, List.getElem?_append_left (by simpa using hj)]
          simp only [List.getElem?_map, List.getElem?_eq_getElem hj]
          simp [rd, List.getD_eq_getElem?_getD, List.getElem?_eq_getElem hj]
        · rw [hc, List.getElem?_eq_getElem (by simp; omega)]; rfl
        · unfold World.frozen?
          simp only [hn]
          simp
def Spare (g cap : Nat) (W : World) : Prop := ∀ j, j < cap → (W.cell? ⟨g, j, none⟩).isSome = true ∧ W.frozen? ⟨g, j, none⟩ = false
theorem Spare.put {g cap : Nat} {W : World} (h : Spare g cap W) (k : Nat) (u : Value) : Spare g cap (W.setCell ⟨g, k, none⟩ u) := fun j hj =>
  ⟨World.isSome_setCells g [u] k W _ (h j hj).1, by rw [World.frozen?_setCell]; exact (h j hj).2⟩
theorem Spare.start (W : World) (s : ByteArray) : Spare W.heap.size (grownCap W s.size 0 5) (Lib.bytesWorld W 5 s) := by
  intro j hj
  have hge := grownCap_ge W s.size 0 5
  have h1 := Lib.bytesWorld_at_new W 5 s
  have hsz : (Lib.bytesCells W 5 s).size = grownCap W s.size 0 5 := by
    unfold Lib.bytesCells
    have e : s.data.size = s.size := rfl
    simp
    omega
  constructor
  · rw [cell_of_row _ _ _ _ _ _ h1, Array.getElem?_eq_getElem (by omega)]; rfl
  · unfold World.frozen?
    simp only [h1]
    simp
    omega
set_option maxHeartbeats 1000000 in
theorem figures_row (a0 : Int) (r : List Int) (w : World) (hG : GL w) (h : round_figures.f a0 = some r) :
    Calls Tryd.prog 35 #[.int .i64 a0] w fun e w' => ∃ v0_ : Value, e = .returned (v0_) ∧ RowS w' w.heap.size v0_ r ∧ Below w.heap.size w w' := by
  unfold round_figures.f at h
  by_cases hb : -9223372036854775808 ≤ a0 ∧ a0 ≤ 9223372036854775807
  · rw [if_pos hb] at h
    obtain rfl := Option.some.inj h
    clear h
    have hsz := numText_size a0 hb.1 hb.2
    have hIt := strconv_Itoa.calls a0 (numText a0) w hG (by unfold strconv_Itoa.f numText; rw [if_pos hb])
    have hlen : (bytesOf (numText a0)).length = (numText a0).size := bytesOf_length _
    clear hb hG
    generalize numText a0 = s at *
    have kc := fun (W : World) => print_bytes (P := Tryd.prog) 9 22 5 Tryd.underlying9 Tryd.underlying22 Tryd.underlying5 s W
    have HSZ := Aside0.mk hsz
    have HLEN := Aside0.mk hlen
    clear hsz hlen
    go_enter Tryd.func35, Tryd.ntmps35
    go_wp2_with (go_at_call 50; refine hIt.mono ?_; rintro e w1 ⟨rfl, hb1⟩; have HB1 := Aside0.mk hb1; clear hb1)
    have H0 := Aside0.mk (MixSt.start w1 s)
    have S0 := Aside0.mk (Spare.start w1 s)
    have HB2 := Aside0.mk (bytes_below HB1.out HB1.out.size 5 s)
    go_loopg [4, 10] s.size (fun gg _ s12 wr => ∃ k : Nat, k ≤ s.size ∧ s.size - k ≤ gg ∧ s12 = .int .i64 k ∧ Aside0 (MixSt w1.heap.size (bytesOf s) k wr ∧ Spare w1.heap.size (grownCap w1 s.size 0 5) wr) ∧ Aside0 (Below w.heap.size w wr))
    case atStart => exact ⟨0, Nat.zero_le _, by omega, rfl, ⟨H0.out, S0.out⟩, HB2⟩
    case round =>
      obtain ⟨k, hk, hg, rfl, HM, HB⟩ := hrel
      have hs21 := HSZ.out
      by_cases hlt : k < s.size
      · have hlt1 := decide_eq_true hlt
        obtain ⟨hcell, hfz⟩ := HM.out.1.2 k (by rw [HLEN.out]; exact hlt)
        rw [if_neg (Nat.lt_irrefl k)] at hcell
        have HP := Aside0.mk (And.intro (HM.out.1.put (by rw [HLEN.out]; exact hlt)) (HM.out.2.put k (.int .u8 (lessB (rd (bytesOf s) k)))))
        generalize hy : rd (bytesOf s) (k : Int) = y at hcell HP
        clear hy
        go_wp2
        go_roundg (s.size - (k + 1))
        case measure => omega
        case rel => exact ⟨k + 1, by omega, by omega, by go_num, HP, ⟨Below.setCell HB.out HB1.out.size _⟩⟩
      · have : k = s.size := by omega
        subst this
        have hlt1 := decide_eq_false hlt
        go_wp2
        go_ret
        obtain ⟨hd, hs⟩ := HM.out
        have hge := grownCap_ge w1 s.size 0 5
        have hle := grownCap_le_maxLen w1 s.size 0 5 (by unfold maxLen; omega)
        unfold maxLen at hle
        have hl2 := HLEN.out
        refine ⟨_, rfl, ⟨w1.heap.size, grownCap w1 s.size 0 5, by rw [List.length_map, hl2]; rfl, HB1.out.size, hd.1, by rw [List.length_map, hl2]; exact hge, by omega, fun j hj => ?_, hs⟩, HB.out⟩
        rw [List.length_map] at hj
        rw [(hd.2 j hj).1, if_pos (by omega)]
        simp [rd, List.getD_eq_getElem?_getD, List.getElem?_eq_getElem hj]
  · rw [if_neg hb] at h
    cases h
end Go.Proofs.YtogfokpmpdclbaaDoor.PZ
