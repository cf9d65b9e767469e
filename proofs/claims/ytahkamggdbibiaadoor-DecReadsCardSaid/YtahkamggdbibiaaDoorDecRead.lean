/- dec.Read: the number that it answers.
   Conditions: the text has at most 2^47 - 4096 bytes. -/
import Derived.Test.YtahkamggdbibiaaDoorDecReadA
import Derived.Deep.RegionHeld3
namespace Go.Proofs.YtahkamggdbibiaaDoor.PZ
open Go.RowKit Go.Proofs.YtahkamggdbibiaaDoorW.PrintWords Go.Proofs.YtahkamggdbibiaaDoorW.PrintLast

def powIs (l : List Int) (s : ByteArray) (a : Nat) : Bool := decide (l.length = 0) || hasB s a 48
def powOk (l : List Int) (s : ByteArray) (a : Nat) : Bool := if powIs l s a then hasB s a 48 else decide (powE s a ≠ 0)
def powEE (l : List Int) (s : ByteArray) (a : Nat) : Int := if powIs l s a then 0 else powE s a
def powAA (l : List Int) (s : ByteArray) (a : Nat) : Nat := if powIs l s a then (if hasB s a 48 then a + 1 else a) else powAt s a
theorem reader_power (ok : Nat → Prop) (w W : World) (neg : Bool) (l : List Int) (s : ByteArray) (a : Nat) (A : Option Addr) (c : Nat) (h : RSt ok w W neg l 0 s a (.slice A l.length c)) (ha : a ≤ s.size) (hs : s.size ≤ 140737488351232) :
    Calls Tryd.prog 27 #[.pointer (some ⟨w.heap.size, 0, none⟩)] W fun en W' => en = .returned (.bool (powOk l s a)) ∧ RSt ok w W' neg l (powEE l s a) s (powAA l s a) (.slice A l.length c) := by
  by_cases h1 : powIs l s a = true
  · unfold powOk powEE powAA
    rw [if_pos h1, if_pos h1, if_pos h1]
    exact reader_power_nought ok w W neg l s a A c h ha hs (by unfold powIs at h1; simpa using h1)
  · unfold powOk powEE powAA
    rw [if_neg h1, if_neg h1, if_neg h1]
    unfold powIs at h1
    simp only [Bool.or_eq_true, decide_eq_true_eq, not_or] at h1
    exact reader_power_some ok w W neg l s a A c h ha hs h1.1 (by simpa using h1.2)

/-- What is read: its side, its figures, and where it goes on; then whether all is well. -/
def rdNeg (s : ByteArray) : Bool := hasB s 0 45
def rdFrom (s : ByteArray) : Nat := if rdNeg s then 1 else 0
def rdD (s : ByteArray) : List Int := numD s (rdFrom s)
def rdFull (s : ByteArray) : Bool := decide ((rdD s).length = 1000) && decide (rd (rdD s) 999 = 0)
def rdAt (s : ByteArray) : Nat := if rdFull s then numAt s (rdFrom s) - 1 else numAt s (rdFrom s)
def rdOk (s : ByteArray) : Bool := numB s (rdFrom s) && (decide ((rdD s).length = 0) || decide (rd (rdD s) ((rdD s).length - 1) ≠ 0))
def rdE (s : ByteArray) : Bool := rdOk s && hasB s (rdAt s) 101
def rdAt2 (s : ByteArray) : Nat := if rdE s then rdAt s + 1 else rdAt s
def rdAll (s : ByteArray) : Bool := rdE s && powOk (rdD s) s (rdAt2 s)
def rdAt3 (s : ByteArray) : Nat := if rdE s then powAA (rdD s) s (rdAt2 s) else rdAt2 s
def rdGood (s : ByteArray) : Bool := rdAll s && decide (¬ rdAt3 s < s.size)
def dec_Read.f (a0 : ByteArray) : Option (Bool × List Int × Int × Int × Int) :=
  if a0.size ≤ 140737488351232 then some (if rdGood a0 then (rdNeg a0, rdD a0, powEE (rdD a0) a0 (rdAt2 a0), 0, 0) else (false, [], 0, (rdAt3 a0 : Int), 2)) else none

theorem RSt.start (w : World) (s : ByteArray) : RSt (fun _ => True) w (w.alloc (.cells #[.bool false, .slice none 0 0, .int .i64 0, .string s, .int .i64 0] 53)) false [] 0 s 0 (.slice none 0 0) :=
  ⟨by simpa using heap_alloc_new w _, Kd.R_nil _ _ _ _ _, (Below.refl _ w).alloc (Nat.le_refl _) _⟩

section
variable {ok : Nat → Prop} {w W : World} {neg : Bool} {l : List Int} {e : Int} {s : ByteArray} {a g : Nat} {v : Value}
theorem RSt.g0 (h : RSt ok w W neg l e s a v) (hg : w.heap.size = g) : W.cell? ⟨g, 0, none⟩ = some (.bool neg) := by subst hg; exact (blk_cell h.1 0).trans rfl
theorem RSt.g1 (h : RSt ok w W neg l e s a v) (hg : w.heap.size = g) : W.cell? ⟨g, 1, none⟩ = some v := by subst hg; exact (blk_cell h.1 1).trans rfl
theorem RSt.g2 (h : RSt ok w W neg l e s a v) (hg : w.heap.size = g) : W.cell? ⟨g, 2, none⟩ = some (.int .i64 e) := by subst hg; exact (blk_cell h.1 2).trans rfl
theorem RSt.g4 (h : RSt ok w W neg l e s a v) (hg : w.heap.size = g) : W.cell? ⟨g, 4, none⟩ = some (.int .i64 a) := by subst hg; exact (blk_cell h.1 4).trans rfl
theorem RSt.gf (h : RSt ok w W neg l e s a v) (hg : w.heap.size = g) (i : Nat) : W.frozen? ⟨g, i, none⟩ = false := by subst hg; exact blk_frozen h.1 i
theorem RSt.gn (h : RSt ok w W neg l e s a v) (hg : w.heap.size = g) (x : Bool) : RSt ok w (W.setCell ⟨g, 0, none⟩ (.bool x)) x l e s a v := by subst hg; exact h.n_ x
theorem RSt.ga (h : RSt ok w W neg l e s a v) (hg : w.heap.size = g) (x : Nat) : RSt ok w (W.setCell ⟨g, 4, none⟩ (.int .i64 (x : Int))) neg l e s x v := by subst hg; exact h.a_ x
end
theorem rdFrom_le (s : ByteArray) : rdFrom s ≤ s.size := by
  unfold rdFrom rdNeg hasB
  split
  · rename_i z; simp at z; omega
  · exact Nat.zero_le _
theorem numAt_le (s : ByteArray) (a : Nat) (h : a ≤ s.size) : numAt s a ≤ s.size := by
  unfold numAt
  split
  · rename_i z; unfold hasB at z; simp at z; omega
  · exact figEnd_le s a 1000 _ a h
theorem rdAt_le (s : ByteArray) : rdAt s ≤ s.size := by
  have := numAt_le s _ (rdFrom_le s)
  unfold rdAt
  split <;> omega
/-! the walk -/
/-- What the reader's four calls do, at one text. -/
structure ReadC (w w0 : World) (a0 : ByteArray) (n0 nb hb po : Bool) (fr p1 p p2 p3 : Nat) (D : List Int) (E : Int) : Prop where
  hg : w0.heap.size = w.heap.size + 1
  hw : w0 = w.alloc (.cells #[.bool false, .slice none 0 0, .int .i64 0] 24)
  start : RSt (fun _ => True) w0 ((w.alloc (.cells #[.bool false, .slice none 0 0, .int .i64 0] 24)).alloc (.cells #[.bool false, .slice none 0 0, .int .i64 0, .string a0, .int .i64 0] 53)) false [] 0 a0 0 (.slice none 0 0)
  c_has : ∀ W, RSt (fun _ => True) w0 W false [] 0 a0 0 (.slice none 0 0) → Calls Tryd.prog 25 #[.pointer (some ⟨w.heap.size + 1, 0, none⟩), .int .u8 45] W fun en W' => en = .returned (.bool n0) ∧ RSt (fun _ => True) w0 W' false [] 0 a0 fr (.slice none 0 0)
  c_num : ∀ W, RSt (fun _ => True) w0 W n0 [] 0 a0 fr (.slice none 0 0) → Calls Tryd.prog 26 #[.pointer (some ⟨w.heap.size + 1, 0, none⟩)] W fun en W' => ∃ v1, en = .returned (.bool nb) ∧ RSt (fun _ => True) w0 W' n0 D 0 a0 p1 v1
  c_e : ∀ W A c, RSt (fun _ => True) w0 W n0 D 0 a0 p (.slice A D.length c) → Calls Tryd.prog 25 #[.pointer (some ⟨w.heap.size + 1, 0, none⟩), .int .u8 101] W fun en W' => en = .returned (.bool hb) ∧ RSt (fun _ => True) w0 W' n0 D 0 a0 p2 (.slice A D.length c)
  c_pow : ∀ W A c, RSt (fun _ => True) w0 W n0 D 0 a0 p2 (.slice A D.length c) → Calls Tryd.prog 27 #[.pointer (some ⟨w.heap.size + 1, 0, none⟩)] W fun en W' => en = .returned (.bool po) ∧ RSt (fun _ => True) w0 W' n0 D E a0 p3 (.slice A D.length c)
theorem ReadC.dec {w w0 : World} {a0 : ByteArray} {n0 nb hb po : Bool} {fr p1 p p2 p3 : Nat} {D : List Int} {E : Int} (C : ReadC w w0 a0 n0 nb hb po fr p1 p p2 p3 D E) {W : World} (h : Below w0.heap.size w0 W) : W.heap[w.heap.size]? = some (.cells #[.bool false, .slice none 0 0, .int .i64 0] 24 (0, 0)) := by
  rw [h.block _ (by rw [C.hg]; omega), C.hw]
  exact heap_alloc_new w _
theorem ReadC.put {w w0 : World} {a0 : ByteArray} {n0 nb hb po : Bool} {fr p1 p p2 p3 : Nat} {D : List Int} {E : Int} (C : ReadC w w0 a0 n0 nb hb po fr p1 p p2 p3 D E) {W : World} (h : Below w0.heap.size w0 W) (k : Nat) (n : Bool) (v : Value) (x : Int) :
    Below w.heap.size w ((((W.drewN k).setCell ⟨w.heap.size, 0, none⟩ (.bool n)).setCell ⟨w.heap.size, 1, none⟩ v).setCell ⟨w.heap.size, 2, none⟩ (.int .i64 x)) ∧
    ((((W.drewN k).setCell ⟨w.heap.size, 0, none⟩ (.bool n)).setCell ⟨w.heap.size, 1, none⟩ v).setCell ⟨w.heap.size, 2, none⟩ (.int .i64 x)).heap[w.heap.size]? = some (.cells #[.bool n, v, .int .i64 x] 24 (0, 0)) := by
  have hW : Below w.heap.size w W := by
    have h1 : Below w.heap.size w w0 := by rw [C.hw]; exact (Below.refl _ w).alloc (Nat.le_refl _) _
    exact h1.trans (h.mono (by rw [C.hg]; omega))
  refine ⟨Below.setCell (Below.setCell (Below.setCell (pw_below_drewN hW k) (Nat.le_refl _) _) (Nat.le_refl _) _) (Nat.le_refl _) _, ?_⟩
  exact blk_put (cs := #[.bool n, v, .int .i64 0]) (blk_put (cs := #[.bool n, .slice none 0 0, .int .i64 0]) (blk_put (cs := #[.bool false, .slice none 0 0, .int .i64 0]) (C.dec (pw_below_drewN h k)) 0 _ rfl) 1 _ rfl) 2 _ rfl
def ReadErr (w : World) (q : Nat) (e : Ending) (w' : World) : Prop := e = .returned (.tuple #[.agg #[.bool false, .slice none 0 0, .int .i64 0], .int .i64 (q : Int), .int .i64 2]) ∧ Below w.heap.size w w'
def ReadFine (w : World) (n0 : Bool) (D : List Int) (E : Int) (e : Ending) (w' : World) : Prop := ∃ v1, e = .returned (.tuple #[.agg #[.bool n0, v1, .int .i64 E], .int .i64 0, .int .i64 0]) ∧ Kd.R (Kd.int .u8) 5 w' w.heap.size (fun _ => True) v1 D ∧ Below w.heap.size w w'
set_option linter.unusedSimpArgs false in
set_option maxHeartbeats 4000000 in
set_option maxRecDepth 100000 in
theorem read_none (w w0 : World) (a0 : ByteArray) (n0 nb hb po : Bool) (fr p1 p p2 p3 : Nat) (D : List Int) (E : Int) (C : ReadC w w0 a0 n0 nb hb po fr p1 p p2 p3 D E) (hD : D = []) (hnb : nb = false) :
    Calls Tryd.prog 11 #[.string a0] w (ReadErr w p1) := by
  subst hD hnb
  go_enter Tryd.func11, Tryd.ntmps11
  go_wp2_with (first
      | (go_at_call 25; refine (C.c_has _ C.start).mono ?_; rintro en w1 ⟨rfl, h1⟩; have H1 := Aside0.mk (h1.gn C.hg n0); have d0 := h1.g0 C.hg; have f0 := h1.gf C.hg 0; clear h1)
      | (go_at_call 26; refine (C.c_num _ H1.out).mono ?_; rintro en w2 ⟨v1, rfl, h2⟩; obtain ⟨A, c, e1⟩ := Kd.R_slice h2.2.1; subst e1; have H2 := Aside0.mk h2; have d1 := h2.g1 C.hg; have d4 := h2.g4 C.hg; clear h2 H1 d0 f0))
  go_quiet (fail)
  go_wp2
  have b0 := C.dec H2.out.2.2
  have e0 : w2.cell? ⟨w.heap.size, 0, none⟩ = some (.bool false) := (blk_cell b0 0).trans rfl
  have e1 : w2.cell? ⟨w.heap.size, 1, none⟩ = some (.slice none 0 0) := (blk_cell b0 1).trans rfl
  have e2 : w2.cell? ⟨w.heap.size, 2, none⟩ = some (.int .i64 0) := (blk_cell b0 2).trans rfl
  have f0 := blk_frozen b0 0
  have f1 := blk_frozen b0 1
  have f2 := blk_frozen b0 2
  go_region
  all_goals (go_wp2; obtain ⟨z1, z2⟩ := C.put H2.out.2.2 (nq + 1) false (.slice none 0 0) 0; exact bodyPost_ret (results_ctt rfl _ _ _ 24 _ (0, 0) _ rfl z2 Tryd.underlying24 rfl (by kernel_rfl)) rfl ⟨rfl, z1⟩)
set_option linter.unusedSimpArgs false in
set_option maxHeartbeats 4000000 in
set_option maxRecDepth 100000 in
theorem read_bad (w w0 : World) (a0 : ByteArray) (n0 nb hb po : Bool) (fr p1 p p2 p3 : Nat) (D : List Int) (E : Int) (C : ReadC w w0 a0 n0 nb hb po fr p1 p p2 p3 D E) (n : Nat) (hbig : n ≤ 140737488351232) (hlen : D.length = n + 1) (last : Int) (hlast : rd D (n : Int) = last) (hz : last = 0) (hnb : nb = true) (hf : n ≠ 999) :
    Calls Tryd.prog 11 #[.string a0] w (ReadErr w p1) := by
  subst hz hnb
  have k8 : wrap64 (n : Int) = (n : Int) := by unfold wrap64; omega
  have hidx : (D.length : Int) - 1 = (n : Int) := by omega
  have k1 : (n < D.length) = True := eq_true (by omega)
  have k2 : decide (n < D.length) = true := decide_eq_true (by omega)
  have k3 : ((n : Int) < (D.length : Int)) = True := eq_true (by omega)
  have k4 : ((D.length : Int) == 0) = false := by simp; intro h; rw [h] at hlen; simp at hlen
  have k5 : (D.length == 0) = false := by simp; intro h; rw [h] at hlen; simp at hlen
  have k6 : ((D.length : Int) == 1000) = false := by simp; omega
  have k7 : (D.length == 1000) = false := by simp; omega
  have HL := Aside0.mk hlen
  have HX := Aside0.mk hlast
  clear hlen hlast hf
  go_enter Tryd.func11, Tryd.ntmps11
  go_wp2_with (first
      | (go_at_call 25; refine (C.c_has _ C.start).mono ?_; rintro en w1 ⟨rfl, h1⟩; have H1 := Aside0.mk (h1.gn C.hg n0); have d0 := h1.g0 C.hg; have f0 := h1.gf C.hg 0; clear h1)
      | (go_at_call 26; refine (C.c_num _ H1.out).mono ?_; rintro en w2 ⟨v1, rfl, h2⟩; obtain ⟨A, c, e1⟩ := Kd.R_slice h2.2.1; subst e1; have hC := (Kd.R_reads' h2.2.1).2.2; obtain ⟨ad, eA, hcell⟩ := Kd.at_int hC (n : Int) (by omega) (by have := HL.out; omega); subst eA; simp only [Int.toNat_natCast] at hcell; rw [HX.out] at hcell; have H2 := Aside0.mk h2; have d1 := h2.g1 C.hg; have d4 := h2.g4 C.hg; have f4 := h2.gf C.hg 4; clear h2 H1 d0 f0 hC))
  go_quiet (fail)
  go_wp2
  have b0 := C.dec H2.out.2.2
  have e0 : w2.cell? ⟨w.heap.size, 0, none⟩ = some (.bool false) := (blk_cell b0 0).trans rfl
  have e1 : w2.cell? ⟨w.heap.size, 1, none⟩ = some (.slice none 0 0) := (blk_cell b0 1).trans rfl
  have e2 : w2.cell? ⟨w.heap.size, 2, none⟩ = some (.int .i64 0) := (blk_cell b0 2).trans rfl
  have f0 := blk_frozen b0 0
  have f1 := blk_frozen b0 1
  have f2 := blk_frozen b0 2
  go_region
  all_goals (go_wp2; obtain ⟨z1, z2⟩ := C.put H2.out.2.2 (nq + 1) false (.slice none 0 0) 0; exact bodyPost_ret (results_ctt rfl _ _ _ 24 _ (0, 0) _ rfl z2 Tryd.underlying24 rfl (by kernel_rfl)) rfl ⟨rfl, z1⟩)
set_option linter.unusedSimpArgs false in
set_option maxHeartbeats 4000000 in
set_option maxRecDepth 100000 in
theorem read_bad_full (w w0 : World) (a0 : ByteArray) (n0 nb hb po : Bool) (fr p1 p p2 p3 : Nat) (D : List Int) (E : Int) (C : ReadC w w0 a0 n0 nb hb po fr p1 p p2 p3 D E) (n : Nat) (hbig : n ≤ 140737488351232) (hlen : D.length = n + 1) (last : Int) (hlast : rd D (n : Int) = last) (hz : last = 0) (hnb : nb = true) (hf : n = 999) (hp : 1 ≤ p1) (hpb : p1 ≤ 140737488351232) :
    Calls Tryd.prog 11 #[.string a0] w (ReadErr w (p1 - 1)) := by
  subst hz hnb
  have k8 : wrap64 (n : Int) = (n : Int) := by unfold wrap64; omega
  have hidx : (D.length : Int) - 1 = (n : Int) := by omega
  have k1 : (n < D.length) = True := eq_true (by omega)
  have k2 : decide (n < D.length) = true := decide_eq_true (by omega)
  have k3 : ((n : Int) < (D.length : Int)) = True := eq_true (by omega)
  have k4 : ((D.length : Int) == 0) = false := by simp; intro h; rw [h] at hlen; simp at hlen
  have k5 : (D.length == 0) = false := by simp; intro h; rw [h] at hlen; simp at hlen
  have k6 : ((D.length : Int) == 1000) = true := by simp; omega
  have k7 : (D.length == 1000) = true := by simp; omega
  have HL := Aside0.mk hlen
  have HX := Aside0.mk hlast
  clear hlen hlast hf
  have hp1 : (p1 : Int) - 1 = ((p1 - 1 : Nat) : Int) := by omega
  have k9 : wrap64 ((p1 - 1 : Nat) : Int) = ((p1 - 1 : Nat) : Int) := by unfold wrap64; omega
  go_enter Tryd.func11, Tryd.ntmps11
  go_wp2_with (first
      | (go_at_call 25; refine (C.c_has _ C.start).mono ?_; rintro en w1 ⟨rfl, h1⟩; have H1 := Aside0.mk (h1.gn C.hg n0); have d0 := h1.g0 C.hg; have f0 := h1.gf C.hg 0; clear h1)
      | (go_at_call 26; refine (C.c_num _ H1.out).mono ?_; rintro en w2 ⟨v1, rfl, h2⟩; obtain ⟨A, c, e1⟩ := Kd.R_slice h2.2.1; subst e1; have hC := (Kd.R_reads' h2.2.1).2.2; obtain ⟨ad, eA, hcell⟩ := Kd.at_int hC (n : Int) (by omega) (by have := HL.out; omega); subst eA; simp only [Int.toNat_natCast] at hcell; rw [HX.out] at hcell; have H2 := Aside0.mk h2; have d1 := h2.g1 C.hg; have d4 := h2.g4 C.hg; have f4 := h2.gf C.hg 4; clear h2 H1 d0 f0 hC))
  have h3 := H2.out.ga C.hg (p1 - 1)
  obtain ⟨W3, hW3⟩ : ∃ W3, W3 = w2.setCell ⟨w.heap.size + 1, 4, none⟩ (.int .i64 ((p1 - 1 : Nat) : Int)) := ⟨_, rfl⟩
  rw [← hW3] at h3
  first | rw [← hW3] | (rw [hp1, ← hW3])
  clear hcell d1 d4 f4 hW3 hp1
  have hC := (Kd.R_reads' h3.2.1).2.2
  obtain ⟨ad2, eA, hcell⟩ := Kd.at_int hC (n : Int) (by omega) (by have := HL.out; omega)
  injection eA with eA
  subst eA
  simp only [Int.toNat_natCast] at hcell
  rw [HX.out] at hcell
  have d1 := h3.g1 C.hg
  have d4 := h3.g4 C.hg
  have H3 := Aside0.mk h3
  clear h3 hC
  go_quiet (fail)
  go_wp2
  have b0 := C.dec H3.out.2.2
  have e0 : W3.cell? ⟨w.heap.size, 0, none⟩ = some (.bool false) := (blk_cell b0 0).trans rfl
  have e1 : W3.cell? ⟨w.heap.size, 1, none⟩ = some (.slice none 0 0) := (blk_cell b0 1).trans rfl
  have e2 : W3.cell? ⟨w.heap.size, 2, none⟩ = some (.int .i64 0) := (blk_cell b0 2).trans rfl
  have f0 := blk_frozen b0 0
  have f1 := blk_frozen b0 1
  have f2 := blk_frozen b0 2
  go_region
  all_goals (go_wp2; obtain ⟨z1, z2⟩ := C.put H3.out.2.2 (nq + 1) false (.slice none 0 0) 0; exact bodyPost_ret (results_ctt rfl _ _ _ 24 _ (0, 0) _ rfl z2 Tryd.underlying24 rfl (by kernel_rfl)) rfl ⟨rfl, z1⟩)
theorem ReadC.row {w w0 : World} {a0 : ByteArray} {n0 nb hb po : Bool} {fr p1 p p2 p3 : Nat} {D : List Int} {E : Int} (C : ReadC w w0 a0 n0 nb hb po fr p1 p p2 p3 D E) {W : World} {l : List Int} {x : Int} {q : Nat} {v : Value} (h : RSt (fun _ => True) w0 W n0 l x a0 q v) (k : Nat) (n : Bool) (u : Value) (y : Int) :
    Kd.R (Kd.int .u8) 5 ((((W.drewN k).setCell ⟨w.heap.size, 0, none⟩ (.bool n)).setCell ⟨w.heap.size, 1, none⟩ u).setCell ⟨w.heap.size, 2, none⟩ (.int .i64 y)) w.heap.size (fun _ => True) v l := by
  have hg := C.hg
  refine Kd.R_lower (Kd.R_mono (Kd.R_far (Kd.R_far (Kd.R_far (Kd.R_drewN (Kd.R_bound h.2.1) k) ?_ _) ?_ _) ?_ _) (fun _ _ => trivial)) (by omega : w.heap.size ≤ w0.heap.size)
  all_goals (rintro k ⟨_, hk, _⟩; show k ≠ w.heap.size; omega)
def ReadEnd (w : World) (n0 po : Bool) (D : List Int) (E : Int) (a0 : ByteArray) (p3 : Nat) (e : Ending) (w' : World) : Prop := if po = true ∧ ¬ p3 < a0.size then ReadFine w n0 D E e w' else ReadErr w p3 e w'
theorem rd_err {w : World} {n0 po : Bool} {D : List Int} {E : Int} {a0 : ByteArray} {p3 : Nat} {e : Ending} {w' : World} (h : ¬ (po = true ∧ ¬ p3 < a0.size)) (k : ReadErr w p3 e w') : ReadEnd w n0 po D E a0 p3 e w' := by
  unfold ReadEnd
  rw [if_neg h]; exact k
theorem rd_fine {w : World} {n0 po : Bool} {D : List Int} {E : Int} {a0 : ByteArray} {p3 : Nat} {e : Ending} {w' : World} (h : po = true ∧ ¬ p3 < a0.size) (k : ReadFine w n0 D E e w') : ReadEnd w n0 po D E a0 p3 e w' := by
  unfold ReadEnd
  rw [if_pos h]; exact k
theorem read_last {ok : Nat → Prop} {W : World} {e : TypeId} {b n c : Nat} {ad : Addr} {D : List Int} {last : Int} (h : Kd.R (Kd.int .u8) e W b ok (.slice (some ad) D.length c) D) (hlen : D.length = n + 1) (hlast : rd D (n : Int) = last) (hbig : n ≤ 140737488351232) : W.cell? (ad.add n) = some (.int .u8 last) := by
  obtain ⟨ad2, eA, hcell⟩ := Kd.at_int (Kd.R_reads' h).2.2 (n : Int) (by omega) (by omega)
  injection eA with eA
  subst eA
  simp only [Int.toNat_natCast] at hcell
  rw [hlast] at hcell
  exact hcell
set_option linter.unusedSimpArgs false in
set_option maxHeartbeats 4000000 in
set_option maxRecDepth 100000 in
theorem read_noe_nil (w w0 : World) (a0 : ByteArray) (n0 nb hb po : Bool) (fr p1 p p2 p3 : Nat) (D : List Int) (E : Int) (C : ReadC w w0 a0 n0 nb hb po fr p1 p p2 p3 D E) (hlen : D.length = 0) (hnb : nb = true) (hp : p = p1) (hhb : hb = false) :
    Calls Tryd.prog 11 #[.string a0] w (ReadErr w p2) := by
  subst hnb hp hhb
  have k4 : ((D.length : Int) == 0) = true := by simp [hlen]
  have k5 : (D.length == 0) = true := by simp [hlen]
  have k6 : ((D.length : Int) == 1000) = false := by simp [hlen]
  have k7 : (D.length == 1000) = false := by simp [hlen]
  clear hlen
  go_enter Tryd.func11, Tryd.ntmps11
  go_wp2_with (first
      | (go_at_call 25; refine (C.c_has _ C.start).mono ?_; rintro en w1 ⟨rfl, h1⟩; have H1 := Aside0.mk (h1.gn C.hg n0); have d0 := h1.g0 C.hg; have f0 := h1.gf C.hg 0; clear h1)
      | (go_at_call 26; refine (C.c_num _ H1.out).mono ?_; rintro en w2 ⟨v1, rfl, h2⟩; obtain ⟨A, c, e1⟩ := Kd.R_slice h2.2.1; subst e1; have H2 := Aside0.mk h2; have d1 := h2.g1 C.hg; have d4 := h2.g4 C.hg; clear h2 H1 d0 f0))
  have hr := H2.out.drew_ 1
  have HD := Aside0.mk hr
  clear hr
  refine start_ (n := 36) (S := fun w' => w'.cell? ⟨w.heap.size + 1, 1, none⟩ = some (.slice A D.length c)) (ds := []) #[false, false, false, false, false, false, false, false, false, false, false, false, false, false, false, false, false, false, false, false, false, false, false, false, false, false, false, false, false, false, false, false, false, false, false, false] (by kernel_rfl) rfl rfl ((HD.out.g1 C.hg)) (fun hHeld => ?_)
  refine pure_ (i := 0) (N := some 46) (v := ?_) (a' := ?_) #[true, false, false, false, false, false, false, false, false, false, false, false, false, false, false, false, false, false, false, false, false, false, false, false, false, false, false, false, false, false, false, false, false, false, false, false] rfl rfl (by kernel_rfl) (fun _ _ _ h => h) (Or.inl ⟨by rfl, ?_⟩) ?_ ?_
  rotate_left
  · intro w'
    go_simp
    with_reducible rfl
  rotate_left
  · simp only [Act.put, List.setIfInBounds_toArray, List.set_cons_zero, List.set_cons_succ, i64_w, i32_w]
    rfl
  refine pure_ (i := 1) (N := some 47) (v := ?_) (a' := ?_) #[true, true, false, false, false, false, false, false, false, false, false, false, false, false, false, false, false, false, false, false, false, false, false, false, false, false, false, false, false, false, false, false, false, false, false, false] rfl rfl (by kernel_rfl) (fun _ _ _ h => h) (Or.inl ⟨by rfl, ?_⟩) ?_ ?_
  rotate_left
  · intro w'
    go_simp
    with_reducible rfl
  rotate_left
  · simp only [Act.put, List.setIfInBounds_toArray, List.set_cons_zero, List.set_cons_succ, i64_w, i32_w]
    rfl
  refine pure_ (i := 2) (N := some 48) (v := ?_) (a' := ?_) #[true, true, true, false, false, false, false, false, false, false, false, false, false, false, false, false, false, false, false, false, false, false, false, false, false, false, false, false, false, false, false, false, false, false, false, false] rfl rfl (by kernel_rfl) (fun _ _ _ h => h) (Or.inl ⟨by rfl, ?_⟩) ?_ ?_
  rotate_left
  · intro w'
    go_simp
    with_reducible rfl
  rotate_left
  · simp only [Act.put, List.setIfInBounds_toArray, List.set_cons_zero, List.set_cons_succ, i64_w, i32_w]
    rfl
  refine pure_ (i := 3) (N := some 49) (v := ?_) (a' := ?_) #[true, true, true, true, false, false, false, false, false, false, false, false, false, false, false, false, false, false, false, false, false, false, false, false, false, false, false, false, false, false, false, false, false, false, false, false] rfl rfl (by kernel_rfl) (fun _ _ _ h => h) (Or.inl ⟨by rfl, ?_⟩) ?_ ?_
  rotate_left
  · intro w'
    go_simp
    with_reducible rfl
  rotate_left
  · simp only [Act.put, List.setIfInBounds_toArray, List.set_cons_zero, List.set_cons_succ, i64_w, i32_w]
    rfl
  refine pure_ (i := 4) (N := some 50) (v := ?_) (a' := ?_) #[true, true, true, true, true, false, false, false, false, false, false, false, false, false, false, false, false, false, false, false, false, false, false, false, false, false, false, false, false, false, false, false, false, false, false, false] rfl rfl (by kernel_rfl) (fun _ _ _ h => h) (Or.inl ⟨by rfl, ?_⟩) ?_ ?_
  rotate_left
  · intro w'
    go_simp
    with_reducible rfl
  rotate_left
  · simp only [Act.put, List.setIfInBounds_toArray, List.set_cons_zero, List.set_cons_succ, i64_w, i32_w]
    rfl
  refine pure_ (i := 5) (N := some 51) (v := ?_) (a' := ?_) #[true, true, true, true, true, true, false, false, false, false, false, false, false, false, false, false, false, false, false, false, false, false, false, false, false, false, false, false, false, false, false, false, false, false, false, false] rfl rfl (by kernel_rfl) (fun _ _ _ h => h) (Or.inl ⟨by rfl, ?_⟩) ?_ ?_
  rotate_left
  · intro w'
    go_simp
    with_reducible rfl
  rotate_left
  · simp only [Act.put, List.setIfInBounds_toArray, List.set_cons_zero, List.set_cons_succ, i64_w, i32_w]
    rfl
  refine take_ (i := 6) (N := some 52) (v := ?_) (a' := ?_) #[true, true, true, true, true, true, true, false, false, false, false, false, false, false, false, false, false, false, false, false, false, false, false, false, false, false, false, false, false, false, false, false, false, false, false, false] rfl rfl (by kernel_rfl) (fun _ _ _ h => h) (Or.inl ⟨by rfl, ?_⟩) hHeld ?_ ?_
  rotate_left
  · intro w' s0
    go_simp
    with_reducible rfl
  rotate_left
  · simp only [Act.put, List.setIfInBounds_toArray, List.set_cons_zero, List.set_cons_succ, i64_w, i32_w]
    rfl
  refine pure_ (i := 7) (N := some 53) (v := ?_) (a' := ?_) #[true, true, true, true, true, true, true, true, false, false, false, false, false, false, false, false, false, false, false, false, false, false, false, false, false, false, false, false, false, false, false, false, false, false, false, false] rfl rfl (by kernel_rfl) (fun _ _ _ h => h) (Or.inl ⟨by rfl, ?_⟩) ?_ ?_
  rotate_left
  · intro w'
    go_simp
    with_reducible rfl
  rotate_left
  · simp only [Act.put, List.setIfInBounds_toArray, List.set_cons_zero, List.set_cons_succ, i64_w, i32_w]
    rfl
  refine pure_ (i := 8) (N := some 54) (v := ?_) (a' := ?_) #[true, true, true, true, true, true, true, true, true, false, false, false, false, false, false, false, false, false, false, false, false, false, false, false, false, false, false, false, false, false, false, false, false, false, false, false] rfl rfl (by kernel_rfl) (fun _ _ _ h => h) (Or.inl ⟨by rfl, ?_⟩) ?_ ?_
  rotate_left
  · intro w'
    go_simp
    with_reducible rfl
  rotate_left
  · simp only [Act.put, List.setIfInBounds_toArray, List.set_cons_zero, List.set_cons_succ, i64_w, i32_w]
    rfl
  refine pure_ (i := 9) (N := some 55) (v := ?_) (a' := ?_) #[true, true, true, true, true, true, true, true, true, true, false, false, false, false, false, false, false, false, false, false, false, false, false, false, false, false, false, false, false, false, false, false, false, false, false, false] rfl rfl (by kernel_rfl) (fun _ _ _ h => h) (Or.inl ⟨by rfl, ?_⟩) ?_ ?_
  rotate_left
  · intro w'
    go_simp
    with_reducible rfl
  rotate_left
  · simp only [Act.put, List.setIfInBounds_toArray, List.set_cons_zero, List.set_cons_succ, i64_w, i32_w]
    rfl
  refine pure_ (i := 10) (N := some 56) (v := undef) (a' := ?_) #[true, true, true, true, true, true, true, true, true, true, true, false, false, false, false, false, false, false, false, false, false, false, false, false, false, false, false, false, false, false, false, false, false, false, false, false] rfl rfl (by kernel_rfl) (fun _ _ _ h => h) (Or.inr ⟨by rfl, rfl⟩) ?_ ?_
  rotate_left
  · simp only [Act.put, List.setIfInBounds_toArray, List.set_cons_zero, List.set_cons_succ, i64_w, i32_w]
    rfl
  refine pure_ (i := 11) (N := some 57) (v := undef) (a' := ?_) #[true, true, true, true, true, true, true, true, true, true, true, true, false, false, false, false, false, false, false, false, false, false, false, false, false, false, false, false, false, false, false, false, false, false, false, false] rfl rfl (by kernel_rfl) (fun _ _ _ h => h) (Or.inr ⟨by rfl, rfl⟩) ?_ ?_
  rotate_left
  · simp only [Act.put, List.setIfInBounds_toArray, List.set_cons_zero, List.set_cons_succ, i64_w, i32_w]
    rfl
  refine pure_ (i := 12) (N := some 58) (v := undef) (a' := ?_) #[true, true, true, true, true, true, true, true, true, true, true, true, true, false, false, false, false, false, false, false, false, false, false, false, false, false, false, false, false, false, false, false, false, false, false, false] rfl rfl (by kernel_rfl) (fun _ _ _ h => h) (Or.inr ⟨by rfl, rfl⟩) ?_ ?_
  rotate_left
  · simp only [Act.put, List.setIfInBounds_toArray, List.set_cons_zero, List.set_cons_succ, i64_w, i32_w]
    rfl
  refine pure_ (i := 13) (N := some 59) (v := undef) (a' := ?_) #[true, true, true, true, true, true, true, true, true, true, true, true, true, true, false, false, false, false, false, false, false, false, false, false, false, false, false, false, false, false, false, false, false, false, false, false] rfl rfl (by kernel_rfl) (fun _ _ _ h => h) (Or.inr ⟨by rfl, rfl⟩) ?_ ?_
  rotate_left
  · simp only [Act.put, List.setIfInBounds_toArray, List.set_cons_zero, List.set_cons_succ, i64_w, i32_w]
    rfl
  refine pure_ (i := 14) (N := some 60) (v := undef) (a' := ?_) #[true, true, true, true, true, true, true, true, true, true, true, true, true, true, true, false, false, false, false, false, false, false, false, false, false, false, false, false, false, false, false, false, false, false, false, false] rfl rfl (by kernel_rfl) (fun _ _ _ h => h) (Or.inr ⟨by rfl, rfl⟩) ?_ ?_
  rotate_left
  · simp only [Act.put, List.setIfInBounds_toArray, List.set_cons_zero, List.set_cons_succ, i64_w, i32_w]
    rfl
  refine pure_ (i := 15) (N := some 61) (v := undef) (a' := ?_) #[true, true, true, true, true, true, true, true, true, true, true, true, true, true, true, true, false, false, false, false, false, false, false, false, false, false, false, false, false, false, false, false, false, false, false, false] rfl rfl (by kernel_rfl) (fun _ _ _ h => h) (Or.inr ⟨by rfl, rfl⟩) ?_ ?_
  rotate_left
  · simp only [Act.put, List.setIfInBounds_toArray, List.set_cons_zero, List.set_cons_succ, i64_w, i32_w]
    rfl
  refine pure_ (i := 16) (N := some 62) (v := undef) (a' := ?_) #[true, true, true, true, true, true, true, true, true, true, true, true, true, true, true, true, true, false, false, false, false, false, false, false, false, false, false, false, false, false, false, false, false, false, false, false] rfl rfl (by kernel_rfl) (fun _ _ _ h => h) (Or.inr ⟨by rfl, rfl⟩) ?_ ?_
  rotate_left
  · simp only [Act.put, List.setIfInBounds_toArray, List.set_cons_zero, List.set_cons_succ, i64_w, i32_w]
    rfl
  refine pure_ (i := 17) (N := some 63) (v := undef) (a' := ?_) #[true, true, true, true, true, true, true, true, true, true, true, true, true, true, true, true, true, true, false, false, false, false, false, false, false, false, false, false, false, false, false, false, false, false, false, false] rfl rfl (by kernel_rfl) (fun _ _ _ h => h) (Or.inr ⟨by rfl, rfl⟩) ?_ ?_
  rotate_left
  · simp only [Act.put, List.setIfInBounds_toArray, List.set_cons_zero, List.set_cons_succ, i64_w, i32_w]
    rfl
  refine pure_ (i := 18) (N := some 64) (v := undef) (a' := ?_) #[true, true, true, true, true, true, true, true, true, true, true, true, true, true, true, true, true, true, true, false, false, false, false, false, false, false, false, false, false, false, false, false, false, false, false, false] rfl rfl (by kernel_rfl) (fun _ _ _ h => h) (Or.inr ⟨by rfl, rfl⟩) ?_ ?_
  rotate_left
  · simp only [Act.put, List.setIfInBounds_toArray, List.set_cons_zero, List.set_cons_succ, i64_w, i32_w]
    rfl
  refine pure_ (i := 19) (N := some 65) (v := undef) (a' := ?_) #[true, true, true, true, true, true, true, true, true, true, true, true, true, true, true, true, true, true, true, true, false, false, false, false, false, false, false, false, false, false, false, false, false, false, false, false] rfl rfl (by kernel_rfl) (fun _ _ _ h => h) (Or.inr ⟨by rfl, rfl⟩) ?_ ?_
  rotate_left
  · simp only [Act.put, List.setIfInBounds_toArray, List.set_cons_zero, List.set_cons_succ, i64_w, i32_w]
    rfl
  refine pure_ (i := 20) (N := some 66) (v := undef) (a' := ?_) #[true, true, true, true, true, true, true, true, true, true, true, true, true, true, true, true, true, true, true, true, true, false, false, false, false, false, false, false, false, false, false, false, false, false, false, false] rfl rfl (by kernel_rfl) (fun _ _ _ h => h) (Or.inr ⟨by rfl, rfl⟩) ?_ ?_
  rotate_left
  · simp only [Act.put, List.setIfInBounds_toArray, List.set_cons_zero, List.set_cons_succ, i64_w, i32_w]
    rfl
  refine pure_ (i := 21) (N := some 67) (v := undef) (a' := ?_) #[true, true, true, true, true, true, true, true, true, true, true, true, true, true, true, true, true, true, true, true, true, true, false, false, false, false, false, false, false, false, false, false, false, false, false, false] rfl rfl (by kernel_rfl) (fun _ _ _ h => h) (Or.inr ⟨by rfl, rfl⟩) ?_ ?_
  rotate_left
  · simp only [Act.put, List.setIfInBounds_toArray, List.set_cons_zero, List.set_cons_succ, i64_w, i32_w]
    rfl
  refine pure_ (i := 22) (N := some 68) (v := undef) (a' := ?_) #[true, true, true, true, true, true, true, true, true, true, true, true, true, true, true, true, true, true, true, true, true, true, true, false, false, false, false, false, false, false, false, false, false, false, false, false] rfl rfl (by kernel_rfl) (fun _ _ _ h => h) (Or.inr ⟨by rfl, rfl⟩) ?_ ?_
  rotate_left
  · simp only [Act.put, List.setIfInBounds_toArray, List.set_cons_zero, List.set_cons_succ, i64_w, i32_w]
    rfl
  refine pure_ (i := 23) (N := some 69) (v := undef) (a' := ?_) #[true, true, true, true, true, true, true, true, true, true, true, true, true, true, true, true, true, true, true, true, true, true, true, true, false, false, false, false, false, false, false, false, false, false, false, false] rfl rfl (by kernel_rfl) (fun _ _ _ h => h) (Or.inr ⟨by rfl, rfl⟩) ?_ ?_
  rotate_left
  · simp only [Act.put, List.setIfInBounds_toArray, List.set_cons_zero, List.set_cons_succ, i64_w, i32_w]
    rfl
  refine pure_ (i := 24) (N := some 70) (v := undef) (a' := ?_) #[true, true, true, true, true, true, true, true, true, true, true, true, true, true, true, true, true, true, true, true, true, true, true, true, true, false, false, false, false, false, false, false, false, false, false, false] rfl rfl (by kernel_rfl) (fun _ _ _ h => h) (Or.inr ⟨by rfl, rfl⟩) ?_ ?_
  rotate_left
  · simp only [Act.put, List.setIfInBounds_toArray, List.set_cons_zero, List.set_cons_succ, i64_w, i32_w]
    rfl
  refine pure_ (i := 25) (N := some 71) (v := ?_) (a' := ?_) #[true, true, true, true, true, true, true, true, true, true, true, true, true, true, true, true, true, true, true, true, true, true, true, true, true, true, false, false, false, false, false, false, false, false, false, false] rfl rfl (by kernel_rfl) (fun _ _ _ h => h) (Or.inl ⟨by rfl, ?_⟩) ?_ ?_
  rotate_left
  · intro w'
    go_simp
    with_reducible rfl
  rotate_left
  · simp only [Act.put, List.setIfInBounds_toArray, List.set_cons_zero, List.set_cons_succ, i64_w, i32_w]
    rfl
  refine pure_ (i := 26) (N := some 72) (v := ?_) (a' := ?_) #[true, true, true, true, true, true, true, true, true, true, true, true, true, true, true, true, true, true, true, true, true, true, true, true, true, true, true, false, false, false, false, false, false, false, false, false] rfl rfl (by kernel_rfl) (fun _ _ _ h => h) (Or.inl ⟨by rfl, ?_⟩) ?_ ?_
  rotate_left
  · intro w'
    go_simp
    with_reducible rfl
  rotate_left
  · simp only [Act.put, List.setIfInBounds_toArray, List.set_cons_zero, List.set_cons_succ, i64_w, i32_w]
    rfl
  refine pure_ (i := 27) (N := some 73) (v := ?_) (a' := ?_) #[true, true, true, true, true, true, true, true, true, true, true, true, true, true, true, true, true, true, true, true, true, true, true, true, true, true, true, true, false, false, false, false, false, false, false, false] rfl rfl (by kernel_rfl) (fun _ _ _ h => h) (Or.inl ⟨by rfl, ?_⟩) ?_ ?_
  rotate_left
  · intro w'
    go_simp
    with_reducible rfl
  rotate_left
  · simp only [Act.put, List.setIfInBounds_toArray, List.set_cons_zero, List.set_cons_succ, i64_w, i32_w]
    rfl
  refine pure_ (i := 28) (N := some 74) (v := ?_) (a' := ?_) #[true, true, true, true, true, true, true, true, true, true, true, true, true, true, true, true, true, true, true, true, true, true, true, true, true, true, true, true, true, false, false, false, false, false, false, false] rfl rfl (by kernel_rfl) (fun _ _ _ h => h) (Or.inl ⟨by rfl, ?_⟩) ?_ ?_
  rotate_left
  · intro w'
    go_simp
    with_reducible rfl
  rotate_left
  · simp only [Act.put, List.setIfInBounds_toArray, List.set_cons_zero, List.set_cons_succ, i64_w, i32_w]
    rfl
  refine one_ (i := 29) (N := some 75) #[true, true, true, true, true, true, true, true, true, true, true, true, true, true, true, true, true, true, true, true, true, true, true, true, true, true, true, true, true, true, false, false, false, false, false, false] rfl rfl (by kernel_rfl) (by decide) (fun K hK => ?_)
  refine goes_ Tryd.func25 (by kernel_rfl) rfl #[.pointer (some ⟨w.heap.size + 1, 0, none⟩), .int .u8 101] (by rfl) rfl rfl (by (try simp only [List.map_toArray, List.map_cons, List.map_nil]); first | done | rfl) ?_
  refine (C.c_e _ A c HD.out).mono ?_
  rintro en w3 ⟨rfl, h3⟩
  refine ⟨_, rfl, ?_⟩
  have H4 := Aside0.mk h3
  clear h3
  refine hK.out _ _ ((H4.out.g1 C.hg)) (fun hHeld => ?_)
  clear hK K
  refine norm_ (a' := ?_) ?_ ?_
  rotate_left
  · show Act.put _ (some 75) _ = _
    simp only [Act.put, List.setIfInBounds_toArray, List.set_cons_zero, List.set_cons_succ, i64_w, i32_w]
    rfl
  refine pure_ (i := 30) (N := some 76) (v := ?_) (a' := ?_) #[true, true, true, true, true, true, true, true, true, true, true, true, true, true, true, true, true, true, true, true, true, true, true, true, true, true, true, true, true, true, true, false, false, false, false, false] rfl rfl (by kernel_rfl) (fun _ _ _ h => h) (Or.inl ⟨by rfl, ?_⟩) ?_ ?_
  rotate_left
  · intro w'
    go_simp
    with_reducible rfl
  rotate_left
  · simp only [Act.put, List.setIfInBounds_toArray, List.set_cons_zero, List.set_cons_succ, i64_w, i32_w]
    rfl
  refine pure_ (i := 31) (N := some 77) (v := ?_) (a' := ?_) #[true, true, true, true, true, true, true, true, true, true, true, true, true, true, true, true, true, true, true, true, true, true, true, true, true, true, true, true, true, true, true, true, false, false, false, false] rfl rfl (by kernel_rfl) (fun _ _ _ h => h) (Or.inl ⟨by rfl, ?_⟩) ?_ ?_
  rotate_left
  · intro w'
    go_simp
    with_reducible rfl
  rotate_left
  · simp only [Act.put, List.setIfInBounds_toArray, List.set_cons_zero, List.set_cons_succ, i64_w, i32_w]
    rfl
  refine pure_ (i := 32) (N := some 78) (v := undef) (a' := ?_) #[true, true, true, true, true, true, true, true, true, true, true, true, true, true, true, true, true, true, true, true, true, true, true, true, true, true, true, true, true, true, true, true, true, false, false, false] rfl rfl (by kernel_rfl) (fun _ _ _ h => h) (Or.inr ⟨by rfl, rfl⟩) ?_ ?_
  rotate_left
  · simp only [Act.put, List.setIfInBounds_toArray, List.set_cons_zero, List.set_cons_succ, i64_w, i32_w]
    rfl
  refine pure_ (i := 33) (N := some 79) (v := undef) (a' := ?_) #[true, true, true, true, true, true, true, true, true, true, true, true, true, true, true, true, true, true, true, true, true, true, true, true, true, true, true, true, true, true, true, true, true, true, false, false] rfl rfl (by kernel_rfl) (fun _ _ _ h => h) (Or.inr ⟨by rfl, rfl⟩) ?_ ?_
  rotate_left
  · simp only [Act.put, List.setIfInBounds_toArray, List.set_cons_zero, List.set_cons_succ, i64_w, i32_w]
    rfl
  refine pure_ (i := 34) (N := some 80) (v := ?_) (a' := ?_) #[true, true, true, true, true, true, true, true, true, true, true, true, true, true, true, true, true, true, true, true, true, true, true, true, true, true, true, true, true, true, true, true, true, true, true, false] rfl rfl (by kernel_rfl) (fun _ _ _ h => h) (Or.inl ⟨by rfl, ?_⟩) ?_ ?_
  rotate_left
  · intro w'
    go_simp
    with_reducible rfl
  rotate_left
  · simp only [Act.put, List.setIfInBounds_toArray, List.set_cons_zero, List.set_cons_succ, i64_w, i32_w]
    rfl
  refine pure_ (i := 35) (N := some 6) (v := ?_) (a' := ?_) #[true, true, true, true, true, true, true, true, true, true, true, true, true, true, true, true, true, true, true, true, true, true, true, true, true, true, true, true, true, true, true, true, true, true, true, true] rfl rfl (by kernel_rfl) (fun _ _ _ h => h) (Or.inl ⟨by rfl, ?_⟩) ?_ ?_
  rotate_left
  · intro w'
    go_simp
    with_reducible rfl
  rotate_left
  · simp only [Act.put, List.setIfInBounds_toArray, List.set_cons_zero, List.set_cons_succ, i64_w, i32_w]
    rfl
  refine done_ (by kernel_rfl) ?_
  clear HD
  have d4 := H4.out.g4 C.hg
  go_wp2
  have b0 := C.dec H4.out.2.2
  have e0 : w3.cell? ⟨w.heap.size, 0, none⟩ = some (.bool false) := (blk_cell b0 0).trans rfl
  have e1 : w3.cell? ⟨w.heap.size, 1, none⟩ = some (.slice none 0 0) := (blk_cell b0 1).trans rfl
  have e2 : w3.cell? ⟨w.heap.size, 2, none⟩ = some (.int .i64 0) := (blk_cell b0 2).trans rfl
  have f0 := blk_frozen b0 0
  have f1 := blk_frozen b0 1
  have f2 := blk_frozen b0 2
  go_region
  all_goals (go_wp2; obtain ⟨z1, z2⟩ := C.put H4.out.2.2 1 false (.slice none 0 0) 0; exact bodyPost_ret (results_ctt rfl _ _ _ 24 _ (0, 0) _ rfl z2 Tryd.underlying24 rfl (by kernel_rfl)) rfl ⟨rfl, z1⟩)
set_option linter.unusedSimpArgs false in
set_option maxHeartbeats 4000000 in
set_option maxRecDepth 100000 in
theorem read_e_nil (w w0 : World) (a0 : ByteArray) (n0 nb hb po : Bool) (fr p1 p p2 p3 : Nat) (D : List Int) (E : Int) (C : ReadC w w0 a0 n0 nb hb po fr p1 p p2 p3 D E) (hlen : D.length = 0) (hnb : nb = true) (hp : p = p1) (hhb : hb = true) :
    Calls Tryd.prog 11 #[.string a0] w (ReadEnd w n0 po D E a0 p3) := by
  subst hnb hp hhb
  have k4 : ((D.length : Int) == 0) = true := by simp [hlen]
  have k5 : (D.length == 0) = true := by simp [hlen]
  have k6 : ((D.length : Int) == 1000) = false := by simp [hlen]
  have k7 : (D.length == 1000) = false := by simp [hlen]
  clear hlen
  go_enter Tryd.func11, Tryd.ntmps11
  go_wp2_with (first
      | (go_at_call 25; refine (C.c_has _ C.start).mono ?_; rintro en w1 ⟨rfl, h1⟩; have H1 := Aside0.mk (h1.gn C.hg n0); have d0 := h1.g0 C.hg; have f0 := h1.gf C.hg 0; clear h1)
      | (go_at_call 26; refine (C.c_num _ H1.out).mono ?_; rintro en w2 ⟨v1, rfl, h2⟩; obtain ⟨A, c, e1⟩ := Kd.R_slice h2.2.1; subst e1; have H2 := Aside0.mk h2; have d1 := h2.g1 C.hg; have d4 := h2.g4 C.hg; clear h2 H1 d0 f0))
  have hr := H2.out.drew_ 1
  have HD := Aside0.mk hr
  clear hr
  refine start_ (n := 36) (S := fun w' => w'.cell? ⟨w.heap.size + 1, 1, none⟩ = some (.slice A D.length c)) (ds := []) #[false, false, false, false, false, false, false, false, false, false, false, false, false, false, false, false, false, false, false, false, false, false, false, false, false, false, false, false, false, false, false, false, false, false, false, false] (by kernel_rfl) rfl rfl ((HD.out.g1 C.hg)) (fun hHeld => ?_)
  refine pure_ (i := 0) (N := some 46) (v := ?_) (a' := ?_) #[true, false, false, false, false, false, false, false, false, false, false, false, false, false, false, false, false, false, false, false, false, false, false, false, false, false, false, false, false, false, false, false, false, false, false, false] rfl rfl (by kernel_rfl) (fun _ _ _ h => h) (Or.inl ⟨by rfl, ?_⟩) ?_ ?_
  rotate_left
  · intro w'
    go_simp
    with_reducible rfl
  rotate_left
  · simp only [Act.put, List.setIfInBounds_toArray, List.set_cons_zero, List.set_cons_succ, i64_w, i32_w]
    rfl
  refine pure_ (i := 1) (N := some 47) (v := ?_) (a' := ?_) #[true, true, false, false, false, false, false, false, false, false, false, false, false, false, false, false, false, false, false, false, false, false, false, false, false, false, false, false, false, false, false, false, false, false, false, false] rfl rfl (by kernel_rfl) (fun _ _ _ h => h) (Or.inl ⟨by rfl, ?_⟩) ?_ ?_
  rotate_left
  · intro w'
    go_simp
    with_reducible rfl
  rotate_left
  · simp only [Act.put, List.setIfInBounds_toArray, List.set_cons_zero, List.set_cons_succ, i64_w, i32_w]
    rfl
  refine pure_ (i := 2) (N := some 48) (v := ?_) (a' := ?_) #[true, true, true, false, false, false, false, false, false, false, false, false, false, false, false, false, false, false, false, false, false, false, false, false, false, false, false, false, false, false, false, false, false, false, false, false] rfl rfl (by kernel_rfl) (fun _ _ _ h => h) (Or.inl ⟨by rfl, ?_⟩) ?_ ?_
  rotate_left
  · intro w'
    go_simp
    with_reducible rfl
  rotate_left
  · simp only [Act.put, List.setIfInBounds_toArray, List.set_cons_zero, List.set_cons_succ, i64_w, i32_w]
    rfl
  refine pure_ (i := 3) (N := some 49) (v := ?_) (a' := ?_) #[true, true, true, true, false, false, false, false, false, false, false, false, false, false, false, false, false, false, false, false, false, false, false, false, false, false, false, false, false, false, false, false, false, false, false, false] rfl rfl (by kernel_rfl) (fun _ _ _ h => h) (Or.inl ⟨by rfl, ?_⟩) ?_ ?_
  rotate_left
  · intro w'
    go_simp
    with_reducible rfl
  rotate_left
  · simp only [Act.put, List.setIfInBounds_toArray, List.set_cons_zero, List.set_cons_succ, i64_w, i32_w]
    rfl
  refine pure_ (i := 4) (N := some 50) (v := ?_) (a' := ?_) #[true, true, true, true, true, false, false, false, false, false, false, false, false, false, false, false, false, false, false, false, false, false, false, false, false, false, false, false, false, false, false, false, false, false, false, false] rfl rfl (by kernel_rfl) (fun _ _ _ h => h) (Or.inl ⟨by rfl, ?_⟩) ?_ ?_
  rotate_left
  · intro w'
    go_simp
    with_reducible rfl
  rotate_left
  · simp only [Act.put, List.setIfInBounds_toArray, List.set_cons_zero, List.set_cons_succ, i64_w, i32_w]
    rfl
  refine pure_ (i := 5) (N := some 51) (v := ?_) (a' := ?_) #[true, true, true, true, true, true, false, false, false, false, false, false, false, false, false, false, false, false, false, false, false, false, false, false, false, false, false, false, false, false, false, false, false, false, false, false] rfl rfl (by kernel_rfl) (fun _ _ _ h => h) (Or.inl ⟨by rfl, ?_⟩) ?_ ?_
  rotate_left
  · intro w'
    go_simp
    with_reducible rfl
  rotate_left
  · simp only [Act.put, List.setIfInBounds_toArray, List.set_cons_zero, List.set_cons_succ, i64_w, i32_w]
    rfl
  refine take_ (i := 6) (N := some 52) (v := ?_) (a' := ?_) #[true, true, true, true, true, true, true, false, false, false, false, false, false, false, false, false, false, false, false, false, false, false, false, false, false, false, false, false, false, false, false, false, false, false, false, false] rfl rfl (by kernel_rfl) (fun _ _ _ h => h) (Or.inl ⟨by rfl, ?_⟩) hHeld ?_ ?_
  rotate_left
  · intro w' s0
    go_simp
    with_reducible rfl
  rotate_left
  · simp only [Act.put, List.setIfInBounds_toArray, List.set_cons_zero, List.set_cons_succ, i64_w, i32_w]
    rfl
  refine pure_ (i := 7) (N := some 53) (v := ?_) (a' := ?_) #[true, true, true, true, true, true, true, true, false, false, false, false, false, false, false, false, false, false, false, false, false, false, false, false, false, false, false, false, false, false, false, false, false, false, false, false] rfl rfl (by kernel_rfl) (fun _ _ _ h => h) (Or.inl ⟨by rfl, ?_⟩) ?_ ?_
  rotate_left
  · intro w'
    go_simp
    with_reducible rfl
  rotate_left
  · simp only [Act.put, List.setIfInBounds_toArray, List.set_cons_zero, List.set_cons_succ, i64_w, i32_w]
    rfl
  refine pure_ (i := 8) (N := some 54) (v := ?_) (a' := ?_) #[true, true, true, true, true, true, true, true, true, false, false, false, false, false, false, false, false, false, false, false, false, false, false, false, false, false, false, false, false, false, false, false, false, false, false, false] rfl rfl (by kernel_rfl) (fun _ _ _ h => h) (Or.inl ⟨by rfl, ?_⟩) ?_ ?_
  rotate_left
  · intro w'
    go_simp
    with_reducible rfl
  rotate_left
  · simp only [Act.put, List.setIfInBounds_toArray, List.set_cons_zero, List.set_cons_succ, i64_w, i32_w]
    rfl
  refine pure_ (i := 9) (N := some 55) (v := ?_) (a' := ?_) #[true, true, true, true, true, true, true, true, true, true, false, false, false, false, false, false, false, false, false, false, false, false, false, false, false, false, false, false, false, false, false, false, false, false, false, false] rfl rfl (by kernel_rfl) (fun _ _ _ h => h) (Or.inl ⟨by rfl, ?_⟩) ?_ ?_
  rotate_left
  · intro w'
    go_simp
    with_reducible rfl
  rotate_left
  · simp only [Act.put, List.setIfInBounds_toArray, List.set_cons_zero, List.set_cons_succ, i64_w, i32_w]
    rfl
  refine pure_ (i := 10) (N := some 56) (v := undef) (a' := ?_) #[true, true, true, true, true, true, true, true, true, true, true, false, false, false, false, false, false, false, false, false, false, false, false, false, false, false, false, false, false, false, false, false, false, false, false, false] rfl rfl (by kernel_rfl) (fun _ _ _ h => h) (Or.inr ⟨by rfl, rfl⟩) ?_ ?_
  rotate_left
  · simp only [Act.put, List.setIfInBounds_toArray, List.set_cons_zero, List.set_cons_succ, i64_w, i32_w]
    rfl
  refine pure_ (i := 11) (N := some 57) (v := undef) (a' := ?_) #[true, true, true, true, true, true, true, true, true, true, true, true, false, false, false, false, false, false, false, false, false, false, false, false, false, false, false, false, false, false, false, false, false, false, false, false] rfl rfl (by kernel_rfl) (fun _ _ _ h => h) (Or.inr ⟨by rfl, rfl⟩) ?_ ?_
  rotate_left
  · simp only [Act.put, List.setIfInBounds_toArray, List.set_cons_zero, List.set_cons_succ, i64_w, i32_w]
    rfl
  refine pure_ (i := 12) (N := some 58) (v := undef) (a' := ?_) #[true, true, true, true, true, true, true, true, true, true, true, true, true, false, false, false, false, false, false, false, false, false, false, false, false, false, false, false, false, false, false, false, false, false, false, false] rfl rfl (by kernel_rfl) (fun _ _ _ h => h) (Or.inr ⟨by rfl, rfl⟩) ?_ ?_
  rotate_left
  · simp only [Act.put, List.setIfInBounds_toArray, List.set_cons_zero, List.set_cons_succ, i64_w, i32_w]
    rfl
  refine pure_ (i := 13) (N := some 59) (v := undef) (a' := ?_) #[true, true, true, true, true, true, true, true, true, true, true, true, true, true, false, false, false, false, false, false, false, false, false, false, false, false, false, false, false, false, false, false, false, false, false, false] rfl rfl (by kernel_rfl) (fun _ _ _ h => h) (Or.inr ⟨by rfl, rfl⟩) ?_ ?_
  rotate_left
  · simp only [Act.put, List.setIfInBounds_toArray, List.set_cons_zero, List.set_cons_succ, i64_w, i32_w]
    rfl
  refine pure_ (i := 14) (N := some 60) (v := undef) (a' := ?_) #[true, true, true, true, true, true, true, true, true, true, true, true, true, true, true, false, false, false, false, false, false, false, false, false, false, false, false, false, false, false, false, false, false, false, false, false] rfl rfl (by kernel_rfl) (fun _ _ _ h => h) (Or.inr ⟨by rfl, rfl⟩) ?_ ?_
  rotate_left
  · simp only [Act.put, List.setIfInBounds_toArray, List.set_cons_zero, List.set_cons_succ, i64_w, i32_w]
    rfl
  refine pure_ (i := 15) (N := some 61) (v := undef) (a' := ?_) #[true, true, true, true, true, true, true, true, true, true, true, true, true, true, true, true, false, false, false, false, false, false, false, false, false, false, false, false, false, false, false, false, false, false, false, false] rfl rfl (by kernel_rfl) (fun _ _ _ h => h) (Or.inr ⟨by rfl, rfl⟩) ?_ ?_
  rotate_left
  · simp only [Act.put, List.setIfInBounds_toArray, List.set_cons_zero, List.set_cons_succ, i64_w, i32_w]
    rfl
  refine pure_ (i := 16) (N := some 62) (v := undef) (a' := ?_) #[true, true, true, true, true, true, true, true, true, true, true, true, true, true, true, true, true, false, false, false, false, false, false, false, false, false, false, false, false, false, false, false, false, false, false, false] rfl rfl (by kernel_rfl) (fun _ _ _ h => h) (Or.inr ⟨by rfl, rfl⟩) ?_ ?_
  rotate_left
  · simp only [Act.put, List.setIfInBounds_toArray, List.set_cons_zero, List.set_cons_succ, i64_w, i32_w]
    rfl
  refine pure_ (i := 17) (N := some 63) (v := undef) (a' := ?_) #[true, true, true, true, true, true, true, true, true, true, true, true, true, true, true, true, true, true, false, false, false, false, false, false, false, false, false, false, false, false, false, false, false, false, false, false] rfl rfl (by kernel_rfl) (fun _ _ _ h => h) (Or.inr ⟨by rfl, rfl⟩) ?_ ?_
  rotate_left
  · simp only [Act.put, List.setIfInBounds_toArray, List.set_cons_zero, List.set_cons_succ, i64_w, i32_w]
    rfl
  refine pure_ (i := 18) (N := some 64) (v := undef) (a' := ?_) #[true, true, true, true, true, true, true, true, true, true, true, true, true, true, true, true, true, true, true, false, false, false, false, false, false, false, false, false, false, false, false, false, false, false, false, false] rfl rfl (by kernel_rfl) (fun _ _ _ h => h) (Or.inr ⟨by rfl, rfl⟩) ?_ ?_
  rotate_left
  · simp only [Act.put, List.setIfInBounds_toArray, List.set_cons_zero, List.set_cons_succ, i64_w, i32_w]
    rfl
  refine pure_ (i := 19) (N := some 65) (v := undef) (a' := ?_) #[true, true, true, true, true, true, true, true, true, true, true, true, true, true, true, true, true, true, true, true, false, false, false, false, false, false, false, false, false, false, false, false, false, false, false, false] rfl rfl (by kernel_rfl) (fun _ _ _ h => h) (Or.inr ⟨by rfl, rfl⟩) ?_ ?_
  rotate_left
  · simp only [Act.put, List.setIfInBounds_toArray, List.set_cons_zero, List.set_cons_succ, i64_w, i32_w]
    rfl
  refine pure_ (i := 20) (N := some 66) (v := undef) (a' := ?_) #[true, true, true, true, true, true, true, true, true, true, true, true, true, true, true, true, true, true, true, true, true, false, false, false, false, false, false, false, false, false, false, false, false, false, false, false] rfl rfl (by kernel_rfl) (fun _ _ _ h => h) (Or.inr ⟨by rfl, rfl⟩) ?_ ?_
  rotate_left
  · simp only [Act.put, List.setIfInBounds_toArray, List.set_cons_zero, List.set_cons_succ, i64_w, i32_w]
    rfl
  refine pure_ (i := 21) (N := some 67) (v := undef) (a' := ?_) #[true, true, true, true, true, true, true, true, true, true, true, true, true, true, true, true, true, true, true, true, true, true, false, false, false, false, false, false, false, false, false, false, false, false, false, false] rfl rfl (by kernel_rfl) (fun _ _ _ h => h) (Or.inr ⟨by rfl, rfl⟩) ?_ ?_
  rotate_left
  · simp only [Act.put, List.setIfInBounds_toArray, List.set_cons_zero, List.set_cons_succ, i64_w, i32_w]
    rfl
  refine pure_ (i := 22) (N := some 68) (v := undef) (a' := ?_) #[true, true, true, true, true, true, true, true, true, true, true, true, true, true, true, true, true, true, true, true, true, true, true, false, false, false, false, false, false, false, false, false, false, false, false, false] rfl rfl (by kernel_rfl) (fun _ _ _ h => h) (Or.inr ⟨by rfl, rfl⟩) ?_ ?_
  rotate_left
  · simp only [Act.put, List.setIfInBounds_toArray, List.set_cons_zero, List.set_cons_succ, i64_w, i32_w]
    rfl
  refine pure_ (i := 23) (N := some 69) (v := undef) (a' := ?_) #[true, true, true, true, true, true, true, true, true, true, true, true, true, true, true, true, true, true, true, true, true, true, true, true, false, false, false, false, false, false, false, false, false, false, false, false] rfl rfl (by kernel_rfl) (fun _ _ _ h => h) (Or.inr ⟨by rfl, rfl⟩) ?_ ?_
  rotate_left
  · simp only [Act.put, List.setIfInBounds_toArray, List.set_cons_zero, List.set_cons_succ, i64_w, i32_w]
    rfl
  refine pure_ (i := 24) (N := some 70) (v := undef) (a' := ?_) #[true, true, true, true, true, true, true, true, true, true, true, true, true, true, true, true, true, true, true, true, true, true, true, true, true, false, false, false, false, false, false, false, false, false, false, false] rfl rfl (by kernel_rfl) (fun _ _ _ h => h) (Or.inr ⟨by rfl, rfl⟩) ?_ ?_
  rotate_left
  · simp only [Act.put, List.setIfInBounds_toArray, List.set_cons_zero, List.set_cons_succ, i64_w, i32_w]
    rfl
  refine pure_ (i := 25) (N := some 71) (v := ?_) (a' := ?_) #[true, true, true, true, true, true, true, true, true, true, true, true, true, true, true, true, true, true, true, true, true, true, true, true, true, true, false, false, false, false, false, false, false, false, false, false] rfl rfl (by kernel_rfl) (fun _ _ _ h => h) (Or.inl ⟨by rfl, ?_⟩) ?_ ?_
  rotate_left
  · intro w'
    go_simp
    with_reducible rfl
  rotate_left
  · simp only [Act.put, List.setIfInBounds_toArray, List.set_cons_zero, List.set_cons_succ, i64_w, i32_w]
    rfl
  refine pure_ (i := 26) (N := some 72) (v := ?_) (a' := ?_) #[true, true, true, true, true, true, true, true, true, true, true, true, true, true, true, true, true, true, true, true, true, true, true, true, true, true, true, false, false, false, false, false, false, false, false, false] rfl rfl (by kernel_rfl) (fun _ _ _ h => h) (Or.inl ⟨by rfl, ?_⟩) ?_ ?_
  rotate_left
  · intro w'
    go_simp
    with_reducible rfl
  rotate_left
  · simp only [Act.put, List.setIfInBounds_toArray, List.set_cons_zero, List.set_cons_succ, i64_w, i32_w]
    rfl
  refine pure_ (i := 27) (N := some 73) (v := ?_) (a' := ?_) #[true, true, true, true, true, true, true, true, true, true, true, true, true, true, true, true, true, true, true, true, true, true, true, true, true, true, true, true, false, false, false, false, false, false, false, false] rfl rfl (by kernel_rfl) (fun _ _ _ h => h) (Or.inl ⟨by rfl, ?_⟩) ?_ ?_
  rotate_left
  · intro w'
    go_simp
    with_reducible rfl
  rotate_left
  · simp only [Act.put, List.setIfInBounds_toArray, List.set_cons_zero, List.set_cons_succ, i64_w, i32_w]
    rfl
  refine pure_ (i := 28) (N := some 74) (v := ?_) (a' := ?_) #[true, true, true, true, true, true, true, true, true, true, true, true, true, true, true, true, true, true, true, true, true, true, true, true, true, true, true, true, true, false, false, false, false, false, false, false] rfl rfl (by kernel_rfl) (fun _ _ _ h => h) (Or.inl ⟨by rfl, ?_⟩) ?_ ?_
  rotate_left
  · intro w'
    go_simp
    with_reducible rfl
  rotate_left
  · simp only [Act.put, List.setIfInBounds_toArray, List.set_cons_zero, List.set_cons_succ, i64_w, i32_w]
    rfl
  refine one_ (i := 29) (N := some 75) #[true, true, true, true, true, true, true, true, true, true, true, true, true, true, true, true, true, true, true, true, true, true, true, true, true, true, true, true, true, true, false, false, false, false, false, false] rfl rfl (by kernel_rfl) (by decide) (fun K hK => ?_)
  refine goes_ Tryd.func25 (by kernel_rfl) rfl #[.pointer (some ⟨w.heap.size + 1, 0, none⟩), .int .u8 101] (by rfl) rfl rfl (by (try simp only [List.map_toArray, List.map_cons, List.map_nil]); first | done | rfl) ?_
  refine (C.c_e _ A c HD.out).mono ?_
  rintro en w3 ⟨rfl, h3⟩
  refine ⟨_, rfl, ?_⟩
  have H4 := Aside0.mk h3
  clear h3
  refine hK.out _ _ ((H4.out.g1 C.hg)) (fun hHeld => ?_)
  clear hK K
  refine norm_ (a' := ?_) ?_ ?_
  rotate_left
  · show Act.put _ (some 75) _ = _
    simp only [Act.put, List.setIfInBounds_toArray, List.set_cons_zero, List.set_cons_succ, i64_w, i32_w]
    rfl
  refine pure_ (i := 30) (N := some 76) (v := ?_) (a' := ?_) #[true, true, true, true, true, true, true, true, true, true, true, true, true, true, true, true, true, true, true, true, true, true, true, true, true, true, true, true, true, true, true, false, false, false, false, false] rfl rfl (by kernel_rfl) (fun _ _ _ h => h) (Or.inl ⟨by rfl, ?_⟩) ?_ ?_
  rotate_left
  · intro w'
    go_simp
    with_reducible rfl
  rotate_left
  · simp only [Act.put, List.setIfInBounds_toArray, List.set_cons_zero, List.set_cons_succ, i64_w, i32_w]
    rfl
  refine pure_ (i := 31) (N := some 77) (v := ?_) (a' := ?_) #[true, true, true, true, true, true, true, true, true, true, true, true, true, true, true, true, true, true, true, true, true, true, true, true, true, true, true, true, true, true, true, true, false, false, false, false] rfl rfl (by kernel_rfl) (fun _ _ _ h => h) (Or.inl ⟨by rfl, ?_⟩) ?_ ?_
  rotate_left
  · intro w'
    go_simp
    with_reducible rfl
  rotate_left
  · simp only [Act.put, List.setIfInBounds_toArray, List.set_cons_zero, List.set_cons_succ, i64_w, i32_w]
    rfl
  refine pure_ (i := 32) (N := some 78) (v := ?_) (a' := ?_) #[true, true, true, true, true, true, true, true, true, true, true, true, true, true, true, true, true, true, true, true, true, true, true, true, true, true, true, true, true, true, true, true, true, false, false, false] rfl rfl (by kernel_rfl) (fun _ _ _ h => h) (Or.inl ⟨by rfl, ?_⟩) ?_ ?_
  rotate_left
  · intro w'
    go_simp
    with_reducible rfl
  rotate_left
  · simp only [Act.put, List.setIfInBounds_toArray, List.set_cons_zero, List.set_cons_succ, i64_w, i32_w]
    rfl
  refine one_ (i := 33) (N := some 79) #[true, true, true, true, true, true, true, true, true, true, true, true, true, true, true, true, true, true, true, true, true, true, true, true, true, true, true, true, true, true, true, true, true, true, false, false] rfl rfl (by kernel_rfl) (by decide) (fun K hK => ?_)
  refine goes_ Tryd.func27 (by kernel_rfl) rfl #[.pointer (some ⟨w.heap.size + 1, 0, none⟩)] (by rfl) rfl rfl (by (try simp only [List.map_toArray, List.map_cons, List.map_nil]); first | done | rfl) ?_
  refine (C.c_pow _ A c H4.out).mono ?_
  rintro en w4 ⟨rfl, h4⟩
  refine ⟨_, rfl, ?_⟩
  have H5 := Aside0.mk h4
  clear h4
  refine hK.out _ _ ((H5.out.g1 C.hg)) (fun hHeld => ?_)
  clear hK K
  refine norm_ (a' := ?_) ?_ ?_
  rotate_left
  · show Act.put _ (some 79) _ = _
    simp only [Act.put, List.setIfInBounds_toArray, List.set_cons_zero, List.set_cons_succ, i64_w, i32_w]
    rfl
  refine pure_ (i := 34) (N := some 80) (v := ?_) (a' := ?_) #[true, true, true, true, true, true, true, true, true, true, true, true, true, true, true, true, true, true, true, true, true, true, true, true, true, true, true, true, true, true, true, true, true, true, true, false] rfl rfl (by kernel_rfl) (fun _ _ _ h => h) (Or.inl ⟨by rfl, ?_⟩) ?_ ?_
  rotate_left
  · intro w'
    go_simp
    with_reducible rfl
  rotate_left
  · simp only [Act.put, List.setIfInBounds_toArray, List.set_cons_zero, List.set_cons_succ, i64_w, i32_w]
    rfl
  refine pure_ (i := 35) (N := some 6) (v := ?_) (a' := ?_) #[true, true, true, true, true, true, true, true, true, true, true, true, true, true, true, true, true, true, true, true, true, true, true, true, true, true, true, true, true, true, true, true, true, true, true, true] rfl rfl (by kernel_rfl) (fun _ _ _ h => h) (Or.inl ⟨by rfl, ?_⟩) ?_ ?_
  rotate_left
  · intro w'
    go_simp
    with_reducible rfl
  rotate_left
  · simp only [Act.put, List.setIfInBounds_toArray, List.set_cons_zero, List.set_cons_succ, i64_w, i32_w]
    rfl
  refine done_ (by kernel_rfl) ?_
  have d4 := H5.out.g4 C.hg
  have d0 := H5.out.g0 C.hg
  have d1 := H5.out.g1 C.hg
  have d2 := H5.out.g2 C.hg
  clear HD H4
  rcases po with _ | _
  · skip
    go_wp2
    have b0 := C.dec H5.out.2.2
    have e0 : w4.cell? ⟨w.heap.size, 0, none⟩ = some (.bool false) := (blk_cell b0 0).trans rfl
    have e1 : w4.cell? ⟨w.heap.size, 1, none⟩ = some (.slice none 0 0) := (blk_cell b0 1).trans rfl
    have e2 : w4.cell? ⟨w.heap.size, 2, none⟩ = some (.int .i64 0) := (blk_cell b0 2).trans rfl
    have f0 := blk_frozen b0 0
    have f1 := blk_frozen b0 1
    have f2 := blk_frozen b0 2
    go_region
    all_goals (go_wp2; obtain ⟨z1, z2⟩ := C.put H5.out.2.2 1 false (.slice none 0 0) 0; exact bodyPost_ret (results_ctt rfl _ _ _ 24 _ (0, 0) _ rfl z2 Tryd.underlying24 rfl (by kernel_rfl)) rfl (rd_err (by simp [*]) ⟨rfl, z1⟩))
  · by_cases hs : p3 < a0.size
    · have s1 : decide ((p3 : Int) < (a0.size : Int)) = true := decide_eq_true (by omega)
      have s2 : ((p3 : Int) < (a0.size : Int)) = True := eq_true (by omega)
      go_wp2
      have b0 := C.dec H5.out.2.2
      have e0 : w4.cell? ⟨w.heap.size, 0, none⟩ = some (.bool false) := (blk_cell b0 0).trans rfl
      have e1 : w4.cell? ⟨w.heap.size, 1, none⟩ = some (.slice none 0 0) := (blk_cell b0 1).trans rfl
      have e2 : w4.cell? ⟨w.heap.size, 2, none⟩ = some (.int .i64 0) := (blk_cell b0 2).trans rfl
      have f0 := blk_frozen b0 0
      have f1 := blk_frozen b0 1
      have f2 := blk_frozen b0 2
      go_region
      all_goals (go_wp2; obtain ⟨z1, z2⟩ := C.put H5.out.2.2 1 false (.slice none 0 0) 0; exact bodyPost_ret (results_ctt rfl _ _ _ 24 _ (0, 0) _ rfl z2 Tryd.underlying24 rfl (by kernel_rfl)) rfl (rd_err (by simp [*]) ⟨rfl, z1⟩))
    · have s1 : decide ((p3 : Int) < (a0.size : Int)) = false := decide_eq_false (by omega)
      have s2 : ((p3 : Int) < (a0.size : Int)) = False := eq_false (by omega)
      have hu24 := Tryd.underlying24
      have b0 := C.dec H5.out.2.2
      have e0 : w4.cell? ⟨w.heap.size, 0, none⟩ = some (.bool false) := (blk_cell b0 0).trans rfl
      have e1 : w4.cell? ⟨w.heap.size, 1, none⟩ = some (.slice none 0 0) := (blk_cell b0 1).trans rfl
      have e2 : w4.cell? ⟨w.heap.size, 2, none⟩ = some (.int .i64 0) := (blk_cell b0 2).trans rfl
      have f0 := blk_frozen b0 0
      have f1 := blk_frozen b0 1
      have f2 := blk_frozen b0 2
      go_wp2
      obtain ⟨z1, z2⟩ := C.put H5.out.2.2 0 n0 (.slice A D.length c) E
      exact bodyPost_ret (results_ctt rfl _ _ _ 24 _ (0, 0) _ rfl z2 Tryd.underlying24 rfl (by kernel_rfl)) rfl (rd_fine ⟨rfl, hs⟩ ⟨_, rfl, C.row H5.out 0 n0 _ E, z1⟩)
set_option linter.unusedSimpArgs false in
set_option maxHeartbeats 4000000 in
set_option maxRecDepth 100000 in
theorem read_noe_some (w w0 : World) (a0 : ByteArray) (n0 nb hb po : Bool) (fr p1 p p2 p3 : Nat) (D : List Int) (E : Int) (C : ReadC w w0 a0 n0 nb hb po fr p1 p p2 p3 D E) (n : Nat) (hbig : n ≤ 140737488351232) (hlen : D.length = n + 1) (last : Int) (hlast : rd D (n : Int) = last) (hz : last ≠ 0) (hnb : nb = true) (hp : p = p1) (hhb : hb = false) :
    Calls Tryd.prog 11 #[.string a0] w (ReadErr w p2) := by
  subst hnb hp hhb
  have k8 : wrap64 (n : Int) = (n : Int) := by unfold wrap64; omega
  have hidx : (D.length : Int) - 1 = (n : Int) := by omega
  have k1 : (n < D.length) = True := eq_true (by omega)
  have k2 : decide (n < D.length) = true := decide_eq_true (by omega)
  have k3 : ((n : Int) < (D.length : Int)) = True := eq_true (by omega)
  have k4 : ((D.length : Int) == 0) = false := by simp; intro h; rw [h] at hlen; simp at hlen
  have k5 : (D.length == 0) = false := by simp; intro h; rw [h] at hlen; simp at hlen
  have k10 : (last == 0) = false := by simpa using hz
  have k11 : (last != 0) = true := by simpa using hz
  have k12 : (last = 0) = False := eq_false hz
  clear hz
  have HL := Aside0.mk hlen
  have HX := Aside0.mk hlast
  clear hlen hlast
  go_enter Tryd.func11, Tryd.ntmps11
  by_cases hf : D.length = 1000
  · have k6 : ((D.length : Int) == 1000) = true := by simp; omega
    have k7 : (D.length == 1000) = true := by simp; omega
    clear hf
    go_wp2_with (first
        | (go_at_call 25; refine (C.c_has _ C.start).mono ?_; rintro en w1 ⟨rfl, h1⟩; have H1 := Aside0.mk (h1.gn C.hg n0); have d0 := h1.g0 C.hg; have f0 := h1.gf C.hg 0; clear h1)
        | (go_at_call 26; refine (C.c_num _ H1.out).mono ?_; rintro en w2 ⟨v1, rfl, h2⟩; obtain ⟨A, c, e1⟩ := Kd.R_slice h2.2.1; subst e1; have hC := (Kd.R_reads' h2.2.1).2.2; obtain ⟨ad, eA, hcell⟩ := Kd.at_int hC (n : Int) (by omega) (by have := HL.out; omega); subst eA; simp only [Int.toNat_natCast] at hcell; rw [HX.out] at hcell; have H2 := Aside0.mk h2; have d1 := h2.g1 C.hg; have d4 := h2.g4 C.hg; have f4 := h2.gf C.hg 4; clear h2 H1 d0 f0 hC))
    have hr := H2.out.drew_ 1
    have HD := Aside0.mk hr
    clear hr
    refine start_ (n := 36) (S := fun w' => w'.cell? ⟨w.heap.size + 1, 1, none⟩ = some (.slice (some ad) D.length c) ∧ w'.cell? (ad.add n) = some (.int .u8 last)) (ds := []) #[false, false, false, false, false, false, false, false, false, false, false, false, false, false, false, false, false, false, false, false, false, false, false, false, false, false, false, false, false, false, false, false, false, false, false, false] (by kernel_rfl) rfl rfl ⟨(HD.out.g1 C.hg), (read_last HD.out.2.1 HL.out HX.out hbig)⟩ (fun hHeld => ?_)
    refine pure_ (i := 0) (N := some 46) (v := ?_) (a' := ?_) #[true, false, false, false, false, false, false, false, false, false, false, false, false, false, false, false, false, false, false, false, false, false, false, false, false, false, false, false, false, false, false, false, false, false, false, false] rfl rfl (by kernel_rfl) (fun _ _ _ h => h) (Or.inl ⟨by rfl, ?_⟩) ?_ ?_
    rotate_left
    · intro w'
      go_simp
      with_reducible rfl
    rotate_left
    · simp only [Act.put, List.setIfInBounds_toArray, List.set_cons_zero, List.set_cons_succ, i64_w, i32_w]
      rfl
    refine pure_ (i := 1) (N := some 47) (v := ?_) (a' := ?_) #[true, true, false, false, false, false, false, false, false, false, false, false, false, false, false, false, false, false, false, false, false, false, false, false, false, false, false, false, false, false, false, false, false, false, false, false] rfl rfl (by kernel_rfl) (fun _ _ _ h => h) (Or.inl ⟨by rfl, ?_⟩) ?_ ?_
    rotate_left
    · intro w'
      go_simp
      with_reducible rfl
    rotate_left
    · simp only [Act.put, List.setIfInBounds_toArray, List.set_cons_zero, List.set_cons_succ, i64_w, i32_w]
      rfl
    refine pure_ (i := 2) (N := some 48) (v := ?_) (a' := ?_) #[true, true, true, false, false, false, false, false, false, false, false, false, false, false, false, false, false, false, false, false, false, false, false, false, false, false, false, false, false, false, false, false, false, false, false, false] rfl rfl (by kernel_rfl) (fun _ _ _ h => h) (Or.inl ⟨by rfl, ?_⟩) ?_ ?_
    rotate_left
    · intro w'
      go_simp
      with_reducible rfl
    rotate_left
    · simp only [Act.put, List.setIfInBounds_toArray, List.set_cons_zero, List.set_cons_succ, i64_w, i32_w]
      rfl
    refine pure_ (i := 3) (N := some 49) (v := ?_) (a' := ?_) #[true, true, true, true, false, false, false, false, false, false, false, false, false, false, false, false, false, false, false, false, false, false, false, false, false, false, false, false, false, false, false, false, false, false, false, false] rfl rfl (by kernel_rfl) (fun _ _ _ h => h) (Or.inl ⟨by rfl, ?_⟩) ?_ ?_
    rotate_left
    · intro w'
      go_simp
      with_reducible rfl
    rotate_left
    · simp only [Act.put, List.setIfInBounds_toArray, List.set_cons_zero, List.set_cons_succ, i64_w, i32_w]
      rfl
    refine pure_ (i := 4) (N := some 50) (v := ?_) (a' := ?_) #[true, true, true, true, true, false, false, false, false, false, false, false, false, false, false, false, false, false, false, false, false, false, false, false, false, false, false, false, false, false, false, false, false, false, false, false] rfl rfl (by kernel_rfl) (fun _ _ _ h => h) (Or.inl ⟨by rfl, ?_⟩) ?_ ?_
    rotate_left
    · intro w'
      go_simp
      with_reducible rfl
    rotate_left
    · simp only [Act.put, List.setIfInBounds_toArray, List.set_cons_zero, List.set_cons_succ, i64_w, i32_w]
      rfl
    refine pure_ (i := 5) (N := some 51) (v := ?_) (a' := ?_) #[true, true, true, true, true, true, false, false, false, false, false, false, false, false, false, false, false, false, false, false, false, false, false, false, false, false, false, false, false, false, false, false, false, false, false, false] rfl rfl (by kernel_rfl) (fun _ _ _ h => h) (Or.inl ⟨by rfl, ?_⟩) ?_ ?_
    rotate_left
    · intro w'
      go_simp
      with_reducible rfl
    rotate_left
    · simp only [Act.put, List.setIfInBounds_toArray, List.set_cons_zero, List.set_cons_succ, i64_w, i32_w]
      rfl
    refine take_ (i := 6) (N := some 52) (v := ?_) (a' := ?_) #[true, true, true, true, true, true, true, false, false, false, false, false, false, false, false, false, false, false, false, false, false, false, false, false, false, false, false, false, false, false, false, false, false, false, false, false] rfl rfl (by kernel_rfl) (fun _ _ _ h => h) (Or.inl ⟨by rfl, ?_⟩) hHeld ?_ ?_
    rotate_left
    · rintro w' ⟨s0, s1⟩
      go_simp
      with_reducible rfl
    rotate_left
    · simp only [Act.put, List.setIfInBounds_toArray, List.set_cons_zero, List.set_cons_succ, i64_w, i32_w]
      rfl
    refine pure_ (i := 7) (N := some 53) (v := ?_) (a' := ?_) #[true, true, true, true, true, true, true, true, false, false, false, false, false, false, false, false, false, false, false, false, false, false, false, false, false, false, false, false, false, false, false, false, false, false, false, false] rfl rfl (by kernel_rfl) (fun _ _ _ h => h) (Or.inl ⟨by rfl, ?_⟩) ?_ ?_
    rotate_left
    · intro w'
      go_simp
      with_reducible rfl
    rotate_left
    · simp only [Act.put, List.setIfInBounds_toArray, List.set_cons_zero, List.set_cons_succ, i64_w, i32_w]
      rfl
    refine pure_ (i := 8) (N := some 54) (v := ?_) (a' := ?_) #[true, true, true, true, true, true, true, true, true, false, false, false, false, false, false, false, false, false, false, false, false, false, false, false, false, false, false, false, false, false, false, false, false, false, false, false] rfl rfl (by kernel_rfl) (fun _ _ _ h => h) (Or.inl ⟨by rfl, ?_⟩) ?_ ?_
    rotate_left
    · intro w'
      go_simp
      with_reducible rfl
    rotate_left
    · simp only [Act.put, List.setIfInBounds_toArray, List.set_cons_zero, List.set_cons_succ, i64_w, i32_w]
      rfl
    refine pure_ (i := 9) (N := some 55) (v := ?_) (a' := ?_) #[true, true, true, true, true, true, true, true, true, true, false, false, false, false, false, false, false, false, false, false, false, false, false, false, false, false, false, false, false, false, false, false, false, false, false, false] rfl rfl (by kernel_rfl) (fun _ _ _ h => h) (Or.inl ⟨by rfl, ?_⟩) ?_ ?_
    rotate_left
    · intro w'
      go_simp
      with_reducible rfl
    rotate_left
    · simp only [Act.put, List.setIfInBounds_toArray, List.set_cons_zero, List.set_cons_succ, i64_w, i32_w]
      rfl
    refine pure_ (i := 10) (N := some 56) (v := ?_) (a' := ?_) #[true, true, true, true, true, true, true, true, true, true, true, false, false, false, false, false, false, false, false, false, false, false, false, false, false, false, false, false, false, false, false, false, false, false, false, false] rfl rfl (by kernel_rfl) (fun _ _ _ h => h) (Or.inl ⟨by rfl, ?_⟩) ?_ ?_
    rotate_left
    · intro w'
      go_simp
      with_reducible rfl
    rotate_left
    · simp only [Act.put, List.setIfInBounds_toArray, List.set_cons_zero, List.set_cons_succ, i64_w, i32_w]
      rfl
    refine pure_ (i := 11) (N := some 57) (v := ?_) (a' := ?_) #[true, true, true, true, true, true, true, true, true, true, true, true, false, false, false, false, false, false, false, false, false, false, false, false, false, false, false, false, false, false, false, false, false, false, false, false] rfl rfl (by kernel_rfl) (fun _ _ _ h => h) (Or.inl ⟨by rfl, ?_⟩) ?_ ?_
    rotate_left
    · intro w'
      go_simp
      with_reducible rfl
    rotate_left
    · simp only [Act.put, List.setIfInBounds_toArray, List.set_cons_zero, List.set_cons_succ, i64_w, i32_w]
      rfl
    refine pure_ (i := 12) (N := some 58) (v := ?_) (a' := ?_) #[true, true, true, true, true, true, true, true, true, true, true, true, true, false, false, false, false, false, false, false, false, false, false, false, false, false, false, false, false, false, false, false, false, false, false, false] rfl rfl (by kernel_rfl) (fun _ _ _ h => h) (Or.inl ⟨by rfl, ?_⟩) ?_ ?_
    rotate_left
    · intro w'
      go_simp
      with_reducible rfl
    rotate_left
    · simp only [Act.put, List.setIfInBounds_toArray, List.set_cons_zero, List.set_cons_succ, i64_w, i32_w]
      rfl
    refine pure_ (i := 13) (N := some 59) (v := ?_) (a' := ?_) #[true, true, true, true, true, true, true, true, true, true, true, true, true, true, false, false, false, false, false, false, false, false, false, false, false, false, false, false, false, false, false, false, false, false, false, false] rfl rfl (by kernel_rfl) (fun _ _ _ h => h) (Or.inl ⟨by rfl, ?_⟩) ?_ ?_
    rotate_left
    · intro w'
      go_simp
      with_reducible rfl
    rotate_left
    · simp only [Act.put, List.setIfInBounds_toArray, List.set_cons_zero, List.set_cons_succ, i64_w, i32_w]
      rfl
    refine pure_ (i := 15) (N := some 61) (v := ?_) (a' := ?_) #[true, true, true, true, true, true, true, true, true, true, true, true, true, true, false, true, false, false, false, false, false, false, false, false, false, false, false, false, false, false, false, false, false, false, false, false] rfl rfl (by kernel_rfl) (fun _ _ _ h => h) (Or.inl ⟨by rfl, ?_⟩) ?_ ?_
    rotate_left
    · intro w'
      go_simp
      with_reducible rfl
    rotate_left
    · simp only [Act.put, List.setIfInBounds_toArray, List.set_cons_zero, List.set_cons_succ, i64_w, i32_w]
      rfl
    refine pure_ (i := 16) (N := some 62) (v := ?_) (a' := ?_) #[true, true, true, true, true, true, true, true, true, true, true, true, true, true, false, true, true, false, false, false, false, false, false, false, false, false, false, false, false, false, false, false, false, false, false, false] rfl rfl (by kernel_rfl) (fun _ _ _ h => h) (Or.inl ⟨by rfl, ?_⟩) ?_ ?_
    rotate_left
    · intro w'
      go_simp
      with_reducible rfl
    rotate_left
    · simp only [Act.put, List.setIfInBounds_toArray, List.set_cons_zero, List.set_cons_succ, i64_w, i32_w]
      rfl
    refine pure_ (i := 17) (N := some 63) (v := ?_) (a' := ?_) #[true, true, true, true, true, true, true, true, true, true, true, true, true, true, false, true, true, true, false, false, false, false, false, false, false, false, false, false, false, false, false, false, false, false, false, false] rfl rfl (by kernel_rfl) (fun _ _ _ h => h) (Or.inl ⟨by rfl, ?_⟩) ?_ ?_
    rotate_left
    · intro w'
      go_simp
      with_reducible rfl
    rotate_left
    · simp only [Act.put, List.setIfInBounds_toArray, List.set_cons_zero, List.set_cons_succ, i64_w, i32_w]
      rfl
    refine pure_ (i := 18) (N := some 64) (v := ?_) (a' := ?_) #[true, true, true, true, true, true, true, true, true, true, true, true, true, true, false, true, true, true, true, false, false, false, false, false, false, false, false, false, false, false, false, false, false, false, false, false] rfl rfl (by kernel_rfl) (fun _ _ _ h => h) (Or.inl ⟨by rfl, ?_⟩) ?_ ?_
    rotate_left
    · intro w'
      go_simp
      with_reducible rfl
    rotate_left
    · simp only [Act.put, List.setIfInBounds_toArray, List.set_cons_zero, List.set_cons_succ, i64_w, i32_w]
      rfl
    refine take_ (i := 14) (N := some 60) (v := ?_) (a' := ?_) #[true, true, true, true, true, true, true, true, true, true, true, true, true, true, true, true, true, true, true, false, false, false, false, false, false, false, false, false, false, false, false, false, false, false, false, false] rfl rfl (by kernel_rfl) (fun _ _ _ h => h) (Or.inl ⟨by rfl, ?_⟩) hHeld ?_ ?_
    rotate_left
    · rintro w' ⟨s0, s1⟩
      go_simp
      with_reducible rfl
    rotate_left
    · simp only [Act.put, List.setIfInBounds_toArray, List.set_cons_zero, List.set_cons_succ, i64_w, i32_w]
      rfl
    refine take_ (i := 19) (N := some 65) (v := ?_) (a' := ?_) #[true, true, true, true, true, true, true, true, true, true, true, true, true, true, true, true, true, true, true, true, false, false, false, false, false, false, false, false, false, false, false, false, false, false, false, false] rfl rfl (by kernel_rfl) (fun _ _ _ h => h) (Or.inl ⟨by rfl, ?_⟩) hHeld ?_ ?_
    rotate_left
    · rintro w' ⟨s0, s1⟩
      go_simp
      with_reducible rfl
    rotate_left
    · simp only [Act.put, List.setIfInBounds_toArray, List.set_cons_zero, List.set_cons_succ, i64_w, i32_w]
      rfl
    refine pure_ (i := 20) (N := some 66) (v := ?_) (a' := ?_) #[true, true, true, true, true, true, true, true, true, true, true, true, true, true, true, true, true, true, true, true, true, false, false, false, false, false, false, false, false, false, false, false, false, false, false, false] rfl rfl (by kernel_rfl) (fun _ _ _ h => h) (Or.inl ⟨by rfl, ?_⟩) ?_ ?_
    rotate_left
    · intro w'
      go_simp
      with_reducible rfl
    rotate_left
    · simp only [Act.put, List.setIfInBounds_toArray, List.set_cons_zero, List.set_cons_succ, i64_w, i32_w]
      rfl
    refine pure_ (i := 21) (N := some 67) (v := ?_) (a' := ?_) #[true, true, true, true, true, true, true, true, true, true, true, true, true, true, true, true, true, true, true, true, true, true, false, false, false, false, false, false, false, false, false, false, false, false, false, false] rfl rfl (by kernel_rfl) (fun _ _ _ h => h) (Or.inl ⟨by rfl, ?_⟩) ?_ ?_
    rotate_left
    · intro w'
      go_simp
      with_reducible rfl
    rotate_left
    · simp only [Act.put, List.setIfInBounds_toArray, List.set_cons_zero, List.set_cons_succ, i64_w, i32_w]
      rfl
    refine pure_ (i := 22) (N := some 68) (v := ?_) (a' := ?_) #[true, true, true, true, true, true, true, true, true, true, true, true, true, true, true, true, true, true, true, true, true, true, true, false, false, false, false, false, false, false, false, false, false, false, false, false] rfl rfl (by kernel_rfl) (fun _ _ _ h => h) (Or.inl ⟨by rfl, ?_⟩) ?_ ?_
    rotate_left
    · intro w'
      go_simp
      with_reducible rfl
    rotate_left
    · simp only [Act.put, List.setIfInBounds_toArray, List.set_cons_zero, List.set_cons_succ, i64_w, i32_w]
      rfl
    refine take_ (i := 23) (N := some 69) (v := ?_) (a' := ?_) #[true, true, true, true, true, true, true, true, true, true, true, true, true, true, true, true, true, true, true, true, true, true, true, true, false, false, false, false, false, false, false, false, false, false, false, false] rfl rfl (by kernel_rfl) (fun _ _ _ h => h) (Or.inl ⟨by rfl, ?_⟩) hHeld ?_ ?_
    rotate_left
    · rintro w' ⟨s0, s1⟩
      go_simp
      with_reducible rfl
    rotate_left
    · simp only [Act.put, List.setIfInBounds_toArray, List.set_cons_zero, List.set_cons_succ, i64_w, i32_w]
      rfl
    refine pure_ (i := 24) (N := some 70) (v := ?_) (a' := ?_) #[true, true, true, true, true, true, true, true, true, true, true, true, true, true, true, true, true, true, true, true, true, true, true, true, true, false, false, false, false, false, false, false, false, false, false, false] rfl rfl (by kernel_rfl) (fun _ _ _ h => h) (Or.inl ⟨by rfl, ?_⟩) ?_ ?_
    rotate_left
    · intro w'
      go_simp
      with_reducible rfl
    rotate_left
    · simp only [Act.put, List.setIfInBounds_toArray, List.set_cons_zero, List.set_cons_succ, i64_w, i32_w]
      rfl
    refine pure_ (i := 25) (N := some 71) (v := ?_) (a' := ?_) #[true, true, true, true, true, true, true, true, true, true, true, true, true, true, true, true, true, true, true, true, true, true, true, true, true, true, false, false, false, false, false, false, false, false, false, false] rfl rfl (by kernel_rfl) (fun _ _ _ h => h) (Or.inl ⟨by rfl, ?_⟩) ?_ ?_
    rotate_left
    · intro w'
      go_simp
      with_reducible rfl
    rotate_left
    · simp only [Act.put, List.setIfInBounds_toArray, List.set_cons_zero, List.set_cons_succ, i64_w, i32_w]
      rfl
    refine pure_ (i := 26) (N := some 72) (v := ?_) (a' := ?_) #[true, true, true, true, true, true, true, true, true, true, true, true, true, true, true, true, true, true, true, true, true, true, true, true, true, true, true, false, false, false, false, false, false, false, false, false] rfl rfl (by kernel_rfl) (fun _ _ _ h => h) (Or.inl ⟨by rfl, ?_⟩) ?_ ?_
    rotate_left
    · intro w'
      go_simp
      with_reducible rfl
    rotate_left
    · simp only [Act.put, List.setIfInBounds_toArray, List.set_cons_zero, List.set_cons_succ, i64_w, i32_w]
      rfl
    refine pure_ (i := 27) (N := some 73) (v := ?_) (a' := ?_) #[true, true, true, true, true, true, true, true, true, true, true, true, true, true, true, true, true, true, true, true, true, true, true, true, true, true, true, true, false, false, false, false, false, false, false, false] rfl rfl (by kernel_rfl) (fun _ _ _ h => h) (Or.inl ⟨by rfl, ?_⟩) ?_ ?_
    rotate_left
    · intro w'
      go_simp
      with_reducible rfl
    rotate_left
    · simp only [Act.put, List.setIfInBounds_toArray, List.set_cons_zero, List.set_cons_succ, i64_w, i32_w]
      rfl
    refine pure_ (i := 28) (N := some 74) (v := ?_) (a' := ?_) #[true, true, true, true, true, true, true, true, true, true, true, true, true, true, true, true, true, true, true, true, true, true, true, true, true, true, true, true, true, false, false, false, false, false, false, false] rfl rfl (by kernel_rfl) (fun _ _ _ h => h) (Or.inl ⟨by rfl, ?_⟩) ?_ ?_
    rotate_left
    · intro w'
      go_simp
      with_reducible rfl
    rotate_left
    · simp only [Act.put, List.setIfInBounds_toArray, List.set_cons_zero, List.set_cons_succ, i64_w, i32_w]
      rfl
    refine one_ (i := 29) (N := some 75) #[true, true, true, true, true, true, true, true, true, true, true, true, true, true, true, true, true, true, true, true, true, true, true, true, true, true, true, true, true, true, false, false, false, false, false, false] rfl rfl (by kernel_rfl) (by decide) (fun K hK => ?_)
    refine goes_ Tryd.func25 (by kernel_rfl) rfl #[.pointer (some ⟨w.heap.size + 1, 0, none⟩), .int .u8 101] (by rfl) rfl rfl (by (try simp only [List.map_toArray, List.map_cons, List.map_nil]); first | done | rfl) ?_
    refine (C.c_e _ (some ad) c HD.out).mono ?_
    rintro en w3 ⟨rfl, h3⟩
    refine ⟨_, rfl, ?_⟩
    have H4 := Aside0.mk h3
    clear h3
    refine hK.out _ _ ⟨(H4.out.g1 C.hg), (read_last H4.out.2.1 HL.out HX.out hbig)⟩ (fun hHeld => ?_)
    clear hK K
    refine norm_ (a' := ?_) ?_ ?_
    rotate_left
    · show Act.put _ (some 75) _ = _
      simp only [Act.put, List.setIfInBounds_toArray, List.set_cons_zero, List.set_cons_succ, i64_w, i32_w]
      rfl
    refine pure_ (i := 30) (N := some 76) (v := ?_) (a' := ?_) #[true, true, true, true, true, true, true, true, true, true, true, true, true, true, true, true, true, true, true, true, true, true, true, true, true, true, true, true, true, true, true, false, false, false, false, false] rfl rfl (by kernel_rfl) (fun _ _ _ h => h) (Or.inl ⟨by rfl, ?_⟩) ?_ ?_
    rotate_left
    · intro w'
      go_simp
      with_reducible rfl
    rotate_left
    · simp only [Act.put, List.setIfInBounds_toArray, List.set_cons_zero, List.set_cons_succ, i64_w, i32_w]
      rfl
    refine pure_ (i := 31) (N := some 77) (v := ?_) (a' := ?_) #[true, true, true, true, true, true, true, true, true, true, true, true, true, true, true, true, true, true, true, true, true, true, true, true, true, true, true, true, true, true, true, true, false, false, false, false] rfl rfl (by kernel_rfl) (fun _ _ _ h => h) (Or.inl ⟨by rfl, ?_⟩) ?_ ?_
    rotate_left
    · intro w'
      go_simp
      with_reducible rfl
    rotate_left
    · simp only [Act.put, List.setIfInBounds_toArray, List.set_cons_zero, List.set_cons_succ, i64_w, i32_w]
      rfl
    refine pure_ (i := 32) (N := some 78) (v := undef) (a' := ?_) #[true, true, true, true, true, true, true, true, true, true, true, true, true, true, true, true, true, true, true, true, true, true, true, true, true, true, true, true, true, true, true, true, true, false, false, false] rfl rfl (by kernel_rfl) (fun _ _ _ h => h) (Or.inr ⟨by rfl, rfl⟩) ?_ ?_
    rotate_left
    · simp only [Act.put, List.setIfInBounds_toArray, List.set_cons_zero, List.set_cons_succ, i64_w, i32_w]
      rfl
    refine pure_ (i := 33) (N := some 79) (v := undef) (a' := ?_) #[true, true, true, true, true, true, true, true, true, true, true, true, true, true, true, true, true, true, true, true, true, true, true, true, true, true, true, true, true, true, true, true, true, true, false, false] rfl rfl (by kernel_rfl) (fun _ _ _ h => h) (Or.inr ⟨by rfl, rfl⟩) ?_ ?_
    rotate_left
    · simp only [Act.put, List.setIfInBounds_toArray, List.set_cons_zero, List.set_cons_succ, i64_w, i32_w]
      rfl
    refine pure_ (i := 34) (N := some 80) (v := ?_) (a' := ?_) #[true, true, true, true, true, true, true, true, true, true, true, true, true, true, true, true, true, true, true, true, true, true, true, true, true, true, true, true, true, true, true, true, true, true, true, false] rfl rfl (by kernel_rfl) (fun _ _ _ h => h) (Or.inl ⟨by rfl, ?_⟩) ?_ ?_
    rotate_left
    · intro w'
      go_simp
      with_reducible rfl
    rotate_left
    · simp only [Act.put, List.setIfInBounds_toArray, List.set_cons_zero, List.set_cons_succ, i64_w, i32_w]
      rfl
    refine pure_ (i := 35) (N := some 6) (v := ?_) (a' := ?_) #[true, true, true, true, true, true, true, true, true, true, true, true, true, true, true, true, true, true, true, true, true, true, true, true, true, true, true, true, true, true, true, true, true, true, true, true] rfl rfl (by kernel_rfl) (fun _ _ _ h => h) (Or.inl ⟨by rfl, ?_⟩) ?_ ?_
    rotate_left
    · intro w'
      go_simp
      with_reducible rfl
    rotate_left
    · simp only [Act.put, List.setIfInBounds_toArray, List.set_cons_zero, List.set_cons_succ, i64_w, i32_w]
      rfl
    refine done_ (by kernel_rfl) ?_
    clear HD
    have d4 := H4.out.g4 C.hg
    go_wp2
    have b0 := C.dec H4.out.2.2
    have e0 : w3.cell? ⟨w.heap.size, 0, none⟩ = some (.bool false) := (blk_cell b0 0).trans rfl
    have e1 : w3.cell? ⟨w.heap.size, 1, none⟩ = some (.slice none 0 0) := (blk_cell b0 1).trans rfl
    have e2 : w3.cell? ⟨w.heap.size, 2, none⟩ = some (.int .i64 0) := (blk_cell b0 2).trans rfl
    have f0 := blk_frozen b0 0
    have f1 := blk_frozen b0 1
    have f2 := blk_frozen b0 2
    go_region
    all_goals (go_wp2; obtain ⟨z1, z2⟩ := C.put H4.out.2.2 1 false (.slice none 0 0) 0; exact bodyPost_ret (results_ctt rfl _ _ _ 24 _ (0, 0) _ rfl z2 Tryd.underlying24 rfl (by kernel_rfl)) rfl ⟨rfl, z1⟩)
  · have k6 : ((D.length : Int) == 1000) = false := by simp; omega
    have k7 : (D.length == 1000) = false := by simp; omega
    clear hf
    go_wp2_with (first
        | (go_at_call 25; refine (C.c_has _ C.start).mono ?_; rintro en w1 ⟨rfl, h1⟩; have H1 := Aside0.mk (h1.gn C.hg n0); have d0 := h1.g0 C.hg; have f0 := h1.gf C.hg 0; clear h1)
        | (go_at_call 26; refine (C.c_num _ H1.out).mono ?_; rintro en w2 ⟨v1, rfl, h2⟩; obtain ⟨A, c, e1⟩ := Kd.R_slice h2.2.1; subst e1; have hC := (Kd.R_reads' h2.2.1).2.2; obtain ⟨ad, eA, hcell⟩ := Kd.at_int hC (n : Int) (by omega) (by have := HL.out; omega); subst eA; simp only [Int.toNat_natCast] at hcell; rw [HX.out] at hcell; have H2 := Aside0.mk h2; have d1 := h2.g1 C.hg; have d4 := h2.g4 C.hg; have f4 := h2.gf C.hg 4; clear h2 H1 d0 f0 hC))
    have hr := H2.out.drew_ 1
    have HD := Aside0.mk hr
    clear hr
    refine start_ (n := 36) (S := fun w' => w'.cell? ⟨w.heap.size + 1, 1, none⟩ = some (.slice (some ad) D.length c) ∧ w'.cell? (ad.add n) = some (.int .u8 last)) (ds := []) #[false, false, false, false, false, false, false, false, false, false, false, false, false, false, false, false, false, false, false, false, false, false, false, false, false, false, false, false, false, false, false, false, false, false, false, false] (by kernel_rfl) rfl rfl ⟨(HD.out.g1 C.hg), (read_last HD.out.2.1 HL.out HX.out hbig)⟩ (fun hHeld => ?_)
    refine pure_ (i := 0) (N := some 46) (v := ?_) (a' := ?_) #[true, false, false, false, false, false, false, false, false, false, false, false, false, false, false, false, false, false, false, false, false, false, false, false, false, false, false, false, false, false, false, false, false, false, false, false] rfl rfl (by kernel_rfl) (fun _ _ _ h => h) (Or.inl ⟨by rfl, ?_⟩) ?_ ?_
    rotate_left
    · intro w'
      go_simp
      with_reducible rfl
    rotate_left
    · simp only [Act.put, List.setIfInBounds_toArray, List.set_cons_zero, List.set_cons_succ, i64_w, i32_w]
      rfl
    refine pure_ (i := 1) (N := some 47) (v := ?_) (a' := ?_) #[true, true, false, false, false, false, false, false, false, false, false, false, false, false, false, false, false, false, false, false, false, false, false, false, false, false, false, false, false, false, false, false, false, false, false, false] rfl rfl (by kernel_rfl) (fun _ _ _ h => h) (Or.inl ⟨by rfl, ?_⟩) ?_ ?_
    rotate_left
    · intro w'
      go_simp
      with_reducible rfl
    rotate_left
    · simp only [Act.put, List.setIfInBounds_toArray, List.set_cons_zero, List.set_cons_succ, i64_w, i32_w]
      rfl
    refine pure_ (i := 2) (N := some 48) (v := ?_) (a' := ?_) #[true, true, true, false, false, false, false, false, false, false, false, false, false, false, false, false, false, false, false, false, false, false, false, false, false, false, false, false, false, false, false, false, false, false, false, false] rfl rfl (by kernel_rfl) (fun _ _ _ h => h) (Or.inl ⟨by rfl, ?_⟩) ?_ ?_
    rotate_left
    · intro w'
      go_simp
      with_reducible rfl
    rotate_left
    · simp only [Act.put, List.setIfInBounds_toArray, List.set_cons_zero, List.set_cons_succ, i64_w, i32_w]
      rfl
    refine pure_ (i := 3) (N := some 49) (v := ?_) (a' := ?_) #[true, true, true, true, false, false, false, false, false, false, false, false, false, false, false, false, false, false, false, false, false, false, false, false, false, false, false, false, false, false, false, false, false, false, false, false] rfl rfl (by kernel_rfl) (fun _ _ _ h => h) (Or.inl ⟨by rfl, ?_⟩) ?_ ?_
    rotate_left
    · intro w'
      go_simp
      with_reducible rfl
    rotate_left
    · simp only [Act.put, List.setIfInBounds_toArray, List.set_cons_zero, List.set_cons_succ, i64_w, i32_w]
      rfl
    refine pure_ (i := 4) (N := some 50) (v := ?_) (a' := ?_) #[true, true, true, true, true, false, false, false, false, false, false, false, false, false, false, false, false, false, false, false, false, false, false, false, false, false, false, false, false, false, false, false, false, false, false, false] rfl rfl (by kernel_rfl) (fun _ _ _ h => h) (Or.inl ⟨by rfl, ?_⟩) ?_ ?_
    rotate_left
    · intro w'
      go_simp
      with_reducible rfl
    rotate_left
    · simp only [Act.put, List.setIfInBounds_toArray, List.set_cons_zero, List.set_cons_succ, i64_w, i32_w]
      rfl
    refine pure_ (i := 5) (N := some 51) (v := ?_) (a' := ?_) #[true, true, true, true, true, true, false, false, false, false, false, false, false, false, false, false, false, false, false, false, false, false, false, false, false, false, false, false, false, false, false, false, false, false, false, false] rfl rfl (by kernel_rfl) (fun _ _ _ h => h) (Or.inl ⟨by rfl, ?_⟩) ?_ ?_
    rotate_left
    · intro w'
      go_simp
      with_reducible rfl
    rotate_left
    · simp only [Act.put, List.setIfInBounds_toArray, List.set_cons_zero, List.set_cons_succ, i64_w, i32_w]
      rfl
    refine take_ (i := 6) (N := some 52) (v := ?_) (a' := ?_) #[true, true, true, true, true, true, true, false, false, false, false, false, false, false, false, false, false, false, false, false, false, false, false, false, false, false, false, false, false, false, false, false, false, false, false, false] rfl rfl (by kernel_rfl) (fun _ _ _ h => h) (Or.inl ⟨by rfl, ?_⟩) hHeld ?_ ?_
    rotate_left
    · rintro w' ⟨s0, s1⟩
      go_simp
      with_reducible rfl
    rotate_left
    · simp only [Act.put, List.setIfInBounds_toArray, List.set_cons_zero, List.set_cons_succ, i64_w, i32_w]
      rfl
    refine pure_ (i := 7) (N := some 53) (v := ?_) (a' := ?_) #[true, true, true, true, true, true, true, true, false, false, false, false, false, false, false, false, false, false, false, false, false, false, false, false, false, false, false, false, false, false, false, false, false, false, false, false] rfl rfl (by kernel_rfl) (fun _ _ _ h => h) (Or.inl ⟨by rfl, ?_⟩) ?_ ?_
    rotate_left
    · intro w'
      go_simp
      with_reducible rfl
    rotate_left
    · simp only [Act.put, List.setIfInBounds_toArray, List.set_cons_zero, List.set_cons_succ, i64_w, i32_w]
      rfl
    refine pure_ (i := 8) (N := some 54) (v := ?_) (a' := ?_) #[true, true, true, true, true, true, true, true, true, false, false, false, false, false, false, false, false, false, false, false, false, false, false, false, false, false, false, false, false, false, false, false, false, false, false, false] rfl rfl (by kernel_rfl) (fun _ _ _ h => h) (Or.inl ⟨by rfl, ?_⟩) ?_ ?_
    rotate_left
    · intro w'
      go_simp
      with_reducible rfl
    rotate_left
    · simp only [Act.put, List.setIfInBounds_toArray, List.set_cons_zero, List.set_cons_succ, i64_w, i32_w]
      rfl
    refine pure_ (i := 9) (N := some 55) (v := ?_) (a' := ?_) #[true, true, true, true, true, true, true, true, true, true, false, false, false, false, false, false, false, false, false, false, false, false, false, false, false, false, false, false, false, false, false, false, false, false, false, false] rfl rfl (by kernel_rfl) (fun _ _ _ h => h) (Or.inl ⟨by rfl, ?_⟩) ?_ ?_
    rotate_left
    · intro w'
      go_simp
      with_reducible rfl
    rotate_left
    · simp only [Act.put, List.setIfInBounds_toArray, List.set_cons_zero, List.set_cons_succ, i64_w, i32_w]
      rfl
    refine pure_ (i := 10) (N := some 56) (v := ?_) (a' := ?_) #[true, true, true, true, true, true, true, true, true, true, true, false, false, false, false, false, false, false, false, false, false, false, false, false, false, false, false, false, false, false, false, false, false, false, false, false] rfl rfl (by kernel_rfl) (fun _ _ _ h => h) (Or.inl ⟨by rfl, ?_⟩) ?_ ?_
    rotate_left
    · intro w'
      go_simp
      with_reducible rfl
    rotate_left
    · simp only [Act.put, List.setIfInBounds_toArray, List.set_cons_zero, List.set_cons_succ, i64_w, i32_w]
      rfl
    refine pure_ (i := 11) (N := some 57) (v := ?_) (a' := ?_) #[true, true, true, true, true, true, true, true, true, true, true, true, false, false, false, false, false, false, false, false, false, false, false, false, false, false, false, false, false, false, false, false, false, false, false, false] rfl rfl (by kernel_rfl) (fun _ _ _ h => h) (Or.inl ⟨by rfl, ?_⟩) ?_ ?_
    rotate_left
    · intro w'
      go_simp
      with_reducible rfl
    rotate_left
    · simp only [Act.put, List.setIfInBounds_toArray, List.set_cons_zero, List.set_cons_succ, i64_w, i32_w]
      rfl
    refine pure_ (i := 12) (N := some 58) (v := ?_) (a' := ?_) #[true, true, true, true, true, true, true, true, true, true, true, true, true, false, false, false, false, false, false, false, false, false, false, false, false, false, false, false, false, false, false, false, false, false, false, false] rfl rfl (by kernel_rfl) (fun _ _ _ h => h) (Or.inl ⟨by rfl, ?_⟩) ?_ ?_
    rotate_left
    · intro w'
      go_simp
      with_reducible rfl
    rotate_left
    · simp only [Act.put, List.setIfInBounds_toArray, List.set_cons_zero, List.set_cons_succ, i64_w, i32_w]
      rfl
    refine pure_ (i := 13) (N := some 59) (v := ?_) (a' := ?_) #[true, true, true, true, true, true, true, true, true, true, true, true, true, true, false, false, false, false, false, false, false, false, false, false, false, false, false, false, false, false, false, false, false, false, false, false] rfl rfl (by kernel_rfl) (fun _ _ _ h => h) (Or.inl ⟨by rfl, ?_⟩) ?_ ?_
    rotate_left
    · intro w'
      go_simp
      with_reducible rfl
    rotate_left
    · simp only [Act.put, List.setIfInBounds_toArray, List.set_cons_zero, List.set_cons_succ, i64_w, i32_w]
      rfl
    refine pure_ (i := 15) (N := some 61) (v := ?_) (a' := ?_) #[true, true, true, true, true, true, true, true, true, true, true, true, true, true, false, true, false, false, false, false, false, false, false, false, false, false, false, false, false, false, false, false, false, false, false, false] rfl rfl (by kernel_rfl) (fun _ _ _ h => h) (Or.inl ⟨by rfl, ?_⟩) ?_ ?_
    rotate_left
    · intro w'
      go_simp
      with_reducible rfl
    rotate_left
    · simp only [Act.put, List.setIfInBounds_toArray, List.set_cons_zero, List.set_cons_succ, i64_w, i32_w]
      rfl
    refine pure_ (i := 16) (N := some 62) (v := ?_) (a' := ?_) #[true, true, true, true, true, true, true, true, true, true, true, true, true, true, false, true, true, false, false, false, false, false, false, false, false, false, false, false, false, false, false, false, false, false, false, false] rfl rfl (by kernel_rfl) (fun _ _ _ h => h) (Or.inl ⟨by rfl, ?_⟩) ?_ ?_
    rotate_left
    · intro w'
      go_simp
      with_reducible rfl
    rotate_left
    · simp only [Act.put, List.setIfInBounds_toArray, List.set_cons_zero, List.set_cons_succ, i64_w, i32_w]
      rfl
    refine pure_ (i := 17) (N := some 63) (v := ?_) (a' := ?_) #[true, true, true, true, true, true, true, true, true, true, true, true, true, true, false, true, true, true, false, false, false, false, false, false, false, false, false, false, false, false, false, false, false, false, false, false] rfl rfl (by kernel_rfl) (fun _ _ _ h => h) (Or.inl ⟨by rfl, ?_⟩) ?_ ?_
    rotate_left
    · intro w'
      go_simp
      with_reducible rfl
    rotate_left
    · simp only [Act.put, List.setIfInBounds_toArray, List.set_cons_zero, List.set_cons_succ, i64_w, i32_w]
      rfl
    refine pure_ (i := 18) (N := some 64) (v := ?_) (a' := ?_) #[true, true, true, true, true, true, true, true, true, true, true, true, true, true, false, true, true, true, true, false, false, false, false, false, false, false, false, false, false, false, false, false, false, false, false, false] rfl rfl (by kernel_rfl) (fun _ _ _ h => h) (Or.inl ⟨by rfl, ?_⟩) ?_ ?_
    rotate_left
    · intro w'
      go_simp
      with_reducible rfl
    rotate_left
    · simp only [Act.put, List.setIfInBounds_toArray, List.set_cons_zero, List.set_cons_succ, i64_w, i32_w]
      rfl
    refine take_ (i := 14) (N := some 60) (v := ?_) (a' := ?_) #[true, true, true, true, true, true, true, true, true, true, true, true, true, true, true, true, true, true, true, false, false, false, false, false, false, false, false, false, false, false, false, false, false, false, false, false] rfl rfl (by kernel_rfl) (fun _ _ _ h => h) (Or.inl ⟨by rfl, ?_⟩) hHeld ?_ ?_
    rotate_left
    · rintro w' ⟨s0, s1⟩
      go_simp
      with_reducible rfl
    rotate_left
    · simp only [Act.put, List.setIfInBounds_toArray, List.set_cons_zero, List.set_cons_succ, i64_w, i32_w]
      rfl
    refine take_ (i := 19) (N := some 65) (v := ?_) (a' := ?_) #[true, true, true, true, true, true, true, true, true, true, true, true, true, true, true, true, true, true, true, true, false, false, false, false, false, false, false, false, false, false, false, false, false, false, false, false] rfl rfl (by kernel_rfl) (fun _ _ _ h => h) (Or.inl ⟨by rfl, ?_⟩) hHeld ?_ ?_
    rotate_left
    · rintro w' ⟨s0, s1⟩
      go_simp
      with_reducible rfl
    rotate_left
    · simp only [Act.put, List.setIfInBounds_toArray, List.set_cons_zero, List.set_cons_succ, i64_w, i32_w]
      rfl
    refine pure_ (i := 20) (N := some 66) (v := ?_) (a' := ?_) #[true, true, true, true, true, true, true, true, true, true, true, true, true, true, true, true, true, true, true, true, true, false, false, false, false, false, false, false, false, false, false, false, false, false, false, false] rfl rfl (by kernel_rfl) (fun _ _ _ h => h) (Or.inl ⟨by rfl, ?_⟩) ?_ ?_
    rotate_left
    · intro w'
      go_simp
      with_reducible rfl
    rotate_left
    · simp only [Act.put, List.setIfInBounds_toArray, List.set_cons_zero, List.set_cons_succ, i64_w, i32_w]
      rfl
    refine pure_ (i := 21) (N := some 67) (v := ?_) (a' := ?_) #[true, true, true, true, true, true, true, true, true, true, true, true, true, true, true, true, true, true, true, true, true, true, false, false, false, false, false, false, false, false, false, false, false, false, false, false] rfl rfl (by kernel_rfl) (fun _ _ _ h => h) (Or.inl ⟨by rfl, ?_⟩) ?_ ?_
    rotate_left
    · intro w'
      go_simp
      with_reducible rfl
    rotate_left
    · simp only [Act.put, List.setIfInBounds_toArray, List.set_cons_zero, List.set_cons_succ, i64_w, i32_w]
      rfl
    refine pure_ (i := 22) (N := some 68) (v := ?_) (a' := ?_) #[true, true, true, true, true, true, true, true, true, true, true, true, true, true, true, true, true, true, true, true, true, true, true, false, false, false, false, false, false, false, false, false, false, false, false, false] rfl rfl (by kernel_rfl) (fun _ _ _ h => h) (Or.inl ⟨by rfl, ?_⟩) ?_ ?_
    rotate_left
    · intro w'
      go_simp
      with_reducible rfl
    rotate_left
    · simp only [Act.put, List.setIfInBounds_toArray, List.set_cons_zero, List.set_cons_succ, i64_w, i32_w]
      rfl
    refine take_ (i := 23) (N := some 69) (v := ?_) (a' := ?_) #[true, true, true, true, true, true, true, true, true, true, true, true, true, true, true, true, true, true, true, true, true, true, true, true, false, false, false, false, false, false, false, false, false, false, false, false] rfl rfl (by kernel_rfl) (fun _ _ _ h => h) (Or.inl ⟨by rfl, ?_⟩) hHeld ?_ ?_
    rotate_left
    · rintro w' ⟨s0, s1⟩
      go_simp
      with_reducible rfl
    rotate_left
    · simp only [Act.put, List.setIfInBounds_toArray, List.set_cons_zero, List.set_cons_succ, i64_w, i32_w]
      rfl
    refine pure_ (i := 24) (N := some 70) (v := ?_) (a' := ?_) #[true, true, true, true, true, true, true, true, true, true, true, true, true, true, true, true, true, true, true, true, true, true, true, true, true, false, false, false, false, false, false, false, false, false, false, false] rfl rfl (by kernel_rfl) (fun _ _ _ h => h) (Or.inl ⟨by rfl, ?_⟩) ?_ ?_
    rotate_left
    · intro w'
      go_simp
      with_reducible rfl
    rotate_left
    · simp only [Act.put, List.setIfInBounds_toArray, List.set_cons_zero, List.set_cons_succ, i64_w, i32_w]
      rfl
    refine pure_ (i := 25) (N := some 71) (v := ?_) (a' := ?_) #[true, true, true, true, true, true, true, true, true, true, true, true, true, true, true, true, true, true, true, true, true, true, true, true, true, true, false, false, false, false, false, false, false, false, false, false] rfl rfl (by kernel_rfl) (fun _ _ _ h => h) (Or.inl ⟨by rfl, ?_⟩) ?_ ?_
    rotate_left
    · intro w'
      go_simp
      with_reducible rfl
    rotate_left
    · simp only [Act.put, List.setIfInBounds_toArray, List.set_cons_zero, List.set_cons_succ, i64_w, i32_w]
      rfl
    refine pure_ (i := 26) (N := some 72) (v := ?_) (a' := ?_) #[true, true, true, true, true, true, true, true, true, true, true, true, true, true, true, true, true, true, true, true, true, true, true, true, true, true, true, false, false, false, false, false, false, false, false, false] rfl rfl (by kernel_rfl) (fun _ _ _ h => h) (Or.inl ⟨by rfl, ?_⟩) ?_ ?_
    rotate_left
    · intro w'
      go_simp
      with_reducible rfl
    rotate_left
    · simp only [Act.put, List.setIfInBounds_toArray, List.set_cons_zero, List.set_cons_succ, i64_w, i32_w]
      rfl
    refine pure_ (i := 27) (N := some 73) (v := ?_) (a' := ?_) #[true, true, true, true, true, true, true, true, true, true, true, true, true, true, true, true, true, true, true, true, true, true, true, true, true, true, true, true, false, false, false, false, false, false, false, false] rfl rfl (by kernel_rfl) (fun _ _ _ h => h) (Or.inl ⟨by rfl, ?_⟩) ?_ ?_
    rotate_left
    · intro w'
      go_simp
      with_reducible rfl
    rotate_left
    · simp only [Act.put, List.setIfInBounds_toArray, List.set_cons_zero, List.set_cons_succ, i64_w, i32_w]
      rfl
    refine pure_ (i := 28) (N := some 74) (v := ?_) (a' := ?_) #[true, true, true, true, true, true, true, true, true, true, true, true, true, true, true, true, true, true, true, true, true, true, true, true, true, true, true, true, true, false, false, false, false, false, false, false] rfl rfl (by kernel_rfl) (fun _ _ _ h => h) (Or.inl ⟨by rfl, ?_⟩) ?_ ?_
    rotate_left
    · intro w'
      go_simp
      with_reducible rfl
    rotate_left
    · simp only [Act.put, List.setIfInBounds_toArray, List.set_cons_zero, List.set_cons_succ, i64_w, i32_w]
      rfl
    refine one_ (i := 29) (N := some 75) #[true, true, true, true, true, true, true, true, true, true, true, true, true, true, true, true, true, true, true, true, true, true, true, true, true, true, true, true, true, true, false, false, false, false, false, false] rfl rfl (by kernel_rfl) (by decide) (fun K hK => ?_)
    refine goes_ Tryd.func25 (by kernel_rfl) rfl #[.pointer (some ⟨w.heap.size + 1, 0, none⟩), .int .u8 101] (by rfl) rfl rfl (by (try simp only [List.map_toArray, List.map_cons, List.map_nil]); first | done | rfl) ?_
    refine (C.c_e _ (some ad) c HD.out).mono ?_
    rintro en w3 ⟨rfl, h3⟩
    refine ⟨_, rfl, ?_⟩
    have H4 := Aside0.mk h3
    clear h3
    refine hK.out _ _ ⟨(H4.out.g1 C.hg), (read_last H4.out.2.1 HL.out HX.out hbig)⟩ (fun hHeld => ?_)
    clear hK K
    refine norm_ (a' := ?_) ?_ ?_
    rotate_left
    · show Act.put _ (some 75) _ = _
      simp only [Act.put, List.setIfInBounds_toArray, List.set_cons_zero, List.set_cons_succ, i64_w, i32_w]
      rfl
    refine pure_ (i := 30) (N := some 76) (v := ?_) (a' := ?_) #[true, true, true, true, true, true, true, true, true, true, true, true, true, true, true, true, true, true, true, true, true, true, true, true, true, true, true, true, true, true, true, false, false, false, false, false] rfl rfl (by kernel_rfl) (fun _ _ _ h => h) (Or.inl ⟨by rfl, ?_⟩) ?_ ?_
    rotate_left
    · intro w'
      go_simp
      with_reducible rfl
    rotate_left
    · simp only [Act.put, List.setIfInBounds_toArray, List.set_cons_zero, List.set_cons_succ, i64_w, i32_w]
      rfl
    refine pure_ (i := 31) (N := some 77) (v := ?_) (a' := ?_) #[true, true, true, true, true, true, true, true, true, true, true, true, true, true, true, true, true, true, true, true, true, true, true, true, true, true, true, true, true, true, true, true, false, false, false, false] rfl rfl (by kernel_rfl) (fun _ _ _ h => h) (Or.inl ⟨by rfl, ?_⟩) ?_ ?_
    rotate_left
    · intro w'
      go_simp
      with_reducible rfl
    rotate_left
    · simp only [Act.put, List.setIfInBounds_toArray, List.set_cons_zero, List.set_cons_succ, i64_w, i32_w]
      rfl
    refine pure_ (i := 32) (N := some 78) (v := undef) (a' := ?_) #[true, true, true, true, true, true, true, true, true, true, true, true, true, true, true, true, true, true, true, true, true, true, true, true, true, true, true, true, true, true, true, true, true, false, false, false] rfl rfl (by kernel_rfl) (fun _ _ _ h => h) (Or.inr ⟨by rfl, rfl⟩) ?_ ?_
    rotate_left
    · simp only [Act.put, List.setIfInBounds_toArray, List.set_cons_zero, List.set_cons_succ, i64_w, i32_w]
      rfl
    refine pure_ (i := 33) (N := some 79) (v := undef) (a' := ?_) #[true, true, true, true, true, true, true, true, true, true, true, true, true, true, true, true, true, true, true, true, true, true, true, true, true, true, true, true, true, true, true, true, true, true, false, false] rfl rfl (by kernel_rfl) (fun _ _ _ h => h) (Or.inr ⟨by rfl, rfl⟩) ?_ ?_
    rotate_left
    · simp only [Act.put, List.setIfInBounds_toArray, List.set_cons_zero, List.set_cons_succ, i64_w, i32_w]
      rfl
    refine pure_ (i := 34) (N := some 80) (v := ?_) (a' := ?_) #[true, true, true, true, true, true, true, true, true, true, true, true, true, true, true, true, true, true, true, true, true, true, true, true, true, true, true, true, true, true, true, true, true, true, true, false] rfl rfl (by kernel_rfl) (fun _ _ _ h => h) (Or.inl ⟨by rfl, ?_⟩) ?_ ?_
    rotate_left
    · intro w'
      go_simp
      with_reducible rfl
    rotate_left
    · simp only [Act.put, List.setIfInBounds_toArray, List.set_cons_zero, List.set_cons_succ, i64_w, i32_w]
      rfl
    refine pure_ (i := 35) (N := some 6) (v := ?_) (a' := ?_) #[true, true, true, true, true, true, true, true, true, true, true, true, true, true, true, true, true, true, true, true, true, true, true, true, true, true, true, true, true, true, true, true, true, true, true, true] rfl rfl (by kernel_rfl) (fun _ _ _ h => h) (Or.inl ⟨by rfl, ?_⟩) ?_ ?_
    rotate_left
    · intro w'
      go_simp
      with_reducible rfl
    rotate_left
    · simp only [Act.put, List.setIfInBounds_toArray, List.set_cons_zero, List.set_cons_succ, i64_w, i32_w]
      rfl
    refine done_ (by kernel_rfl) ?_
    clear HD
    have d4 := H4.out.g4 C.hg
    go_wp2
    have b0 := C.dec H4.out.2.2
    have e0 : w3.cell? ⟨w.heap.size, 0, none⟩ = some (.bool false) := (blk_cell b0 0).trans rfl
    have e1 : w3.cell? ⟨w.heap.size, 1, none⟩ = some (.slice none 0 0) := (blk_cell b0 1).trans rfl
    have e2 : w3.cell? ⟨w.heap.size, 2, none⟩ = some (.int .i64 0) := (blk_cell b0 2).trans rfl
    have f0 := blk_frozen b0 0
    have f1 := blk_frozen b0 1
    have f2 := blk_frozen b0 2
    go_region
    all_goals (go_wp2; obtain ⟨z1, z2⟩ := C.put H4.out.2.2 1 false (.slice none 0 0) 0; exact bodyPost_ret (results_ctt rfl _ _ _ 24 _ (0, 0) _ rfl z2 Tryd.underlying24 rfl (by kernel_rfl)) rfl ⟨rfl, z1⟩)

set_option linter.unusedSimpArgs false in
set_option maxHeartbeats 4000000 in
set_option maxRecDepth 100000 in
theorem read_e_some (w w0 : World) (a0 : ByteArray) (n0 nb hb po : Bool) (fr p1 p p2 p3 : Nat) (D : List Int) (E : Int) (C : ReadC w w0 a0 n0 nb hb po fr p1 p p2 p3 D E) (n : Nat) (hbig : n ≤ 140737488351232) (hlen : D.length = n + 1) (last : Int) (hlast : rd D (n : Int) = last) (hz : last ≠ 0) (hnb : nb = true) (hp : p = p1) (hhb : hb = true) :
    Calls Tryd.prog 11 #[.string a0] w (ReadEnd w n0 po D E a0 p3) := by
  subst hnb hp hhb
  have k8 : wrap64 (n : Int) = (n : Int) := by unfold wrap64; omega
  have hidx : (D.length : Int) - 1 = (n : Int) := by omega
  have k1 : (n < D.length) = True := eq_true (by omega)
  have k2 : decide (n < D.length) = true := decide_eq_true (by omega)
  have k3 : ((n : Int) < (D.length : Int)) = True := eq_true (by omega)
  have k4 : ((D.length : Int) == 0) = false := by simp; intro h; rw [h] at hlen; simp at hlen
  have k5 : (D.length == 0) = false := by simp; intro h; rw [h] at hlen; simp at hlen
  have k10 : (last == 0) = false := by simpa using hz
  have k11 : (last != 0) = true := by simpa using hz
  have k12 : (last = 0) = False := eq_false hz
  clear hz
  have HL := Aside0.mk hlen
  have HX := Aside0.mk hlast
  clear hlen hlast
  go_enter Tryd.func11, Tryd.ntmps11
  by_cases hf : D.length = 1000
  · have k6 : ((D.length : Int) == 1000) = true := by simp; omega
    have k7 : (D.length == 1000) = true := by simp; omega
    clear hf
    go_wp2_with (first
        | (go_at_call 25; refine (C.c_has _ C.start).mono ?_; rintro en w1 ⟨rfl, h1⟩; have H1 := Aside0.mk (h1.gn C.hg n0); have d0 := h1.g0 C.hg; have f0 := h1.gf C.hg 0; clear h1)
        | (go_at_call 26; refine (C.c_num _ H1.out).mono ?_; rintro en w2 ⟨v1, rfl, h2⟩; obtain ⟨A, c, e1⟩ := Kd.R_slice h2.2.1; subst e1; have hC := (Kd.R_reads' h2.2.1).2.2; obtain ⟨ad, eA, hcell⟩ := Kd.at_int hC (n : Int) (by omega) (by have := HL.out; omega); subst eA; simp only [Int.toNat_natCast] at hcell; rw [HX.out] at hcell; have H2 := Aside0.mk h2; have d1 := h2.g1 C.hg; have d4 := h2.g4 C.hg; have f4 := h2.gf C.hg 4; clear h2 H1 d0 f0 hC))
    have hr := H2.out.drew_ 1
    have HD := Aside0.mk hr
    clear hr
    refine start_ (n := 36) (S := fun w' => w'.cell? ⟨w.heap.size + 1, 1, none⟩ = some (.slice (some ad) D.length c) ∧ w'.cell? (ad.add n) = some (.int .u8 last)) (ds := []) #[false, false, false, false, false, false, false, false, false, false, false, false, false, false, false, false, false, false, false, false, false, false, false, false, false, false, false, false, false, false, false, false, false, false, false, false] (by kernel_rfl) rfl rfl ⟨(HD.out.g1 C.hg), (read_last HD.out.2.1 HL.out HX.out hbig)⟩ (fun hHeld => ?_)
    refine pure_ (i := 0) (N := some 46) (v := ?_) (a' := ?_) #[true, false, false, false, false, false, false, false, false, false, false, false, false, false, false, false, false, false, false, false, false, false, false, false, false, false, false, false, false, false, false, false, false, false, false, false] rfl rfl (by kernel_rfl) (fun _ _ _ h => h) (Or.inl ⟨by rfl, ?_⟩) ?_ ?_
    rotate_left
    · intro w'
      go_simp
      with_reducible rfl
    rotate_left
    · simp only [Act.put, List.setIfInBounds_toArray, List.set_cons_zero, List.set_cons_succ, i64_w, i32_w]
      rfl
    refine pure_ (i := 1) (N := some 47) (v := ?_) (a' := ?_) #[true, true, false, false, false, false, false, false, false, false, false, false, false, false, false, false, false, false, false, false, false, false, false, false, false, false, false, false, false, false, false, false, false, false, false, false] rfl rfl (by kernel_rfl) (fun _ _ _ h => h) (Or.inl ⟨by rfl, ?_⟩) ?_ ?_
    rotate_left
    · intro w'
      go_simp
      with_reducible rfl
    rotate_left
    · simp only [Act.put, List.setIfInBounds_toArray, List.set_cons_zero, List.set_cons_succ, i64_w, i32_w]
      rfl
    refine pure_ (i := 2) (N := some 48) (v := ?_) (a' := ?_) #[true, true, true, false, false, false, false, false, false, false, false, false, false, false, false, false, false, false, false, false, false, false, false, false, false, false, false, false, false, false, false, false, false, false, false, false] rfl rfl (by kernel_rfl) (fun _ _ _ h => h) (Or.inl ⟨by rfl, ?_⟩) ?_ ?_
    rotate_left
    · intro w'
      go_simp
      with_reducible rfl
    rotate_left
    · simp only [Act.put, List.setIfInBounds_toArray, List.set_cons_zero, List.set_cons_succ, i64_w, i32_w]
      rfl
    refine pure_ (i := 3) (N := some 49) (v := ?_) (a' := ?_) #[true, true, true, true, false, false, false, false, false, false, false, false, false, false, false, false, false, false, false, false, false, false, false, false, false, false, false, false, false, false, false, false, false, false, false, false] rfl rfl (by kernel_rfl) (fun _ _ _ h => h) (Or.inl ⟨by rfl, ?_⟩) ?_ ?_
    rotate_left
    · intro w'
      go_simp
      with_reducible rfl
    rotate_left
    · simp only [Act.put, List.setIfInBounds_toArray, List.set_cons_zero, List.set_cons_succ, i64_w, i32_w]
      rfl
    refine pure_ (i := 4) (N := some 50) (v := ?_) (a' := ?_) #[true, true, true, true, true, false, false, false, false, false, false, false, false, false, false, false, false, false, false, false, false, false, false, false, false, false, false, false, false, false, false, false, false, false, false, false] rfl rfl (by kernel_rfl) (fun _ _ _ h => h) (Or.inl ⟨by rfl, ?_⟩) ?_ ?_
    rotate_left
    · intro w'
      go_simp
      with_reducible rfl
    rotate_left
    · simp only [Act.put, List.setIfInBounds_toArray, List.set_cons_zero, List.set_cons_succ, i64_w, i32_w]
      rfl
    refine pure_ (i := 5) (N := some 51) (v := ?_) (a' := ?_) #[true, true, true, true, true, true, false, false, false, false, false, false, false, false, false, false, false, false, false, false, false, false, false, false, false, false, false, false, false, false, false, false, false, false, false, false] rfl rfl (by kernel_rfl) (fun _ _ _ h => h) (Or.inl ⟨by rfl, ?_⟩) ?_ ?_
    rotate_left
    · intro w'
      go_simp
      with_reducible rfl
    rotate_left
    · simp only [Act.put, List.setIfInBounds_toArray, List.set_cons_zero, List.set_cons_succ, i64_w, i32_w]
      rfl
    refine take_ (i := 6) (N := some 52) (v := ?_) (a' := ?_) #[true, true, true, true, true, true, true, false, false, false, false, false, false, false, false, false, false, false, false, false, false, false, false, false, false, false, false, false, false, false, false, false, false, false, false, false] rfl rfl (by kernel_rfl) (fun _ _ _ h => h) (Or.inl ⟨by rfl, ?_⟩) hHeld ?_ ?_
    rotate_left
    · rintro w' ⟨s0, s1⟩
      go_simp
      with_reducible rfl
    rotate_left
    · simp only [Act.put, List.setIfInBounds_toArray, List.set_cons_zero, List.set_cons_succ, i64_w, i32_w]
      rfl
    refine pure_ (i := 7) (N := some 53) (v := ?_) (a' := ?_) #[true, true, true, true, true, true, true, true, false, false, false, false, false, false, false, false, false, false, false, false, false, false, false, false, false, false, false, false, false, false, false, false, false, false, false, false] rfl rfl (by kernel_rfl) (fun _ _ _ h => h) (Or.inl ⟨by rfl, ?_⟩) ?_ ?_
    rotate_left
    · intro w'
      go_simp
      with_reducible rfl
    rotate_left
    · simp only [Act.put, List.setIfInBounds_toArray, List.set_cons_zero, List.set_cons_succ, i64_w, i32_w]
      rfl
    refine pure_ (i := 8) (N := some 54) (v := ?_) (a' := ?_) #[true, true, true, true, true, true, true, true, true, false, false, false, false, false, false, false, false, false, false, false, false, false, false, false, false, false, false, false, false, false, false, false, false, false, false, false] rfl rfl (by kernel_rfl) (fun _ _ _ h => h) (Or.inl ⟨by rfl, ?_⟩) ?_ ?_
    rotate_left
    · intro w'
      go_simp
      with_reducible rfl
    rotate_left
    · simp only [Act.put, List.setIfInBounds_toArray, List.set_cons_zero, List.set_cons_succ, i64_w, i32_w]
      rfl
    refine pure_ (i := 9) (N := some 55) (v := ?_) (a' := ?_) #[true, true, true, true, true, true, true, true, true, true, false, false, false, false, false, false, false, false, false, false, false, false, false, false, false, false, false, false, false, false, false, false, false, false, false, false] rfl rfl (by kernel_rfl) (fun _ _ _ h => h) (Or.inl ⟨by rfl, ?_⟩) ?_ ?_
    rotate_left
    · intro w'
      go_simp
      with_reducible rfl
    rotate_left
    · simp only [Act.put, List.setIfInBounds_toArray, List.set_cons_zero, List.set_cons_succ, i64_w, i32_w]
      rfl
    refine pure_ (i := 10) (N := some 56) (v := ?_) (a' := ?_) #[true, true, true, true, true, true, true, true, true, true, true, false, false, false, false, false, false, false, false, false, false, false, false, false, false, false, false, false, false, false, false, false, false, false, false, false] rfl rfl (by kernel_rfl) (fun _ _ _ h => h) (Or.inl ⟨by rfl, ?_⟩) ?_ ?_
    rotate_left
    · intro w'
      go_simp
      with_reducible rfl
    rotate_left
    · simp only [Act.put, List.setIfInBounds_toArray, List.set_cons_zero, List.set_cons_succ, i64_w, i32_w]
      rfl
    refine pure_ (i := 11) (N := some 57) (v := ?_) (a' := ?_) #[true, true, true, true, true, true, true, true, true, true, true, true, false, false, false, false, false, false, false, false, false, false, false, false, false, false, false, false, false, false, false, false, false, false, false, false] rfl rfl (by kernel_rfl) (fun _ _ _ h => h) (Or.inl ⟨by rfl, ?_⟩) ?_ ?_
    rotate_left
    · intro w'
      go_simp
      with_reducible rfl
    rotate_left
    · simp only [Act.put, List.setIfInBounds_toArray, List.set_cons_zero, List.set_cons_succ, i64_w, i32_w]
      rfl
    refine pure_ (i := 12) (N := some 58) (v := ?_) (a' := ?_) #[true, true, true, true, true, true, true, true, true, true, true, true, true, false, false, false, false, false, false, false, false, false, false, false, false, false, false, false, false, false, false, false, false, false, false, false] rfl rfl (by kernel_rfl) (fun _ _ _ h => h) (Or.inl ⟨by rfl, ?_⟩) ?_ ?_
    rotate_left
    · intro w'
      go_simp
      with_reducible rfl
    rotate_left
    · simp only [Act.put, List.setIfInBounds_toArray, List.set_cons_zero, List.set_cons_succ, i64_w, i32_w]
      rfl
    refine pure_ (i := 13) (N := some 59) (v := ?_) (a' := ?_) #[true, true, true, true, true, true, true, true, true, true, true, true, true, true, false, false, false, false, false, false, false, false, false, false, false, false, false, false, false, false, false, false, false, false, false, false] rfl rfl (by kernel_rfl) (fun _ _ _ h => h) (Or.inl ⟨by rfl, ?_⟩) ?_ ?_
    rotate_left
    · intro w'
      go_simp
      with_reducible rfl
    rotate_left
    · simp only [Act.put, List.setIfInBounds_toArray, List.set_cons_zero, List.set_cons_succ, i64_w, i32_w]
      rfl
    refine pure_ (i := 15) (N := some 61) (v := ?_) (a' := ?_) #[true, true, true, true, true, true, true, true, true, true, true, true, true, true, false, true, false, false, false, false, false, false, false, false, false, false, false, false, false, false, false, false, false, false, false, false] rfl rfl (by kernel_rfl) (fun _ _ _ h => h) (Or.inl ⟨by rfl, ?_⟩) ?_ ?_
    rotate_left
    · intro w'
      go_simp
      with_reducible rfl
    rotate_left
    · simp only [Act.put, List.setIfInBounds_toArray, List.set_cons_zero, List.set_cons_succ, i64_w, i32_w]
      rfl
    refine pure_ (i := 16) (N := some 62) (v := ?_) (a' := ?_) #[true, true, true, true, true, true, true, true, true, true, true, true, true, true, false, true, true, false, false, false, false, false, false, false, false, false, false, false, false, false, false, false, false, false, false, false] rfl rfl (by kernel_rfl) (fun _ _ _ h => h) (Or.inl ⟨by rfl, ?_⟩) ?_ ?_
    rotate_left
    · intro w'
      go_simp
      with_reducible rfl
    rotate_left
    · simp only [Act.put, List.setIfInBounds_toArray, List.set_cons_zero, List.set_cons_succ, i64_w, i32_w]
      rfl
    refine pure_ (i := 17) (N := some 63) (v := ?_) (a' := ?_) #[true, true, true, true, true, true, true, true, true, true, true, true, true, true, false, true, true, true, false, false, false, false, false, false, false, false, false, false, false, false, false, false, false, false, false, false] rfl rfl (by kernel_rfl) (fun _ _ _ h => h) (Or.inl ⟨by rfl, ?_⟩) ?_ ?_
    rotate_left
    · intro w'
      go_simp
      with_reducible rfl
    rotate_left
    · simp only [Act.put, List.setIfInBounds_toArray, List.set_cons_zero, List.set_cons_succ, i64_w, i32_w]
      rfl
    refine pure_ (i := 18) (N := some 64) (v := ?_) (a' := ?_) #[true, true, true, true, true, true, true, true, true, true, true, true, true, true, false, true, true, true, true, false, false, false, false, false, false, false, false, false, false, false, false, false, false, false, false, false] rfl rfl (by kernel_rfl) (fun _ _ _ h => h) (Or.inl ⟨by rfl, ?_⟩) ?_ ?_
    rotate_left
    · intro w'
      go_simp
      with_reducible rfl
    rotate_left
    · simp only [Act.put, List.setIfInBounds_toArray, List.set_cons_zero, List.set_cons_succ, i64_w, i32_w]
      rfl
    refine take_ (i := 14) (N := some 60) (v := ?_) (a' := ?_) #[true, true, true, true, true, true, true, true, true, true, true, true, true, true, true, true, true, true, true, false, false, false, false, false, false, false, false, false, false, false, false, false, false, false, false, false] rfl rfl (by kernel_rfl) (fun _ _ _ h => h) (Or.inl ⟨by rfl, ?_⟩) hHeld ?_ ?_
    rotate_left
    · rintro w' ⟨s0, s1⟩
      go_simp
      with_reducible rfl
    rotate_left
    · simp only [Act.put, List.setIfInBounds_toArray, List.set_cons_zero, List.set_cons_succ, i64_w, i32_w]
      rfl
    refine take_ (i := 19) (N := some 65) (v := ?_) (a' := ?_) #[true, true, true, true, true, true, true, true, true, true, true, true, true, true, true, true, true, true, true, true, false, false, false, false, false, false, false, false, false, false, false, false, false, false, false, false] rfl rfl (by kernel_rfl) (fun _ _ _ h => h) (Or.inl ⟨by rfl, ?_⟩) hHeld ?_ ?_
    rotate_left
    · rintro w' ⟨s0, s1⟩
      go_simp
      with_reducible rfl
    rotate_left
    · simp only [Act.put, List.setIfInBounds_toArray, List.set_cons_zero, List.set_cons_succ, i64_w, i32_w]
      rfl
    refine pure_ (i := 20) (N := some 66) (v := ?_) (a' := ?_) #[true, true, true, true, true, true, true, true, true, true, true, true, true, true, true, true, true, true, true, true, true, false, false, false, false, false, false, false, false, false, false, false, false, false, false, false] rfl rfl (by kernel_rfl) (fun _ _ _ h => h) (Or.inl ⟨by rfl, ?_⟩) ?_ ?_
    rotate_left
    · intro w'
      go_simp
      with_reducible rfl
    rotate_left
    · simp only [Act.put, List.setIfInBounds_toArray, List.set_cons_zero, List.set_cons_succ, i64_w, i32_w]
      rfl
    refine pure_ (i := 21) (N := some 67) (v := ?_) (a' := ?_) #[true, true, true, true, true, true, true, true, true, true, true, true, true, true, true, true, true, true, true, true, true, true, false, false, false, false, false, false, false, false, false, false, false, false, false, false] rfl rfl (by kernel_rfl) (fun _ _ _ h => h) (Or.inl ⟨by rfl, ?_⟩) ?_ ?_
    rotate_left
    · intro w'
      go_simp
      with_reducible rfl
    rotate_left
    · simp only [Act.put, List.setIfInBounds_toArray, List.set_cons_zero, List.set_cons_succ, i64_w, i32_w]
      rfl
    refine pure_ (i := 22) (N := some 68) (v := ?_) (a' := ?_) #[true, true, true, true, true, true, true, true, true, true, true, true, true, true, true, true, true, true, true, true, true, true, true, false, false, false, false, false, false, false, false, false, false, false, false, false] rfl rfl (by kernel_rfl) (fun _ _ _ h => h) (Or.inl ⟨by rfl, ?_⟩) ?_ ?_
    rotate_left
    · intro w'
      go_simp
      with_reducible rfl
    rotate_left
    · simp only [Act.put, List.setIfInBounds_toArray, List.set_cons_zero, List.set_cons_succ, i64_w, i32_w]
      rfl
    refine take_ (i := 23) (N := some 69) (v := ?_) (a' := ?_) #[true, true, true, true, true, true, true, true, true, true, true, true, true, true, true, true, true, true, true, true, true, true, true, true, false, false, false, false, false, false, false, false, false, false, false, false] rfl rfl (by kernel_rfl) (fun _ _ _ h => h) (Or.inl ⟨by rfl, ?_⟩) hHeld ?_ ?_
    rotate_left
    · rintro w' ⟨s0, s1⟩
      go_simp
      with_reducible rfl
    rotate_left
    · simp only [Act.put, List.setIfInBounds_toArray, List.set_cons_zero, List.set_cons_succ, i64_w, i32_w]
      rfl
    refine pure_ (i := 24) (N := some 70) (v := ?_) (a' := ?_) #[true, true, true, true, true, true, true, true, true, true, true, true, true, true, true, true, true, true, true, true, true, true, true, true, true, false, false, false, false, false, false, false, false, false, false, false] rfl rfl (by kernel_rfl) (fun _ _ _ h => h) (Or.inl ⟨by rfl, ?_⟩) ?_ ?_
    rotate_left
    · intro w'
      go_simp
      with_reducible rfl
    rotate_left
    · simp only [Act.put, List.setIfInBounds_toArray, List.set_cons_zero, List.set_cons_succ, i64_w, i32_w]
      rfl
    refine pure_ (i := 25) (N := some 71) (v := ?_) (a' := ?_) #[true, true, true, true, true, true, true, true, true, true, true, true, true, true, true, true, true, true, true, true, true, true, true, true, true, true, false, false, false, false, false, false, false, false, false, false] rfl rfl (by kernel_rfl) (fun _ _ _ h => h) (Or.inl ⟨by rfl, ?_⟩) ?_ ?_
    rotate_left
    · intro w'
      go_simp
      with_reducible rfl
    rotate_left
    · simp only [Act.put, List.setIfInBounds_toArray, List.set_cons_zero, List.set_cons_succ, i64_w, i32_w]
      rfl
    refine pure_ (i := 26) (N := some 72) (v := ?_) (a' := ?_) #[true, true, true, true, true, true, true, true, true, true, true, true, true, true, true, true, true, true, true, true, true, true, true, true, true, true, true, false, false, false, false, false, false, false, false, false] rfl rfl (by kernel_rfl) (fun _ _ _ h => h) (Or.inl ⟨by rfl, ?_⟩) ?_ ?_
    rotate_left
    · intro w'
      go_simp
      with_reducible rfl
    rotate_left
    · simp only [Act.put, List.setIfInBounds_toArray, List.set_cons_zero, List.set_cons_succ, i64_w, i32_w]
      rfl
    refine pure_ (i := 27) (N := some 73) (v := ?_) (a' := ?_) #[true, true, true, true, true, true, true, true, true, true, true, true, true, true, true, true, true, true, true, true, true, true, true, true, true, true, true, true, false, false, false, false, false, false, false, false] rfl rfl (by kernel_rfl) (fun _ _ _ h => h) (Or.inl ⟨by rfl, ?_⟩) ?_ ?_
    rotate_left
    · intro w'
      go_simp
      with_reducible rfl
    rotate_left
    · simp only [Act.put, List.setIfInBounds_toArray, List.set_cons_zero, List.set_cons_succ, i64_w, i32_w]
      rfl
    refine pure_ (i := 28) (N := some 74) (v := ?_) (a' := ?_) #[true, true, true, true, true, true, true, true, true, true, true, true, true, true, true, true, true, true, true, true, true, true, true, true, true, true, true, true, true, false, false, false, false, false, false, false] rfl rfl (by kernel_rfl) (fun _ _ _ h => h) (Or.inl ⟨by rfl, ?_⟩) ?_ ?_
    rotate_left
    · intro w'
      go_simp
      with_reducible rfl
    rotate_left
    · simp only [Act.put, List.setIfInBounds_toArray, List.set_cons_zero, List.set_cons_succ, i64_w, i32_w]
      rfl
    refine one_ (i := 29) (N := some 75) #[true, true, true, true, true, true, true, true, true, true, true, true, true, true, true, true, true, true, true, true, true, true, true, true, true, true, true, true, true, true, false, false, false, false, false, false] rfl rfl (by kernel_rfl) (by decide) (fun K hK => ?_)
    refine goes_ Tryd.func25 (by kernel_rfl) rfl #[.pointer (some ⟨w.heap.size + 1, 0, none⟩), .int .u8 101] (by rfl) rfl rfl (by (try simp only [List.map_toArray, List.map_cons, List.map_nil]); first | done | rfl) ?_
    refine (C.c_e _ (some ad) c HD.out).mono ?_
    rintro en w3 ⟨rfl, h3⟩
    refine ⟨_, rfl, ?_⟩
    have H4 := Aside0.mk h3
    clear h3
    refine hK.out _ _ ⟨(H4.out.g1 C.hg), (read_last H4.out.2.1 HL.out HX.out hbig)⟩ (fun hHeld => ?_)
    clear hK K
    refine norm_ (a' := ?_) ?_ ?_
    rotate_left
    · show Act.put _ (some 75) _ = _
      simp only [Act.put, List.setIfInBounds_toArray, List.set_cons_zero, List.set_cons_succ, i64_w, i32_w]
      rfl
    refine pure_ (i := 30) (N := some 76) (v := ?_) (a' := ?_) #[true, true, true, true, true, true, true, true, true, true, true, true, true, true, true, true, true, true, true, true, true, true, true, true, true, true, true, true, true, true, true, false, false, false, false, false] rfl rfl (by kernel_rfl) (fun _ _ _ h => h) (Or.inl ⟨by rfl, ?_⟩) ?_ ?_
    rotate_left
    · intro w'
      go_simp
      with_reducible rfl
    rotate_left
    · simp only [Act.put, List.setIfInBounds_toArray, List.set_cons_zero, List.set_cons_succ, i64_w, i32_w]
      rfl
    refine pure_ (i := 31) (N := some 77) (v := ?_) (a' := ?_) #[true, true, true, true, true, true, true, true, true, true, true, true, true, true, true, true, true, true, true, true, true, true, true, true, true, true, true, true, true, true, true, true, false, false, false, false] rfl rfl (by kernel_rfl) (fun _ _ _ h => h) (Or.inl ⟨by rfl, ?_⟩) ?_ ?_
    rotate_left
    · intro w'
      go_simp
      with_reducible rfl
    rotate_left
    · simp only [Act.put, List.setIfInBounds_toArray, List.set_cons_zero, List.set_cons_succ, i64_w, i32_w]
      rfl
    refine pure_ (i := 32) (N := some 78) (v := ?_) (a' := ?_) #[true, true, true, true, true, true, true, true, true, true, true, true, true, true, true, true, true, true, true, true, true, true, true, true, true, true, true, true, true, true, true, true, true, false, false, false] rfl rfl (by kernel_rfl) (fun _ _ _ h => h) (Or.inl ⟨by rfl, ?_⟩) ?_ ?_
    rotate_left
    · intro w'
      go_simp
      with_reducible rfl
    rotate_left
    · simp only [Act.put, List.setIfInBounds_toArray, List.set_cons_zero, List.set_cons_succ, i64_w, i32_w]
      rfl
    refine one_ (i := 33) (N := some 79) #[true, true, true, true, true, true, true, true, true, true, true, true, true, true, true, true, true, true, true, true, true, true, true, true, true, true, true, true, true, true, true, true, true, true, false, false] rfl rfl (by kernel_rfl) (by decide) (fun K hK => ?_)
    refine goes_ Tryd.func27 (by kernel_rfl) rfl #[.pointer (some ⟨w.heap.size + 1, 0, none⟩)] (by rfl) rfl rfl (by (try simp only [List.map_toArray, List.map_cons, List.map_nil]); first | done | rfl) ?_
    refine (C.c_pow _ (some ad) c H4.out).mono ?_
    rintro en w4 ⟨rfl, h4⟩
    refine ⟨_, rfl, ?_⟩
    have H5 := Aside0.mk h4
    clear h4
    refine hK.out _ _ ⟨(H5.out.g1 C.hg), (read_last H5.out.2.1 HL.out HX.out hbig)⟩ (fun hHeld => ?_)
    clear hK K
    refine norm_ (a' := ?_) ?_ ?_
    rotate_left
    · show Act.put _ (some 79) _ = _
      simp only [Act.put, List.setIfInBounds_toArray, List.set_cons_zero, List.set_cons_succ, i64_w, i32_w]
      rfl
    refine pure_ (i := 34) (N := some 80) (v := ?_) (a' := ?_) #[true, true, true, true, true, true, true, true, true, true, true, true, true, true, true, true, true, true, true, true, true, true, true, true, true, true, true, true, true, true, true, true, true, true, true, false] rfl rfl (by kernel_rfl) (fun _ _ _ h => h) (Or.inl ⟨by rfl, ?_⟩) ?_ ?_
    rotate_left
    · intro w'
      go_simp
      with_reducible rfl
    rotate_left
    · simp only [Act.put, List.setIfInBounds_toArray, List.set_cons_zero, List.set_cons_succ, i64_w, i32_w]
      rfl
    refine pure_ (i := 35) (N := some 6) (v := ?_) (a' := ?_) #[true, true, true, true, true, true, true, true, true, true, true, true, true, true, true, true, true, true, true, true, true, true, true, true, true, true, true, true, true, true, true, true, true, true, true, true] rfl rfl (by kernel_rfl) (fun _ _ _ h => h) (Or.inl ⟨by rfl, ?_⟩) ?_ ?_
    rotate_left
    · intro w'
      go_simp
      with_reducible rfl
    rotate_left
    · simp only [Act.put, List.setIfInBounds_toArray, List.set_cons_zero, List.set_cons_succ, i64_w, i32_w]
      rfl
    refine done_ (by kernel_rfl) ?_
    have d4 := H5.out.g4 C.hg
    have d0 := H5.out.g0 C.hg
    have d1 := H5.out.g1 C.hg
    have d2 := H5.out.g2 C.hg
    clear HD H4
    rcases po with _ | _
    · skip
      go_wp2
      have b0 := C.dec H5.out.2.2
      have e0 : w4.cell? ⟨w.heap.size, 0, none⟩ = some (.bool false) := (blk_cell b0 0).trans rfl
      have e1 : w4.cell? ⟨w.heap.size, 1, none⟩ = some (.slice none 0 0) := (blk_cell b0 1).trans rfl
      have e2 : w4.cell? ⟨w.heap.size, 2, none⟩ = some (.int .i64 0) := (blk_cell b0 2).trans rfl
      have f0 := blk_frozen b0 0
      have f1 := blk_frozen b0 1
      have f2 := blk_frozen b0 2
      go_region
      all_goals (go_wp2; obtain ⟨z1, z2⟩ := C.put H5.out.2.2 1 false (.slice none 0 0) 0; exact bodyPost_ret (results_ctt rfl _ _ _ 24 _ (0, 0) _ rfl z2 Tryd.underlying24 rfl (by kernel_rfl)) rfl (rd_err (by simp [*]) ⟨rfl, z1⟩))
    · by_cases hs : p3 < a0.size
      · have s1 : decide ((p3 : Int) < (a0.size : Int)) = true := decide_eq_true (by omega)
        have s2 : ((p3 : Int) < (a0.size : Int)) = True := eq_true (by omega)
        go_wp2
        have b0 := C.dec H5.out.2.2
        have e0 : w4.cell? ⟨w.heap.size, 0, none⟩ = some (.bool false) := (blk_cell b0 0).trans rfl
        have e1 : w4.cell? ⟨w.heap.size, 1, none⟩ = some (.slice none 0 0) := (blk_cell b0 1).trans rfl
        have e2 : w4.cell? ⟨w.heap.size, 2, none⟩ = some (.int .i64 0) := (blk_cell b0 2).trans rfl
        have f0 := blk_frozen b0 0
        have f1 := blk_frozen b0 1
        have f2 := blk_frozen b0 2
        go_region
        all_goals (go_wp2; obtain ⟨z1, z2⟩ := C.put H5.out.2.2 1 false (.slice none 0 0) 0; exact bodyPost_ret (results_ctt rfl _ _ _ 24 _ (0, 0) _ rfl z2 Tryd.underlying24 rfl (by kernel_rfl)) rfl (rd_err (by simp [*]) ⟨rfl, z1⟩))
      · have s1 : decide ((p3 : Int) < (a0.size : Int)) = false := decide_eq_false (by omega)
        have s2 : ((p3 : Int) < (a0.size : Int)) = False := eq_false (by omega)
        have hu24 := Tryd.underlying24
        have b0 := C.dec H5.out.2.2
        have e0 : w4.cell? ⟨w.heap.size, 0, none⟩ = some (.bool false) := (blk_cell b0 0).trans rfl
        have e1 : w4.cell? ⟨w.heap.size, 1, none⟩ = some (.slice none 0 0) := (blk_cell b0 1).trans rfl
        have e2 : w4.cell? ⟨w.heap.size, 2, none⟩ = some (.int .i64 0) := (blk_cell b0 2).trans rfl
        have f0 := blk_frozen b0 0
        have f1 := blk_frozen b0 1
        have f2 := blk_frozen b0 2
        go_wp2
        obtain ⟨z1, z2⟩ := C.put H5.out.2.2 0 n0 (.slice (some ad) D.length c) E
        exact bodyPost_ret (results_ctt rfl _ _ _ 24 _ (0, 0) _ rfl z2 Tryd.underlying24 rfl (by kernel_rfl)) rfl (rd_fine ⟨rfl, hs⟩ ⟨_, rfl, C.row H5.out 0 n0 _ E, z1⟩)
  · have k6 : ((D.length : Int) == 1000) = false := by simp; omega
    have k7 : (D.length == 1000) = false := by simp; omega
    clear hf
    go_wp2_with (first
        | (go_at_call 25; refine (C.c_has _ C.start).mono ?_; rintro en w1 ⟨rfl, h1⟩; have H1 := Aside0.mk (h1.gn C.hg n0); have d0 := h1.g0 C.hg; have f0 := h1.gf C.hg 0; clear h1)
        | (go_at_call 26; refine (C.c_num _ H1.out).mono ?_; rintro en w2 ⟨v1, rfl, h2⟩; obtain ⟨A, c, e1⟩ := Kd.R_slice h2.2.1; subst e1; have hC := (Kd.R_reads' h2.2.1).2.2; obtain ⟨ad, eA, hcell⟩ := Kd.at_int hC (n : Int) (by omega) (by have := HL.out; omega); subst eA; simp only [Int.toNat_natCast] at hcell; rw [HX.out] at hcell; have H2 := Aside0.mk h2; have d1 := h2.g1 C.hg; have d4 := h2.g4 C.hg; have f4 := h2.gf C.hg 4; clear h2 H1 d0 f0 hC))
    have hr := H2.out.drew_ 1
    have HD := Aside0.mk hr
    clear hr
    refine start_ (n := 36) (S := fun w' => w'.cell? ⟨w.heap.size + 1, 1, none⟩ = some (.slice (some ad) D.length c) ∧ w'.cell? (ad.add n) = some (.int .u8 last)) (ds := []) #[false, false, false, false, false, false, false, false, false, false, false, false, false, false, false, false, false, false, false, false, false, false, false, false, false, false, false, false, false, false, false, false, false, false, false, false] (by kernel_rfl) rfl rfl ⟨(HD.out.g1 C.hg), (read_last HD.out.2.1 HL.out HX.out hbig)⟩ (fun hHeld => ?_)
    refine pure_ (i := 0) (N := some 46) (v := ?_) (a' := ?_) #[true, false, false, false, false, false, false, false, false, false, false, false, false, false, false, false, false, false, false, false, false, false, false, false, false, false, false, false, false, false, false, false, false, false, false, false] rfl rfl (by kernel_rfl) (fun _ _ _ h => h) (Or.inl ⟨by rfl, ?_⟩) ?_ ?_
    rotate_left
    · intro w'
      go_simp
      with_reducible rfl
    rotate_left
    · simp only [Act.put, List.setIfInBounds_toArray, List.set_cons_zero, List.set_cons_succ, i64_w, i32_w]
      rfl
    refine pure_ (i := 1) (N := some 47) (v := ?_) (a' := ?_) #[true, true, false, false, false, false, false, false, false, false, false, false, false, false, false, false, false, false, false, false, false, false, false, false, false, false, false, false, false, false, false, false, false, false, false, false] rfl rfl (by kernel_rfl) (fun _ _ _ h => h) (Or.inl ⟨by rfl, ?_⟩) ?_ ?_
    rotate_left
    · intro w'
      go_simp
      with_reducible rfl
    rotate_left
    · simp only [Act.put, List.setIfInBounds_toArray, List.set_cons_zero, List.set_cons_succ, i64_w, i32_w]
      rfl
    refine pure_ (i := 2) (N := some 48) (v := ?_) (a' := ?_) #[true, true, true, false, false, false, false, false, false, false, false, false, false, false, false, false, false, false, false, false, false, false, false, false, false, false, false, false, false, false, false, false, false, false, false, false] rfl rfl (by kernel_rfl) (fun _ _ _ h => h) (Or.inl ⟨by rfl, ?_⟩) ?_ ?_
    rotate_left
    · intro w'
      go_simp
      with_reducible rfl
    rotate_left
    · simp only [Act.put, List.setIfInBounds_toArray, List.set_cons_zero, List.set_cons_succ, i64_w, i32_w]
      rfl
    refine pure_ (i := 3) (N := some 49) (v := ?_) (a' := ?_) #[true, true, true, true, false, false, false, false, false, false, false, false, false, false, false, false, false, false, false, false, false, false, false, false, false, false, false, false, false, false, false, false, false, false, false, false] rfl rfl (by kernel_rfl) (fun _ _ _ h => h) (Or.inl ⟨by rfl, ?_⟩) ?_ ?_
    rotate_left
    · intro w'
      go_simp
      with_reducible rfl
    rotate_left
    · simp only [Act.put, List.setIfInBounds_toArray, List.set_cons_zero, List.set_cons_succ, i64_w, i32_w]
      rfl
    refine pure_ (i := 4) (N := some 50) (v := ?_) (a' := ?_) #[true, true, true, true, true, false, false, false, false, false, false, false, false, false, false, false, false, false, false, false, false, false, false, false, false, false, false, false, false, false, false, false, false, false, false, false] rfl rfl (by kernel_rfl) (fun _ _ _ h => h) (Or.inl ⟨by rfl, ?_⟩) ?_ ?_
    rotate_left
    · intro w'
      go_simp
      with_reducible rfl
    rotate_left
    · simp only [Act.put, List.setIfInBounds_toArray, List.set_cons_zero, List.set_cons_succ, i64_w, i32_w]
      rfl
    refine pure_ (i := 5) (N := some 51) (v := ?_) (a' := ?_) #[true, true, true, true, true, true, false, false, false, false, false, false, false, false, false, false, false, false, false, false, false, false, false, false, false, false, false, false, false, false, false, false, false, false, false, false] rfl rfl (by kernel_rfl) (fun _ _ _ h => h) (Or.inl ⟨by rfl, ?_⟩) ?_ ?_
    rotate_left
    · intro w'
      go_simp
      with_reducible rfl
    rotate_left
    · simp only [Act.put, List.setIfInBounds_toArray, List.set_cons_zero, List.set_cons_succ, i64_w, i32_w]
      rfl
    refine take_ (i := 6) (N := some 52) (v := ?_) (a' := ?_) #[true, true, true, true, true, true, true, false, false, false, false, false, false, false, false, false, false, false, false, false, false, false, false, false, false, false, false, false, false, false, false, false, false, false, false, false] rfl rfl (by kernel_rfl) (fun _ _ _ h => h) (Or.inl ⟨by rfl, ?_⟩) hHeld ?_ ?_
    rotate_left
    · rintro w' ⟨s0, s1⟩
      go_simp
      with_reducible rfl
    rotate_left
    · simp only [Act.put, List.setIfInBounds_toArray, List.set_cons_zero, List.set_cons_succ, i64_w, i32_w]
      rfl
    refine pure_ (i := 7) (N := some 53) (v := ?_) (a' := ?_) #[true, true, true, true, true, true, true, true, false, false, false, false, false, false, false, false, false, false, false, false, false, false, false, false, false, false, false, false, false, false, false, false, false, false, false, false] rfl rfl (by kernel_rfl) (fun _ _ _ h => h) (Or.inl ⟨by rfl, ?_⟩) ?_ ?_
    rotate_left
    · intro w'
      go_simp
      with_reducible rfl
    rotate_left
    · simp only [Act.put, List.setIfInBounds_toArray, List.set_cons_zero, List.set_cons_succ, i64_w, i32_w]
      rfl
    refine pure_ (i := 8) (N := some 54) (v := ?_) (a' := ?_) #[true, true, true, true, true, true, true, true, true, false, false, false, false, false, false, false, false, false, false, false, false, false, false, false, false, false, false, false, false, false, false, false, false, false, false, false] rfl rfl (by kernel_rfl) (fun _ _ _ h => h) (Or.inl ⟨by rfl, ?_⟩) ?_ ?_
    rotate_left
    · intro w'
      go_simp
      with_reducible rfl
    rotate_left
    · simp only [Act.put, List.setIfInBounds_toArray, List.set_cons_zero, List.set_cons_succ, i64_w, i32_w]
      rfl
    refine pure_ (i := 9) (N := some 55) (v := ?_) (a' := ?_) #[true, true, true, true, true, true, true, true, true, true, false, false, false, false, false, false, false, false, false, false, false, false, false, false, false, false, false, false, false, false, false, false, false, false, false, false] rfl rfl (by kernel_rfl) (fun _ _ _ h => h) (Or.inl ⟨by rfl, ?_⟩) ?_ ?_
    rotate_left
    · intro w'
      go_simp
      with_reducible rfl
    rotate_left
    · simp only [Act.put, List.setIfInBounds_toArray, List.set_cons_zero, List.set_cons_succ, i64_w, i32_w]
      rfl
    refine pure_ (i := 10) (N := some 56) (v := ?_) (a' := ?_) #[true, true, true, true, true, true, true, true, true, true, true, false, false, false, false, false, false, false, false, false, false, false, false, false, false, false, false, false, false, false, false, false, false, false, false, false] rfl rfl (by kernel_rfl) (fun _ _ _ h => h) (Or.inl ⟨by rfl, ?_⟩) ?_ ?_
    rotate_left
    · intro w'
      go_simp
      with_reducible rfl
    rotate_left
    · simp only [Act.put, List.setIfInBounds_toArray, List.set_cons_zero, List.set_cons_succ, i64_w, i32_w]
      rfl
    refine pure_ (i := 11) (N := some 57) (v := ?_) (a' := ?_) #[true, true, true, true, true, true, true, true, true, true, true, true, false, false, false, false, false, false, false, false, false, false, false, false, false, false, false, false, false, false, false, false, false, false, false, false] rfl rfl (by kernel_rfl) (fun _ _ _ h => h) (Or.inl ⟨by rfl, ?_⟩) ?_ ?_
    rotate_left
    · intro w'
      go_simp
      with_reducible rfl
    rotate_left
    · simp only [Act.put, List.setIfInBounds_toArray, List.set_cons_zero, List.set_cons_succ, i64_w, i32_w]
      rfl
    refine pure_ (i := 12) (N := some 58) (v := ?_) (a' := ?_) #[true, true, true, true, true, true, true, true, true, true, true, true, true, false, false, false, false, false, false, false, false, false, false, false, false, false, false, false, false, false, false, false, false, false, false, false] rfl rfl (by kernel_rfl) (fun _ _ _ h => h) (Or.inl ⟨by rfl, ?_⟩) ?_ ?_
    rotate_left
    · intro w'
      go_simp
      with_reducible rfl
    rotate_left
    · simp only [Act.put, List.setIfInBounds_toArray, List.set_cons_zero, List.set_cons_succ, i64_w, i32_w]
      rfl
    refine pure_ (i := 13) (N := some 59) (v := ?_) (a' := ?_) #[true, true, true, true, true, true, true, true, true, true, true, true, true, true, false, false, false, false, false, false, false, false, false, false, false, false, false, false, false, false, false, false, false, false, false, false] rfl rfl (by kernel_rfl) (fun _ _ _ h => h) (Or.inl ⟨by rfl, ?_⟩) ?_ ?_
    rotate_left
    · intro w'
      go_simp
      with_reducible rfl
    rotate_left
    · simp only [Act.put, List.setIfInBounds_toArray, List.set_cons_zero, List.set_cons_succ, i64_w, i32_w]
      rfl
    refine pure_ (i := 15) (N := some 61) (v := ?_) (a' := ?_) #[true, true, true, true, true, true, true, true, true, true, true, true, true, true, false, true, false, false, false, false, false, false, false, false, false, false, false, false, false, false, false, false, false, false, false, false] rfl rfl (by kernel_rfl) (fun _ _ _ h => h) (Or.inl ⟨by rfl, ?_⟩) ?_ ?_
    rotate_left
    · intro w'
      go_simp
      with_reducible rfl
    rotate_left
    · simp only [Act.put, List.setIfInBounds_toArray, List.set_cons_zero, List.set_cons_succ, i64_w, i32_w]
      rfl
    refine pure_ (i := 16) (N := some 62) (v := ?_) (a' := ?_) #[true, true, true, true, true, true, true, true, true, true, true, true, true, true, false, true, true, false, false, false, false, false, false, false, false, false, false, false, false, false, false, false, false, false, false, false] rfl rfl (by kernel_rfl) (fun _ _ _ h => h) (Or.inl ⟨by rfl, ?_⟩) ?_ ?_
    rotate_left
    · intro w'
      go_simp
      with_reducible rfl
    rotate_left
    · simp only [Act.put, List.setIfInBounds_toArray, List.set_cons_zero, List.set_cons_succ, i64_w, i32_w]
      rfl
    refine pure_ (i := 17) (N := some 63) (v := ?_) (a' := ?_) #[true, true, true, true, true, true, true, true, true, true, true, true, true, true, false, true, true, true, false, false, false, false, false, false, false, false, false, false, false, false, false, false, false, false, false, false] rfl rfl (by kernel_rfl) (fun _ _ _ h => h) (Or.inl ⟨by rfl, ?_⟩) ?_ ?_
    rotate_left
    · intro w'
      go_simp
      with_reducible rfl
    rotate_left
    · simp only [Act.put, List.setIfInBounds_toArray, List.set_cons_zero, List.set_cons_succ, i64_w, i32_w]
      rfl
    refine pure_ (i := 18) (N := some 64) (v := ?_) (a' := ?_) #[true, true, true, true, true, true, true, true, true, true, true, true, true, true, false, true, true, true, true, false, false, false, false, false, false, false, false, false, false, false, false, false, false, false, false, false] rfl rfl (by kernel_rfl) (fun _ _ _ h => h) (Or.inl ⟨by rfl, ?_⟩) ?_ ?_
    rotate_left
    · intro w'
      go_simp
      with_reducible rfl
    rotate_left
    · simp only [Act.put, List.setIfInBounds_toArray, List.set_cons_zero, List.set_cons_succ, i64_w, i32_w]
      rfl
    refine take_ (i := 14) (N := some 60) (v := ?_) (a' := ?_) #[true, true, true, true, true, true, true, true, true, true, true, true, true, true, true, true, true, true, true, false, false, false, false, false, false, false, false, false, false, false, false, false, false, false, false, false] rfl rfl (by kernel_rfl) (fun _ _ _ h => h) (Or.inl ⟨by rfl, ?_⟩) hHeld ?_ ?_
    rotate_left
    · rintro w' ⟨s0, s1⟩
      go_simp
      with_reducible rfl
    rotate_left
    · simp only [Act.put, List.setIfInBounds_toArray, List.set_cons_zero, List.set_cons_succ, i64_w, i32_w]
      rfl
    refine take_ (i := 19) (N := some 65) (v := ?_) (a' := ?_) #[true, true, true, true, true, true, true, true, true, true, true, true, true, true, true, true, true, true, true, true, false, false, false, false, false, false, false, false, false, false, false, false, false, false, false, false] rfl rfl (by kernel_rfl) (fun _ _ _ h => h) (Or.inl ⟨by rfl, ?_⟩) hHeld ?_ ?_
    rotate_left
    · rintro w' ⟨s0, s1⟩
      go_simp
      with_reducible rfl
    rotate_left
    · simp only [Act.put, List.setIfInBounds_toArray, List.set_cons_zero, List.set_cons_succ, i64_w, i32_w]
      rfl
    refine pure_ (i := 20) (N := some 66) (v := ?_) (a' := ?_) #[true, true, true, true, true, true, true, true, true, true, true, true, true, true, true, true, true, true, true, true, true, false, false, false, false, false, false, false, false, false, false, false, false, false, false, false] rfl rfl (by kernel_rfl) (fun _ _ _ h => h) (Or.inl ⟨by rfl, ?_⟩) ?_ ?_
    rotate_left
    · intro w'
      go_simp
      with_reducible rfl
    rotate_left
    · simp only [Act.put, List.setIfInBounds_toArray, List.set_cons_zero, List.set_cons_succ, i64_w, i32_w]
      rfl
    refine pure_ (i := 21) (N := some 67) (v := ?_) (a' := ?_) #[true, true, true, true, true, true, true, true, true, true, true, true, true, true, true, true, true, true, true, true, true, true, false, false, false, false, false, false, false, false, false, false, false, false, false, false] rfl rfl (by kernel_rfl) (fun _ _ _ h => h) (Or.inl ⟨by rfl, ?_⟩) ?_ ?_
    rotate_left
    · intro w'
      go_simp
      with_reducible rfl
    rotate_left
    · simp only [Act.put, List.setIfInBounds_toArray, List.set_cons_zero, List.set_cons_succ, i64_w, i32_w]
      rfl
    refine pure_ (i := 22) (N := some 68) (v := ?_) (a' := ?_) #[true, true, true, true, true, true, true, true, true, true, true, true, true, true, true, true, true, true, true, true, true, true, true, false, false, false, false, false, false, false, false, false, false, false, false, false] rfl rfl (by kernel_rfl) (fun _ _ _ h => h) (Or.inl ⟨by rfl, ?_⟩) ?_ ?_
    rotate_left
    · intro w'
      go_simp
      with_reducible rfl
    rotate_left
    · simp only [Act.put, List.setIfInBounds_toArray, List.set_cons_zero, List.set_cons_succ, i64_w, i32_w]
      rfl
    refine take_ (i := 23) (N := some 69) (v := ?_) (a' := ?_) #[true, true, true, true, true, true, true, true, true, true, true, true, true, true, true, true, true, true, true, true, true, true, true, true, false, false, false, false, false, false, false, false, false, false, false, false] rfl rfl (by kernel_rfl) (fun _ _ _ h => h) (Or.inl ⟨by rfl, ?_⟩) hHeld ?_ ?_
    rotate_left
    · rintro w' ⟨s0, s1⟩
      go_simp
      with_reducible rfl
    rotate_left
    · simp only [Act.put, List.setIfInBounds_toArray, List.set_cons_zero, List.set_cons_succ, i64_w, i32_w]
      rfl
    refine pure_ (i := 24) (N := some 70) (v := ?_) (a' := ?_) #[true, true, true, true, true, true, true, true, true, true, true, true, true, true, true, true, true, true, true, true, true, true, true, true, true, false, false, false, false, false, false, false, false, false, false, false] rfl rfl (by kernel_rfl) (fun _ _ _ h => h) (Or.inl ⟨by rfl, ?_⟩) ?_ ?_
    rotate_left
    · intro w'
      go_simp
      with_reducible rfl
    rotate_left
    · simp only [Act.put, List.setIfInBounds_toArray, List.set_cons_zero, List.set_cons_succ, i64_w, i32_w]
      rfl
    refine pure_ (i := 25) (N := some 71) (v := ?_) (a' := ?_) #[true, true, true, true, true, true, true, true, true, true, true, true, true, true, true, true, true, true, true, true, true, true, true, true, true, true, false, false, false, false, false, false, false, false, false, false] rfl rfl (by kernel_rfl) (fun _ _ _ h => h) (Or.inl ⟨by rfl, ?_⟩) ?_ ?_
    rotate_left
    · intro w'
      go_simp
      with_reducible rfl
    rotate_left
    · simp only [Act.put, List.setIfInBounds_toArray, List.set_cons_zero, List.set_cons_succ, i64_w, i32_w]
      rfl
    refine pure_ (i := 26) (N := some 72) (v := ?_) (a' := ?_) #[true, true, true, true, true, true, true, true, true, true, true, true, true, true, true, true, true, true, true, true, true, true, true, true, true, true, true, false, false, false, false, false, false, false, false, false] rfl rfl (by kernel_rfl) (fun _ _ _ h => h) (Or.inl ⟨by rfl, ?_⟩) ?_ ?_
    rotate_left
    · intro w'
      go_simp
      with_reducible rfl
    rotate_left
    · simp only [Act.put, List.setIfInBounds_toArray, List.set_cons_zero, List.set_cons_succ, i64_w, i32_w]
      rfl
    refine pure_ (i := 27) (N := some 73) (v := ?_) (a' := ?_) #[true, true, true, true, true, true, true, true, true, true, true, true, true, true, true, true, true, true, true, true, true, true, true, true, true, true, true, true, false, false, false, false, false, false, false, false] rfl rfl (by kernel_rfl) (fun _ _ _ h => h) (Or.inl ⟨by rfl, ?_⟩) ?_ ?_
    rotate_left
    · intro w'
      go_simp
      with_reducible rfl
    rotate_left
    · simp only [Act.put, List.setIfInBounds_toArray, List.set_cons_zero, List.set_cons_succ, i64_w, i32_w]
      rfl
    refine pure_ (i := 28) (N := some 74) (v := ?_) (a' := ?_) #[true, true, true, true, true, true, true, true, true, true, true, true, true, true, true, true, true, true, true, true, true, true, true, true, true, true, true, true, true, false, false, false, false, false, false, false] rfl rfl (by kernel_rfl) (fun _ _ _ h => h) (Or.inl ⟨by rfl, ?_⟩) ?_ ?_
    rotate_left
    · intro w'
      go_simp
      with_reducible rfl
    rotate_left
    · simp only [Act.put, List.setIfInBounds_toArray, List.set_cons_zero, List.set_cons_succ, i64_w, i32_w]
      rfl
    refine one_ (i := 29) (N := some 75) #[true, true, true, true, true, true, true, true, true, true, true, true, true, true, true, true, true, true, true, true, true, true, true, true, true, true, true, true, true, true, false, false, false, false, false, false] rfl rfl (by kernel_rfl) (by decide) (fun K hK => ?_)
    refine goes_ Tryd.func25 (by kernel_rfl) rfl #[.pointer (some ⟨w.heap.size + 1, 0, none⟩), .int .u8 101] (by rfl) rfl rfl (by (try simp only [List.map_toArray, List.map_cons, List.map_nil]); first | done | rfl) ?_
    refine (C.c_e _ (some ad) c HD.out).mono ?_
    rintro en w3 ⟨rfl, h3⟩
    refine ⟨_, rfl, ?_⟩
    have H4 := Aside0.mk h3
    clear h3
    refine hK.out _ _ ⟨(H4.out.g1 C.hg), (read_last H4.out.2.1 HL.out HX.out hbig)⟩ (fun hHeld => ?_)
    clear hK K
    refine norm_ (a' := ?_) ?_ ?_
    rotate_left
    · show Act.put _ (some 75) _ = _
      simp only [Act.put, List.setIfInBounds_toArray, List.set_cons_zero, List.set_cons_succ, i64_w, i32_w]
      rfl
    refine pure_ (i := 30) (N := some 76) (v := ?_) (a' := ?_) #[true, true, true, true, true, true, true, true, true, true, true, true, true, true, true, true, true, true, true, true, true, true, true, true, true, true, true, true, true, true, true, false, false, false, false, false] rfl rfl (by kernel_rfl) (fun _ _ _ h => h) (Or.inl ⟨by rfl, ?_⟩) ?_ ?_
    rotate_left
    · intro w'
      go_simp
      with_reducible rfl
    rotate_left
    · simp only [Act.put, List.setIfInBounds_toArray, List.set_cons_zero, List.set_cons_succ, i64_w, i32_w]
      rfl
    refine pure_ (i := 31) (N := some 77) (v := ?_) (a' := ?_) #[true, true, true, true, true, true, true, true, true, true, true, true, true, true, true, true, true, true, true, true, true, true, true, true, true, true, true, true, true, true, true, true, false, false, false, false] rfl rfl (by kernel_rfl) (fun _ _ _ h => h) (Or.inl ⟨by rfl, ?_⟩) ?_ ?_
    rotate_left
    · intro w'
      go_simp
      with_reducible rfl
    rotate_left
    · simp only [Act.put, List.setIfInBounds_toArray, List.set_cons_zero, List.set_cons_succ, i64_w, i32_w]
      rfl
    refine pure_ (i := 32) (N := some 78) (v := ?_) (a' := ?_) #[true, true, true, true, true, true, true, true, true, true, true, true, true, true, true, true, true, true, true, true, true, true, true, true, true, true, true, true, true, true, true, true, true, false, false, false] rfl rfl (by kernel_rfl) (fun _ _ _ h => h) (Or.inl ⟨by rfl, ?_⟩) ?_ ?_
    rotate_left
    · intro w'
      go_simp
      with_reducible rfl
    rotate_left
    · simp only [Act.put, List.setIfInBounds_toArray, List.set_cons_zero, List.set_cons_succ, i64_w, i32_w]
      rfl
    refine one_ (i := 33) (N := some 79) #[true, true, true, true, true, true, true, true, true, true, true, true, true, true, true, true, true, true, true, true, true, true, true, true, true, true, true, true, true, true, true, true, true, true, false, false] rfl rfl (by kernel_rfl) (by decide) (fun K hK => ?_)
    refine goes_ Tryd.func27 (by kernel_rfl) rfl #[.pointer (some ⟨w.heap.size + 1, 0, none⟩)] (by rfl) rfl rfl (by (try simp only [List.map_toArray, List.map_cons, List.map_nil]); first | done | rfl) ?_
    refine (C.c_pow _ (some ad) c H4.out).mono ?_
    rintro en w4 ⟨rfl, h4⟩
    refine ⟨_, rfl, ?_⟩
    have H5 := Aside0.mk h4
    clear h4
    refine hK.out _ _ ⟨(H5.out.g1 C.hg), (read_last H5.out.2.1 HL.out HX.out hbig)⟩ (fun hHeld => ?_)
    clear hK K
    refine norm_ (a' := ?_) ?_ ?_
    rotate_left
    · show Act.put _ (some 79) _ = _
      simp only [Act.put, List.setIfInBounds_toArray, List.set_cons_zero, List.set_cons_succ, i64_w, i32_w]
      rfl
    refine pure_ (i := 34) (N := some 80) (v := ?_) (a' := ?_) #[true, true, true, true, true, true, true, true, true, true, true, true, true, true, true, true, true, true, true, true, true, true, true, true, true, true, true, true, true, true, true, true, true, true, true, false] rfl rfl (by kernel_rfl) (fun _ _ _ h => h) (Or.inl ⟨by rfl, ?_⟩) ?_ ?_
    rotate_left
    · intro w'
      go_simp
      with_reducible rfl
    rotate_left
    · simp only [Act.put, List.setIfInBounds_toArray, List.set_cons_zero, List.set_cons_succ, i64_w, i32_w]
      rfl
    refine pure_ (i := 35) (N := some 6) (v := ?_) (a' := ?_) #[true, true, true, true, true, true, true, true, true, true, true, true, true, true, true, true, true, true, true, true, true, true, true, true, true, true, true, true, true, true, true, true, true, true, true, true] rfl rfl (by kernel_rfl) (fun _ _ _ h => h) (Or.inl ⟨by rfl, ?_⟩) ?_ ?_
    rotate_left
    · intro w'
      go_simp
      with_reducible rfl
    rotate_left
    · simp only [Act.put, List.setIfInBounds_toArray, List.set_cons_zero, List.set_cons_succ, i64_w, i32_w]
      rfl
    refine done_ (by kernel_rfl) ?_
    have d4 := H5.out.g4 C.hg
    have d0 := H5.out.g0 C.hg
    have d1 := H5.out.g1 C.hg
    have d2 := H5.out.g2 C.hg
    clear HD H4
    rcases po with _ | _
    · skip
      go_wp2
      have b0 := C.dec H5.out.2.2
      have e0 : w4.cell? ⟨w.heap.size, 0, none⟩ = some (.bool false) := (blk_cell b0 0).trans rfl
      have e1 : w4.cell? ⟨w.heap.size, 1, none⟩ = some (.slice none 0 0) := (blk_cell b0 1).trans rfl
      have e2 : w4.cell? ⟨w.heap.size, 2, none⟩ = some (.int .i64 0) := (blk_cell b0 2).trans rfl
      have f0 := blk_frozen b0 0
      have f1 := blk_frozen b0 1
      have f2 := blk_frozen b0 2
      go_region
      all_goals (go_wp2; obtain ⟨z1, z2⟩ := C.put H5.out.2.2 1 false (.slice none 0 0) 0; exact bodyPost_ret (results_ctt rfl _ _ _ 24 _ (0, 0) _ rfl z2 Tryd.underlying24 rfl (by kernel_rfl)) rfl (rd_err (by simp [*]) ⟨rfl, z1⟩))
    · by_cases hs : p3 < a0.size
      · have s1 : decide ((p3 : Int) < (a0.size : Int)) = true := decide_eq_true (by omega)
        have s2 : ((p3 : Int) < (a0.size : Int)) = True := eq_true (by omega)
        go_wp2
        have b0 := C.dec H5.out.2.2
        have e0 : w4.cell? ⟨w.heap.size, 0, none⟩ = some (.bool false) := (blk_cell b0 0).trans rfl
        have e1 : w4.cell? ⟨w.heap.size, 1, none⟩ = some (.slice none 0 0) := (blk_cell b0 1).trans rfl
        have e2 : w4.cell? ⟨w.heap.size, 2, none⟩ = some (.int .i64 0) := (blk_cell b0 2).trans rfl
        have f0 := blk_frozen b0 0
        have f1 := blk_frozen b0 1
        have f2 := blk_frozen b0 2
        go_region
        all_goals (go_wp2; obtain ⟨z1, z2⟩ := C.put H5.out.2.2 1 false (.slice none 0 0) 0; exact bodyPost_ret (results_ctt rfl _ _ _ 24 _ (0, 0) _ rfl z2 Tryd.underlying24 rfl (by kernel_rfl)) rfl (rd_err (by simp [*]) ⟨rfl, z1⟩))
      · have s1 : decide ((p3 : Int) < (a0.size : Int)) = false := decide_eq_false (by omega)
        have s2 : ((p3 : Int) < (a0.size : Int)) = False := eq_false (by omega)
        have hu24 := Tryd.underlying24
        have b0 := C.dec H5.out.2.2
        have e0 : w4.cell? ⟨w.heap.size, 0, none⟩ = some (.bool false) := (blk_cell b0 0).trans rfl
        have e1 : w4.cell? ⟨w.heap.size, 1, none⟩ = some (.slice none 0 0) := (blk_cell b0 1).trans rfl
        have e2 : w4.cell? ⟨w.heap.size, 2, none⟩ = some (.int .i64 0) := (blk_cell b0 2).trans rfl
        have f0 := blk_frozen b0 0
        have f1 := blk_frozen b0 1
        have f2 := blk_frozen b0 2
        go_wp2
        obtain ⟨z1, z2⟩ := C.put H5.out.2.2 0 n0 (.slice (some ad) D.length c) E
        exact bodyPost_ret (results_ctt rfl _ _ _ 24 _ (0, 0) _ rfl z2 Tryd.underlying24 rfl (by kernel_rfl)) rfl (rd_fine ⟨rfl, hs⟩ ⟨_, rfl, C.row H5.out 0 n0 _ E, z1⟩)

end Go.Proofs.YtahkamggdbibiaaDoor.PZ
namespace Go.Proofs.YtahkamggdbibiaaDoor.PZ
open Go.RowKit Go.Proofs.YtahkamggdbibiaaDoorW.PrintWords Go.Proofs.YtahkamggdbibiaaDoorW.PrintLast

theorem hasB_lt {s : ByteArray} {a : Nat} {c : Int} (h : hasB s a c = true) : a < s.size := by
  unfold hasB at h; simp at h; exact h.1
theorem numD_len (s : ByteArray) (a : Nat) (h : a ≤ s.size) : (numD s a).length ≤ numAt s a - a := by
  unfold numD numAt
  split
  · simp
  · rw [List.length_map]
    show (bytesOf _).length ≤ _
    rw [bytesOf_length, bytes_size _ _ _ (show figTo s a 1000 ≤ s.size from figEnd_le s a 1000 _ a h)]
    exact Nat.le_refl _
theorem numD_none (s : ByteArray) (a : Nat) (h : a ≤ s.size) (hb : numB s a = false) : numD s a = [] := by
  unfold numB at hb
  simp only [Bool.or_eq_false_iff, decide_eq_false_iff_not] at hb
  unfold numD
  rw [if_neg (by simp [hb.1])]
  have h1 : (bytesAt s a (figTo s a 1000)).length = 0 := by
    show (bytesOf _).length = _
    rw [bytesOf_length, bytes_size _ _ _ (show figTo s a 1000 ≤ s.size from figEnd_le s a 1000 _ a h)]
    have := hb.2
    unfold figTo at this
    omega
  rw [List.eq_nil_of_length_eq_zero h1]
  rfl
def rdHb (s : ByteArray) : Bool := hasB s (rdAt s) 101
def rdP2 (s : ByteArray) : Nat := if rdHb s then rdAt s + 1 else rdAt s
theorem rdP2_le (s : ByteArray) : rdP2 s ≤ s.size := by
  unfold rdP2
  split
  · rename_i z; exact hasB_lt z
  · exact rdAt_le s
theorem readC (w : World) (s : ByteArray) (hs : s.size ≤ 140737488351232) :
    ReadC w (w.alloc (.cells #[.bool false, .slice none 0 0, .int .i64 0] 24)) s (rdNeg s) (numB s (rdFrom s)) (rdHb s) (powOk (rdD s) s (rdP2 s)) (rdFrom s) (numAt s (rdFrom s)) (rdAt s) (rdP2 s) (powAA (rdD s) s (rdP2 s)) (rdD s) (powEE (rdD s) s (rdP2 s)) := by
  have hg : (w.alloc (.cells #[.bool false, .slice none 0 0, .int .i64 0] 24)).heap.size = w.heap.size + 1 := by simp
  refine ⟨hg, rfl, RSt.start _ s, ?_, ?_, ?_, ?_⟩
  · intro W h
    have hc := reader_has (fun _ => True) _ W false [] 0 s 0 _ 45 h (Nat.zero_le _) hs
    rw [hg] at hc
    refine hc.mono ?_
    rintro en W' ⟨rfl, h2⟩
    refine ⟨rfl, ?_⟩
    have e : (if hasB s 0 45 then 0 + 1 else 0) = rdFrom s := by unfold rdFrom rdNeg; split <;> rfl
    rw [e] at h2
    exact h2
  · intro W h
    have hc := reader_number _ W (rdNeg s) 0 s (rdFrom s) h (rdFrom_le s) hs
    rw [hg] at hc
    exact hc
  · intro W A c h
    have hc := reader_has (fun _ => True) _ W (rdNeg s) (rdD s) 0 s (rdAt s) _ 101 h (rdAt_le s) hs
    rw [hg] at hc
    exact hc
  · intro W A c h
    have hc := reader_power (fun _ => True) _ W (rdNeg s) (rdD s) s (rdP2 s) A c h (rdP2_le s) hs
    rw [hg] at hc
    exact hc
def ReadAll (w : World) (s : ByteArray) (e : Ending) (w' : World) : Prop := if rdGood s = true then ReadFine w (rdNeg s) (rdD s) (powEE (rdD s) s (rdAt2 s)) e w' else ReadErr w (rdAt3 s) e w'
theorem ReadAll.err {w : World} {s : ByteArray} {q : Nat} (h : rdGood s = false) (hq : rdAt3 s = q) {e : Ending} {w' : World} (k : ReadErr w q e w') : ReadAll w s e w' := by
  subst hq
  unfold ReadAll
  rw [if_neg (by simp [h])]
  exact k
theorem read_mid (w : World) (s : ByteArray) (n0 po : Bool) (D : List Int) (E : Int) (p3 : Nat) (h1 : rdGood s = (po && decide (¬ p3 < s.size))) (h2 : rdAt3 s = p3) (h3 : rdNeg s = n0) (h4 : rdD s = D) (h5 : powEE (rdD s) s (rdAt2 s) = E)
    {e : Ending} {w' : World} (k : ReadEnd w n0 po D E s p3 e w') : ReadAll w s e w' := by
  subst h2 h3 h4 h5
  unfold ReadEnd at k
  unfold ReadAll
  rw [h1]
  by_cases h : po = true ∧ ¬ rdAt3 s < s.size
  · rw [if_pos h] at k
    rw [if_pos (by simpa using h)]
    exact k
  · rw [if_neg h] at k
    rw [if_neg (by simpa using h)]
    exact k
theorem read_main (w : World) (s : ByteArray) (hs : s.size ≤ 140737488351232) : Calls Tryd.prog 11 #[.string s] w (ReadAll w s) := by
  have C := readC w s hs
  have hf := rdFrom_le s
  have hq := numAt_le s _ hf
  have hl := numD_len s _ hf
  by_cases hb : numB s (rdFrom s) = true
  · by_cases hD : (rdD s).length = 0
    · have hfull : rdFull s = false := by unfold rdFull; simp [hD]
      have hat : rdAt s = numAt s (rdFrom s) := by unfold rdAt; rw [if_neg (by simp [hfull])]
      have hok : rdOk s = true := by unfold rdOk; simp [hb, hD]
      by_cases he : rdHb s = true
      · have hE : rdE s = true := by unfold rdE; rw [hok]; exact he
        have h2 : rdAt2 s = rdP2 s := by unfold rdAt2 rdP2; rw [hE, he]
        refine (read_e_nil w _ s _ _ _ _ _ _ _ _ _ _ _ C hD hb hat he).mono ?_
        intro e w' k
        refine read_mid w s _ _ _ _ _ ?_ ?_ rfl rfl (by rw [h2]) k
        · unfold rdGood rdAll rdAt3; rw [hE, h2]; simp
        · unfold rdAt3; rw [hE, h2]; simp
      · have he' : rdHb s = false := by simpa using he
        have hE : rdE s = false := by unfold rdE; rw [hok]; exact he'
        refine (read_noe_nil w _ s _ _ _ _ _ _ _ _ _ _ _ C hD hb hat he').mono ?_
        intro e w' k
        refine ReadAll.err (by unfold rdGood rdAll; rw [hE]; rfl) ?_ k
        unfold rdAt3 rdAt2 rdP2; rw [hE, he']; rfl
    · obtain ⟨n, hn⟩ : ∃ n, (rdD s).length = n + 1 := ⟨(rdD s).length - 1, by omega⟩
      have hn2 : ((n : Nat) : Int) = ((rdD s).length : Int) - 1 := by omega
      have hbig : n ≤ 140737488351232 := by
        have : (rdD s).length ≤ numAt s (rdFrom s) - rdFrom s := hl
        omega
      by_cases hz : rd (rdD s) (n : Int) = 0
      · have hok : rdOk s = false := by
          unfold rdOk
          rw [← hn2, hz]
          simp [hD]
        have hE : rdE s = false := by unfold rdE; rw [hok]; rfl
        have hgood : rdGood s = false := by unfold rdGood rdAll; rw [hE]; rfl
        have h3 : rdAt3 s = rdAt s := by unfold rdAt3 rdAt2; rw [hE]; rfl
        by_cases hf9 : n = 999
        · have hfull : rdFull s = true := by unfold rdFull; subst hf9; rw [hn]; simpa using hz
          refine (read_bad_full w _ s _ _ _ _ _ _ _ _ _ _ _ C n hbig hn _ rfl hz hb hf9 ?_ ?_).mono (fun e w' k => ReadAll.err hgood ?_ k)
          · have : (rdD s).length ≤ numAt s (rdFrom s) - rdFrom s := hl
            omega
          · omega
          · rw [h3]; unfold rdAt; rw [hfull]; rfl
        · have hfull : rdFull s = false := by unfold rdFull; rw [hn]; simp; omega
          refine (read_bad w _ s _ _ _ _ _ _ _ _ _ _ _ C n hbig hn _ rfl hz hb hf9).mono (fun e w' k => ReadAll.err hgood ?_ k)
          rw [h3]; unfold rdAt; rw [hfull]; rfl
      · have hfull : rdFull s = false := by
          unfold rdFull
          by_cases h9 : (rdD s).length = 1000
          · have : n = 999 := by omega
            subst this
            simpa [h9] using hz
          · simp [h9]
        have hat : rdAt s = numAt s (rdFrom s) := by unfold rdAt; rw [if_neg (by simp [hfull])]
        have hok : rdOk s = true := by
          unfold rdOk
          rw [← hn2, hb]
          simp [hz]
        by_cases he : rdHb s = true
        · have hE : rdE s = true := by unfold rdE; rw [hok]; exact he
          have h2 : rdAt2 s = rdP2 s := by unfold rdAt2 rdP2; rw [hE, he]
          refine (read_e_some w _ s _ _ _ _ _ _ _ _ _ _ _ C n hbig hn _ rfl hz hb hat he).mono ?_
          intro e w' k
          refine read_mid w s _ _ _ _ _ ?_ ?_ rfl rfl (by rw [h2]) k
          · unfold rdGood rdAll rdAt3; rw [hE, h2]; simp
          · unfold rdAt3; rw [hE, h2]; simp
        · have he' : rdHb s = false := by simpa using he
          have hE : rdE s = false := by unfold rdE; rw [hok]; exact he'
          refine (read_noe_some w _ s _ _ _ _ _ _ _ _ _ _ _ C n hbig hn _ rfl hz hb hat he').mono ?_
          intro e w' k
          refine ReadAll.err (by unfold rdGood rdAll; rw [hE]; rfl) ?_ k
          unfold rdAt3 rdAt2 rdP2; rw [hE, he']; rfl
  · have hb' : numB s (rdFrom s) = false := by simpa using hb
    have hD : rdD s = [] := numD_none s _ hf hb'
    have hok : rdOk s = false := by unfold rdOk; rw [hb']; rfl
    have hE : rdE s = false := by unfold rdE; rw [hok]; rfl
    have hfull : rdFull s = false := by unfold rdFull; rw [hD]; rfl
    refine (read_none w _ s _ _ _ _ _ _ _ _ _ _ _ C hD hb').mono (fun e w' k => ReadAll.err (by unfold rdGood rdAll; rw [hE]; rfl) ?_ k)
    unfold rdAt3 rdAt2; rw [hE]
    show rdAt s = _
    unfold rdAt; rw [hfull]; rfl
theorem dec_Read.calls (a0 : ByteArray) (r1 : Bool) (r2 : List Int) (r3 : Int) (r4 : Int) (r5 : Int) (w : World) (h : dec_Read.f a0 = some (r1, r2, r3, r4, r5)) :
    Calls Tryd.prog 11 #[.string a0] w fun e w' => ∃ v1_ : Value, e = .returned (.tuple #[.agg #[.bool r1, v1_, .int .i64 r3], .int .i64 r4, .int .i64 r5]) ∧ Kd.R (Kd.int .u8) 5 w' w.heap.size (fun _ => True) v1_ r2 ∧ Below w.heap.size w w' := by
  unfold dec_Read.f at h
  by_cases hs : a0.size ≤ 140737488351232
  · rw [if_pos hs] at h
    have h1 := Option.some.inj h
    refine (read_main w a0 hs).mono ?_
    intro e w' k
    unfold ReadAll at k
    by_cases hg : rdGood a0 = true
    · rw [if_pos hg] at k h1
      injection h1 with e1 h1
      injection h1 with e2 h1
      injection h1 with e3 h1
      injection h1 with e4 e5
      subst e1 e2 e3 e4 e5
      exact k
    · rw [if_neg hg] at k h1
      injection h1 with e1 h1
      injection h1 with e2 h1
      injection h1 with e3 h1
      injection h1 with e4 e5
      subst e1 e2 e3 e4 e5
      exact ⟨_, k.1, Kd.R_nil _ _ _ _ _, k.2⟩
  · rw [if_neg hs] at h
    cases h
end Go.Proofs.YtahkamggdbibiaaDoor.PZ
