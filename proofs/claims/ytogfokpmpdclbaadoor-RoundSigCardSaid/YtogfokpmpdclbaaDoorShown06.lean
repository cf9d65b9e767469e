/- The law texts' head, walked: the document's example is true.
   Conditions: the laid table of powers of ten reads. -/
import Derived.KernelRfl
import Derived.Test.YtogfokpmpdclbaaDoorBoxes06
import Derived.Test.YtogfokpmpdclbaaDoorPZx10
import Derived.Test.YtogfokpmpdclbaaDoorPZx6
set_option linter.unusedVariables false
set_option linter.unusedSimpArgs false
namespace Go.Proofs.YtogfokpmpdclbaaDoor.PZ
open Go.RowKit Go.Sort Go.Proofs.YtogfokpmpdclbaaDoorW.PrintWords Go.Proofs.YtogfokpmpdclbaaDoorW.PrintLast
def exerguelaw06_shown.f (k : Nat) : Option Bool := some true
theorem exerguelaw06_shown.mono : ∀ k, LeO (exerguelaw06_shown.f k) (exerguelaw06_shown.f (k + 1)) := fun _ => LeO.refl _
theorem shown_ev : Ev (fun k => exerguelaw06_shown.f k) true := Ev.now true
section
variable {L : List DB} {w W : World} {g : Bool} {A : Option Addr} {l : List Int} {c : Nat} {e k place mode : Int}
theorem to_b (hG : GL w) (h : Boxes L w W) (i : Nat) {b : Nat} (hx : L[i]? = some ⟨b, g, A, l, c, e⟩) {l' : List Int} {e' : Int} {n : Nat} (hi : round_To.f n g l e place mode = some (g, l', e', 0)) :
    Calls Tryd.prog 19 #[.agg #[.bool g, .slice A l.length c, .int .i64 e], .int .i64 place, .int .i64 mode] W (IncP W g l' e') :=
  (round_To.calls n g _ A c l e place mode g l' e' 0 W (GL.below hG h.2) ((h.row hx).V (Below.refl _ W)) hi).mono fun x W' ⟨v, hx, hV, hB⟩ => by
    obtain ⟨A', c', rfl⟩ := Kd.V_slice hV
    obtain ⟨_, hl, hF⟩ := Kd.V_at hV
    exact ⟨A', c', hx, ⟨Kd.F_now hF, hl⟩, hB⟩
theorem sig_b (hG : GL w) (h : Boxes L w W) (i : Nat) {b : Nat} (hx : L[i]? = some ⟨b, g, A, l, c, e⟩) {l' : List Int} {e' : Int} {n : Nat} (hi : round_Sig.f n g l e k mode = some (g, l', e', 0)) :
    Calls Tryd.prog 18 #[.agg #[.bool g, .slice A l.length c, .int .i64 e], .int .i64 k, .int .i64 mode] W (IncP W g l' e') :=
  (round_Sig.calls n g _ A c l e k mode g l' e' 0 W (GL.below hG h.2) ((h.row hx).V (Below.refl _ W)) hi).mono fun x W' ⟨v, hx, hV, hB⟩ => by
    obtain ⟨A', c', rfl⟩ := Kd.V_slice hV
    obtain ⟨_, hl, hF⟩ := Kd.V_at hV
    exact ⟨A', c', hx, ⟨Kd.F_now hF, hl⟩, hB⟩
theorem is_b (h : Boxes L w W) {r : Bool} (hr : round_Is.f mode = some r) : Calls Tryd.prog 23 #[.int .i64 mode] W fun x W' => x = .returned (.bool r) ∧ Below W.heap.size W W' := (round_Is.calls mode r W hr).mono fun _ _ ⟨h1, h2⟩ => ⟨h1, h2.below⟩
theorem to_d (hG : GL w) (h : Boxes L w W) (i : Nat) {b : Nat} (hx : L[i]? = some ⟨b, false, A, [2, 5], c, -1⟩) {l' : List Int} {e' : Int} {n : Nat} (hi : round_To.f n false [2, 5] (-1) place mode = some (false, l', e', 0)) :
    Calls Tryd.prog 19 #[.agg #[.bool false, .slice A 2 c, .int .i64 (-1)], .int .i64 place, .int .i64 mode] W (IncP W false l' e') := to_b hG h i hx hi
theorem sig_d (hG : GL w) (h : Boxes L w W) (i : Nat) {b : Nat} (hx : L[i]? = some ⟨b, false, A, [2, 5], c, -1⟩) {l' : List Int} {e' : Int} {n : Nat} (hi : round_Sig.f n false [2, 5] (-1) k mode = some (false, l', e', 0)) :
    Calls Tryd.prog 18 #[.agg #[.bool false, .slice A 2 c, .int .i64 (-1)], .int .i64 k, .int .i64 mode] W (IncP W false l' e') := sig_b hG h i hx hi
theorem shown_start (w : World) : Boxes [⟨w.heap.size + 1, false, some ⟨w.heap.size, 0, none⟩, [2, 5], 2, -1⟩] w ((w.alloc (.cells #[.int .u8 2, .int .u8 5] 5)).alloc (.cells #[.bool false, .slice (some ⟨w.heap.size, 0, none⟩) 2 2, .int .i64 (-1)] 24)) := by
  have h0 : Boxes [] w (w.alloc (.cells #[.int .u8 2, .int .u8 5] 5)) := ⟨fun x hx => (by cases hx), (Below.refl _ w).alloc (Nat.le_refl _) _⟩
  have hr : DRow (w.alloc (.cells #[.int .u8 2, .int .u8 5] 5)) (some ⟨w.heap.size, 0, none⟩) [2, 5] 2 := ⟨Kd.C_of_reads (d := (0 : Int)) (h1 := fun _ => rfl) ⟨rfl, by simp, fun _ => ⟨_, rfl, fun j hj => by
    have hn := heap_alloc_new w (.cells #[.int .u8 2, .int .u8 5] 5)
    rw [add_plain, blk_cell hn]
    match j, hj with
    | 0, _ => rfl
    | 1, _ => rfl⟩⟩, Nat.le_refl _⟩
  have h1 := h0.push false (-1) hr
  rwa [show (w.alloc (.cells #[.int .u8 2, .int .u8 5] 5)).heap.size = w.heap.size + 1 by simp] at h1
theorem text_b (h : Boxes L w W) (i : Nat) {b : Nat} (hx : L[i]? = some ⟨b, g, A, l, c, e⟩) {r : ByteArray} {n : Nat} (ht : exergueref05_Text.f n g l e = some r) :
    Calls Tryd.prog 22 #[.agg #[.bool g, .slice A l.length c, .int .i64 e]] W fun x W' => x = .returned (.string r) ∧ Below W.heap.size W W' :=
  exergueref05_Text.calls n g A c l e r W (h.row hx).read (h.row hx).cap ht
theorem fits_b (hG : GL w) (h : Boxes L w W) (i : Nat) {b : Nat} (hx : L[i]? = some ⟨b, g, A, l, c, e⟩) {r : Bool} (hf : round_Fits.f g l e k place = some r) :
    Calls Tryd.prog 14 #[.agg #[.bool g, .slice A l.length c, .int .i64 e], .int .i64 k, .int .i64 place] W fun x W' => x = .returned (.bool r) ∧ Below W.heap.size W W' :=
  round_Fits.calls g A c l e k place r W (GL.below hG h.2) (h.row hx).read (h.row hx).cap hf
end
set_option maxRecDepth 100000 in
set_option maxHeartbeats 2000000 in
theorem exerguelaw06_shown.calls (k : Nat) (r : Bool) (w : World) (hG : GL w) (h : exerguelaw06_shown.f k = some r) : Calls Tryd.prog 9 #[] w fun e w' => e = .returned (.bool r) ∧ Below w.heap.size w w' := by
  obtain rfl := Option.some.inj h
  clear h
  have HG := Aside0.mk hG
  clear hG
  have hu2 := Tryd.underlying24
  obtain ⟨la, ha⟩ : ∃ x : List Int, x = [2] := ⟨_, rfl⟩
  obtain ⟨lb, hb⟩ : ∃ x : List Int, x = [3] := ⟨_, rfl⟩
  have T1 := Aside0.mk (show round_To.f 30 false [2, 5] (-1) 0 6 = some (false, la, 0, 0) by rw [ha]; kernel_rfl)
  have T2 := Aside0.mk (show round_To.f 30 false [2, 5] (-1) 0 4 = some (false, lb, 0, 0) by rw [hb]; kernel_rfl)
  have T3 := Aside0.mk (show round_Sig.f 30 false [2, 5] (-1) 1 1 = some (false, la, 0, 0) by rw [ha]; kernel_rfl)
  have X1 := Aside0.mk (show exergueref05_Text.f 30 false la 0 = some ⟨#[50, 101, 48]⟩ by rw [ha]; kernel_rfl)
  have X2 := Aside0.mk (show exergueref05_Text.f 30 false lb 0 = some ⟨#[51, 101, 48]⟩ by rw [hb]; kernel_rfl)
  have X3 := X1
  have FI := Aside0.mk (show round_Fits.f false la 0 2 0 = some true by rw [ha]; kernel_rfl)
  have IS := Aside0.mk (show round_Is.f 0 = some true by kernel_rfl)
  clear ha hb
  have HS := Aside0.mk (shown_start w)
  go_enter Tryd.func9, Tryd.ntmps9
  -- BEGIN
  go_wp2_with (first | (go_at_call 19; have hq := to_d HG.out HS.out 0 rfl T1.out; (with_reducible refine hq.mono ?_); clear hq; rintro e_ w' ⟨A1, c1, rfl, hx_, hb_⟩; (try clear HC); have HB' := Aside0.mk (Boxes.below HS.out hb_); (try clear HB); have HB := HB'; clear HB'; (try clear HP); have HP := Aside0.mk hx_; clear hx_; have HC := HB.out.cells; simp only [CellsAll, List.cons_append, List.nil_append, List.append_assoc, List.length_cons, List.length_nil, Nat.zero_add, Nat.reduceAdd] at HC; clear hb_) | (go_at_call 19; have hq := to_d HG.out (HB.out.push false 0 HP.out) 0 rfl T2.out; (with_reducible refine hq.mono ?_); clear hq; rintro e_ w' ⟨A2, c2, rfl, hx_, hb_⟩; (try clear HC); have HB' := Aside0.mk (Boxes.below (HB.out.push false 0 HP.out) hb_); (try clear HB); have HB := HB'; clear HB'; (try clear HP); have HP := Aside0.mk hx_; clear hx_; have HC := HB.out.cells; simp only [CellsAll, List.cons_append, List.nil_append, List.append_assoc, List.length_cons, List.length_nil, Nat.zero_add, Nat.reduceAdd] at HC; clear hb_) | (go_at_call 18; have hq := sig_d HG.out (HB.out.push false 0 HP.out) 0 rfl T3.out; (with_reducible refine hq.mono ?_); clear hq; rintro e_ w' ⟨A3, c3, rfl, hx_, hb_⟩; (try clear HC); have HB' := Aside0.mk (Boxes.below (HB.out.push false 0 HP.out) hb_); (try clear HB); have HB := HB'; clear HB'; (try clear HP); have HP := Aside0.mk hx_; clear hx_; have HC := HB.out.cells; simp only [CellsAll, List.cons_append, List.nil_append, List.append_assoc, List.length_cons, List.length_nil, Nat.zero_add, Nat.reduceAdd] at HC; clear hb_) | (go_at_call 22; have hq := text_b (HB.out.push false 0 HP.out) 1 rfl X1.out; (with_reducible refine hq.mono ?_); clear hq; rintro e_ w' ⟨rfl, hb_⟩; (try clear HC); have HB' := Aside0.mk (Boxes.below (HB.out.push false 0 HP.out) hb_); (try clear HB); have HB := HB'; clear HB'; have HC := HB.out.cells; simp only [CellsAll, List.cons_append, List.nil_append, List.append_assoc, List.length_cons, List.length_nil, Nat.zero_add, Nat.reduceAdd] at HC; clear hb_) | (go_at_call 22; have hq := text_b HB.out 2 rfl X2.out; (with_reducible refine hq.mono ?_); clear hq; rintro e_ w' ⟨rfl, hb_⟩; (try clear HC); have HB' := Aside0.mk (Boxes.below HB.out hb_); (try clear HB); have HB := HB'; clear HB'; have HC := HB.out.cells; simp only [CellsAll, List.cons_append, List.nil_append, List.append_assoc, List.length_cons, List.length_nil, Nat.zero_add, Nat.reduceAdd] at HC; clear hb_) | (go_at_call 22; have hq := text_b HB.out 3 rfl X3.out; (with_reducible refine hq.mono ?_); clear hq; rintro e_ w' ⟨rfl, hb_⟩; (try clear HC); have HB' := Aside0.mk (Boxes.below HB.out hb_); (try clear HB); have HB := HB'; clear HB'; have HC := HB.out.cells; simp only [CellsAll, List.cons_append, List.nil_append, List.append_assoc, List.length_cons, List.length_nil, Nat.zero_add, Nat.reduceAdd] at HC; clear hb_) | (go_at_call 23; have hq := is_b HB.out IS.out; (with_reducible refine hq.mono ?_); clear hq; rintro e_ w' ⟨rfl, hb_⟩; (try clear HC); have HB' := Aside0.mk (Boxes.below HB.out hb_); (try clear HB); have HB := HB'; clear HB'; have HC := HB.out.cells; simp only [CellsAll, List.cons_append, List.nil_append, List.append_assoc, List.length_cons, List.length_nil, Nat.zero_add, Nat.reduceAdd] at HC; clear hb_) | (go_at_call 14; have hq := fits_b HG.out HB.out 1 rfl FI.out; (with_reducible refine hq.mono ?_); clear hq; rintro e_ w' ⟨rfl, hb_⟩; (try clear HC); have HB' := Aside0.mk (Boxes.below HB.out hb_); (try clear HB); have HB := HB'; clear HB'; have HC := HB.out.cells; simp only [CellsAll, List.cons_append, List.nil_append, List.append_assoc, List.length_cons, List.length_nil, Nat.zero_add, Nat.reduceAdd] at HC; clear hb_))
  -- END
  go_ret
  exact ⟨rfl, HB.out.2⟩
end Go.Proofs.YtogfokpmpdclbaaDoor.PZ
