/- dec.Read's reader: power.
   Conditions: the text has at most 2^47 bytes. -/
import Derived.Test.YtahkamggdbibiaaDoorDecReadB
namespace Go.Proofs.YtahkamggdbibiaaDoor.PZ
open Go.RowKit Go.Proofs.YtahkamggdbibiaaDoorW.PrintWords Go.Proofs.YtahkamggdbibiaaDoorW.PrintLast

/-- A power's figures, one behind the other; yes: it was too far. -/
def powLoop : List Int → Int → Int × Bool
  | [], e => (e, false)
  | c :: q, e => if e * 10 + figOf c > 1000 then (e, true) else powLoop q (e * 10 + figOf c)
def powFr (s : ByteArray) (a : Nat) : Nat := if hasB s a 45 then a + 1 else a
def powQ (s : ByteArray) (a : Nat) : Int × Bool := powLoop (bytesAt s (powFr s a) (figTo s (powFr s a) 4)) 0
def powE (s : ByteArray) (a : Nat) : Int := if hasB s a 45 then -(powQ s a).1 else (powQ s a).1
def powAt (s : ByteArray) (a : Nat) : Nat := if (powQ s a).2 then powFr s a + 3 else figTo s (powFr s a) 4
theorem powLoop_bd (q : List Int) : ∀ e, 0 ≤ e → e ≤ 1000 → 0 ≤ (powLoop q e).1 ∧ (powLoop q e).1 ≤ 1000 := by
  induction q with
  | nil => intro e h1 h2; exact ⟨h1, h2⟩
  | cons c q ih =>
    intro e h1 h2
    unfold powLoop
    have : 0 ≤ figOf c := by unfold figOf; omega
    split
    · exact ⟨h1, h2⟩
    · exact ih _ (by omega) (by omega)

theorem RSt.e_ {ok : Nat → Prop} {w W : World} {neg : Bool} {l : List Int} {e : Int} {s : ByteArray} {a : Nat} {v : Value} (h : RSt ok w W neg l e s a v) (x : Int) :
    RSt ok w (W.setCell ⟨w.heap.size, 2, none⟩ (.int .i64 x)) neg l x s a v :=
  ⟨blk_put (cs := #[.bool neg, v, .int .i64 e, .string s, .int .i64 a]) h.1 2 _ rfl, Kd.R_far h.2.1 (fun k hk => hk.1) _, Below.setCell h.2.2 (by simp) _⟩
theorem RSt.a_ {ok : Nat → Prop} {w W : World} {neg : Bool} {l : List Int} {e : Int} {s : ByteArray} {a : Nat} {v : Value} (h : RSt ok w W neg l e s a v) (x : Nat) :
    RSt ok w (W.setCell ⟨w.heap.size, 4, none⟩ (.int .i64 (x : Int))) neg l e s x v :=
  ⟨blk_put (cs := #[.bool neg, v, .int .i64 e, .string s, .int .i64 a]) h.1 4 _ rfl, Kd.R_far h.2.1 (fun k hk => hk.1) _, Below.setCell h.2.2 (by simp) _⟩
theorem RSt.n_ {ok : Nat → Prop} {w W : World} {neg : Bool} {l : List Int} {e : Int} {s : ByteArray} {a : Nat} {v : Value} (h : RSt ok w W neg l e s a v) (x : Bool) :
    RSt ok w (W.setCell ⟨w.heap.size, 0, none⟩ (.bool x)) x l e s a v :=
  ⟨blk_put (cs := #[.bool neg, v, .int .i64 e, .string s, .int .i64 a]) h.1 0 _ rfl, Kd.R_far h.2.1 (fun k hk => hk.1) _, Below.setCell h.2.2 (by simp) _⟩

set_option maxHeartbeats 2000000 in
set_option maxRecDepth 100000 in
/-- Nought: just a 0. -/
theorem reader_power_nought (ok : Nat → Prop) (w W : World) (neg : Bool) (l : List Int) (s : ByteArray) (a : Nat) (A : Option Addr) (c : Nat) (h : RSt ok w W neg l 0 s a (.slice A l.length c)) (ha : a ≤ s.size) (hs : s.size ≤ 140737488351232) (h0 : l.length = 0 ∨ hasB s a 48 = true) :
    Calls Tryd.prog 27 #[.pointer (some ⟨w.heap.size, 0, none⟩)] W fun en W' => en = .returned (.bool (hasB s a 48)) ∧ RSt ok w W' neg l 0 s (if hasB s a 48 then a + 1 else a) (.slice A l.length c) := by
  have H := Aside0.mk h
  have c1 : W.cell? ⟨w.heap.size, 1, none⟩ = some (.slice A l.length c) := (blk_cell h.1 1).trans rfl
  have c3 : W.cell? ⟨w.heap.size, 3, none⟩ = some (.string s) := (blk_cell h.1 3).trans rfl
  have c4 : W.cell? ⟨w.heap.size, 4, none⟩ = some (.int .i64 a) := (blk_cell h.1 4).trans rfl
  have hc := fun n => reader_has ok w (W.drewN n) neg l 0 s a _ 48 (h.drew_ n) ha hs
  clear h
  have hx := bt_nat s a
  have p0 : (0 ≤ (a : Int)) = True := eq_true (by omega)
  by_cases h1 : l.length = 0
  · have g1 : ((l.length : Int) == 0) = true := by simp [h1]
    have g11 : (l.length == 0) = true := by simp [h1]
    clear h0 h1
    generalize (if hasB s a 48 = true then a + 1 else a) = a2 at hc ⊢
    generalize hasB s a 48 = bb at hc ⊢
    go_enter Tryd.func27, Tryd.ntmps27
    go_wp2
    go_quiet (fail)
    go_wp2_with (go_at_call 25; refine (hc _).mono ?_; rintro en w1 ⟨rfl, h1⟩; have H1 := Aside0.mk h1; clear h1)
    go_ret
    exact ⟨rfl, H1.out⟩
  · have h2 : hasB s a 48 = true := h0.resolve_left h1
    have h3 : a < s.size ∧ bt s a = 48 := by unfold hasB at h2; simpa using h2
    obtain ⟨h4, h5⟩ := h3
    have g1 : ((l.length : Int) == 0) = false := by simpa using h1
    have g11 : (l.length == 0) = false := by simpa using h1
    have g2 : decide ((a : Int) < (s.size : Int)) = true := decide_eq_true (by omega)
    have g3 : decide (a < s.size) = true := decide_eq_true h4
    have g4 : (a < s.size) = True := eq_true h4
    have g41 : ((a : Int) < (s.size : Int)) = True := eq_true (by omega)
    have g5 : (bt s a == 48) = true := by simp [h5]
    clear h0 h1 h2 h5
    generalize (if hasB s a 48 = true then a + 1 else a) = a2 at hc ⊢
    generalize hasB s a 48 = bb at hc ⊢
    go_enter Tryd.func27, Tryd.ntmps27
    go_wp2
    go_quiet (fail)
    go_wp2_with (go_at_call 25; refine (hc _).mono ?_; rintro en w1 ⟨rfl, h1⟩; have H1 := Aside0.mk h1; clear h1)
    go_ret
    exact ⟨rfl, H1.out⟩

theorem bne_dec (e : Int) : (e != 0) = decide (e ≠ 0) := by by_cases h : e = 0 <;> simp [h]
theorem rd_drop_cons2 (l : List Int) (k : Nat) (hk : k < l.length) : l.drop k = rd l (k : Int) :: l.drop (k + 1) := by
  rw [List.drop_eq_getElem_cons hk]
  congr 1
  simp [rd, List.getD_eq_getElem?_getD, List.getElem?_eq_getElem hk]
/-- Where a power's loop stands: k figures on. -/
def PowInv (ok : Nat → Prop) (w : World) (neg : Bool) (l : List Int) (s : ByteArray) (to_ : Nat) (v : Value) (q : List Int) (W2 : World) (b0 : Nat) (k : Nat) (e : Int) (wr : World) : Prop :=
  RSt ok w wr neg l e s to_ v ∧ 0 ≤ e ∧ e ≤ 1000 ∧ powLoop q 0 = powLoop (q.drop k) e ∧ wr.heap[b0]? = W2.heap[b0]?
set_option maxHeartbeats 4000000 in
set_option maxRecDepth 100000 in
theorem reader_power_some (ok : Nat → Prop) (w W : World) (neg : Bool) (l : List Int) (s : ByteArray) (a : Nat) (A : Option Addr) (c : Nat) (h : RSt ok w W neg l 0 s a (.slice A l.length c)) (ha : a ≤ s.size) (hs : s.size ≤ 140737488351232) (h0 : l.length ≠ 0) (h1 : hasB s a 48 = false) :
    Calls Tryd.prog 27 #[.pointer (some ⟨w.heap.size, 0, none⟩)] W fun en W' => en = .returned (.bool (decide (powE s a ≠ 0))) ∧ RSt ok w W' neg l (powE s a) s (powAt s a) (.slice A l.length c) := by
  have H := Aside0.mk h
  have c1 : W.cell? ⟨w.heap.size, 1, none⟩ = some (.slice A l.length c) := (blk_cell h.1 1).trans rfl
  have c3 : W.cell? ⟨w.heap.size, 3, none⟩ = some (.string s) := (blk_cell h.1 3).trans rfl
  have c4 : W.cell? ⟨w.heap.size, 4, none⟩ = some (.int .i64 a) := (blk_cell h.1 4).trans rfl
  have hc := fun n => reader_has ok w (W.drewN n) neg l 0 s a _ 45 (h.drew_ n) ha hs
  clear h
  have hx := bt_nat s a
  have p0 : (0 ≤ (a : Int)) = True := eq_true (by omega)
  have g1 : ((l.length : Int) == 0) = false := by simpa using h0
  have g11 : (l.length == 0) = false := by simpa using h0
  clear h0
  obtain ⟨fr, hfr⟩ : ∃ fr, fr = powFr s a := ⟨_, rfl⟩
  have hfs : fr ≤ s.size := by
    rw [hfr]; unfold powFr hasB
    split
    · rename_i z; simp at z; omega
    · exact ha
  obtain ⟨q, hq⟩ : ∃ q, q = bytesAt s fr (figTo s fr 4) := ⟨_, rfl⟩
  have hql : q.length = figTo s fr 4 - fr := by rw [hq]; exact bytesAt_len s fr _ (figEnd_le s fr 4 _ fr hfs)
  have hts : figTo s fr 4 ≤ s.size := figEnd_le s fr 4 _ fr hfs
  obtain ⟨to_, hto⟩ : ∃ t, t = figTo s fr 4 := ⟨_, rfl⟩
  have hf : ∀ W1, RSt ok w W1 neg l 0 s fr (.slice A l.length c) → Calls Tryd.prog 42 #[.pointer (some ⟨w.heap.size, 0, none⟩), .int .i64 4] W1 fun en W' => ∃ b0 c0, en = .returned (.slice (some ⟨b0, 0, none⟩) q.length c0) ∧ Kd.C (Kd.int .u8) W' (some ⟨b0, 0, none⟩) q.length q ∧ w.heap.size < b0 ∧ b0 < W'.heap.size ∧ RSt ok w W' neg l 0 s to_ (.slice A l.length c) := by
    intro W1 h1
    rw [hq, hto]
    exact reader_figures ok w W1 neg l 0 s fr _ 4 h1 hfs hs
  obtain ⟨nb, hnb⟩ : ∃ b, b = hasB s a 45 := ⟨_, rfl⟩
  have hc2 : ∀ n, Calls Tryd.prog 25 #[.pointer (some ⟨w.heap.size, 0, none⟩), .int .u8 45] (W.drewN n) fun en W' => en = .returned (.bool nb) ∧ RSt ok w W' neg l 0 s fr (.slice A l.length c) := by
    intro n
    rw [hnb, hfr]
    exact hc n
  have hPQ : powQ s a = powLoop q 0 := by unfold powQ; rw [hq, hfr]
  have hPE : powE s a = if nb then -(powLoop q 0).1 else (powLoop q 0).1 := by unfold powE; rw [hPQ, hnb]
  have hPA : powAt s a = if (powLoop q 0).2 then fr + 3 else to_ := by unfold powAt; rw [hPQ, hto, hfr]
  rw [← hto] at hql hts
  have hfm : fr ≤ 140737488351232 := by omega
  have hqm : q.length ≤ 140737488351232 := by omega
  have G : (decide (a < s.size) = true ∧ (bt s a == 48) = false) ∨ decide (a < s.size) = false := by
    by_cases z : a < s.size
    · refine .inl ⟨decide_eq_true z, ?_⟩
      unfold hasB at h1
      simpa [z] using h1
    · exact .inr (decide_eq_false z)
  generalize powE s a = PE at hPE ⊢
  generalize powAt s a = PA at hPA ⊢
  have HPE := Aside0.mk hPE
  have HPA := Aside0.mk hPA
  clear hPE hPA hPQ hc hfr hq hto hnb h1 hql hts hfs
  have fin : ∀ (e : Int) (bk : Bool) (wr : World) (at_ : Nat), powLoop q 0 = (e, bk) → at_ = (if bk then fr + 3 else to_) → 0 ≤ e → RSt ok w wr neg l (if nb then -e else e) s at_ (.slice A l.length c) → RSt ok w wr neg l PE s PA (.slice A l.length c) ∧ PE = (if nb then -e else e) := by
    intro e bk wr at_ h2 h3 _ h4
    rw [HPE.out, HPA.out, h2]
    exact ⟨by rw [← h3]; exact h4, rfl⟩
  have FIN := Aside0.mk fin
  clear fin HPE HPA
  have stop : ∀ (k : Nat) (e y : Int), powLoop q 0 = powLoop (q.drop k) e → k < q.length → rd q (k : Int) = y → e * 10 + figOf y > 1000 → powLoop q 0 = (e, true) := by
    intro k e y h2 h3 h4 h5
    rw [h2, rd_drop_cons2 q k h3, h4]
    simp only [powLoop]
    rw [if_pos h5]
  have go : ∀ (k : Nat) (e y : Int), powLoop q 0 = powLoop (q.drop k) e → k < q.length → rd q (k : Int) = y → ¬ e * 10 + figOf y > 1000 → powLoop q 0 = powLoop (q.drop (k + 1)) (e * 10 + figOf y) := by
    intro k e y h2 h3 h4 h5
    rw [h2, rd_drop_cons2 q k h3, h4]
    rw [powLoop, if_neg h5]
  have STOP := Aside0.mk stop
  have GO := Aside0.mk go
  clear stop go
  rcases G with ⟨G1, G2⟩ | G1
  · have g3 : decide ((a : Int) < (s.size : Int)) = true := decide_eq_true (by have := of_decide_eq_true G1; omega)
    have g4 : (a < s.size) = True := eq_true (of_decide_eq_true G1)
    have g41 : ((a : Int) < (s.size : Int)) = True := eq_true (by have := of_decide_eq_true G1; omega)
    go_enter Tryd.func27, Tryd.ntmps27
    go_wp2
    go_quiet (fail)
    clear G1 G2 g3 g4 g41 hx p0 g1 g11 c1 c3 c4
    go_wp2_with (first
      | (go_at_call 25; refine (hc2 _).mono ?_; rintro en w1 ⟨rfl, h1⟩; have H1 := Aside0.mk h1; have d4 : w1.cell? ⟨w.heap.size, 4, none⟩ = some (.int .i64 fr) := (blk_cell h1.1 4).trans rfl; clear h1)
      | (go_at_call 42; refine (hf _ H1.out).mono ?_; rintro en w2 ⟨b0, c0, rfl, hC, hb1, hb2, h2⟩; have HC := Aside0.mk hC; have H2 := Aside0.mk h2; clear hC h2 d4 hf hc2 H1))
    go_loopg [50] q.length (fun gg s50 wr => ∃ (k : Nat) (e : Int), k ≤ q.length ∧ q.length - k ≤ gg ∧ s50 = .int .i64 k ∧ Aside0 (PowInv ok w neg l s to_ (.slice A l.length c) q w2 b0 k e wr))
    case atStart => exact ⟨0, 0, Nat.zero_le _, by omega, rfl, ⟨⟨H2.out, by omega, by omega, rfl, rfl⟩⟩⟩
    case round =>
      obtain ⟨k, e, hk, hg, rfl, HI⟩ := hrel
      have he1 := HI.out.2.1
      have he2 := HI.out.2.2.1
      have c2 : wr.cell? ⟨w.heap.size, 2, none⟩ = some (.int .i64 e) := (blk_cell HI.out.1.1 2).trans rfl
      have c4 : wr.cell? ⟨w.heap.size, 4, none⟩ = some (.int .i64 to_) := (blk_cell HI.out.1.1 4).trans rfl
      have f2 := blk_frozen HI.out.1.1 2
      have f4 := blk_frozen HI.out.1.1 4
      by_cases hlt : k < q.length
      · have hlt1 := decide_eq_true hlt
        obtain ⟨ad, e1, hcell⟩ := Kd.at_int HC.out (k : Int) (by omega) (by omega)
        cases e1
        simp only [Int.toNat_natCast] at hcell
        rw [add_plain] at hcell
        replace hcell : wr.cell? ⟨b0, k, none⟩ = some (.int .u8 (rd q (k : Int))) := (World.cell?_of_block (w := w2) HI.out.2.2.2.2).trans hcell
        generalize hy : rd q (k : Int) = y at hcell
        have Y := Aside0.mk hy
        clear hy
        have hf0 : 0 ≤ figOf y := by unfold figOf; omega
        have hf1 : figOf y ≤ 255 := by unfold figOf; omega
        by_cases hn : e * 10 + figOf y > 1000
        · have ST := Aside0.mk (STOP.out k e y HI.out.2.2.2.1 hlt Y.out hn)
          have hn1 : decide ((1000 : Int) < e * 10 + (y - 48) % 256) = true := decide_eq_true hn
          clear hn hf0 hf1
          have ez : (fr : Int) + 4 - 1 = ((fr + 3 : Nat) : Int) := by omega
          have EZ := Aside0.mk ez
          clear ez
          cases nb
          · go_wp2
            go_ret
            have z := FIN.out e true _ (fr + 3) ST.out rfl he1 (HI.out.1.a_ (fr + 3))
            rw [← EZ.out] at z
            exact ⟨by rw [z.2]; exact congrArg (fun b => Ending.returned (.bool b)) (bne_dec e), z.1⟩
          · go_wp2
            go_ret
            have z := FIN.out e true _ (fr + 3) ST.out rfl he1 ((HI.out.1.a_ (fr + 3)).e_ (-e))
            rw [← EZ.out] at z
            exact ⟨by rw [z.2]; show Ending.returned (.bool (-e != 0)) = _; rw [bne_dec]; simp, z.1⟩
        · have hn1 : decide ((1000 : Int) < e * 10 + (y - 48) % 256) = false := decide_eq_false hn
          have ST := Aside0.mk (GO.out k e y HI.out.2.2.2.1 hlt Y.out (by omega))
          have B1 : Aside0 (0 ≤ e * 10 + figOf y ∧ e * 10 + figOf y ≤ 1000) := ⟨by omega, by omega⟩
          clear hn hf0 hf1
          go_wp2
          go_roundg (q.length - (k + 1))
          case measure => omega
          case rel => exact ⟨k + 1, e * 10 + figOf y, by omega, by omega, by go_num, ⟨HI.out.1.e_ _, B1.out.1, B1.out.2, ST.out, (Below.heap_setCell _ _ _ _ (by simp; omega)).trans HI.out.2.2.2.2⟩⟩
      · have : k = q.length := by omega
        subst this
        have hlt1 := decide_eq_false hlt
        have ST : Aside0 (powLoop q 0 = (e, false)) := ⟨by rw [HI.out.2.2.2.1, List.drop_length]; rfl⟩
        cases nb
        · go_wp2
          go_ret
          have z := FIN.out e false _ to_ ST.out rfl he1 HI.out.1
          exact ⟨by rw [z.2]; exact congrArg (fun b => Ending.returned (.bool b)) (bne_dec e), z.1⟩
        · go_wp2
          go_ret
          have z := FIN.out e false _ to_ ST.out rfl he1 (HI.out.1.e_ (-e))
          exact ⟨by rw [z.2]; show Ending.returned (.bool (-e != 0)) = _; rw [bne_dec]; simp, z.1⟩
  · have g3 : decide ((a : Int) < (s.size : Int)) = false := decide_eq_false (by have := of_decide_eq_false G1; omega)
    go_enter Tryd.func27, Tryd.ntmps27
    go_wp2
    go_quiet (fail)
    clear G1 g3 hx p0 g1 g11 c1 c3 c4
    go_wp2_with (first
      | (go_at_call 25; refine (hc2 _).mono ?_; rintro en w1 ⟨rfl, h1⟩; have H1 := Aside0.mk h1; have d4 : w1.cell? ⟨w.heap.size, 4, none⟩ = some (.int .i64 fr) := (blk_cell h1.1 4).trans rfl; clear h1)
      | (go_at_call 42; refine (hf _ H1.out).mono ?_; rintro en w2 ⟨b0, c0, rfl, hC, hb1, hb2, h2⟩; have HC := Aside0.mk hC; have H2 := Aside0.mk h2; clear hC h2 d4 hf hc2 H1))
    go_loopg [50] q.length (fun gg s50 wr => ∃ (k : Nat) (e : Int), k ≤ q.length ∧ q.length - k ≤ gg ∧ s50 = .int .i64 k ∧ Aside0 (PowInv ok w neg l s to_ (.slice A l.length c) q w2 b0 k e wr))
    case atStart => exact ⟨0, 0, Nat.zero_le _, by omega, rfl, ⟨⟨H2.out, by omega, by omega, rfl, rfl⟩⟩⟩
    case round =>
      obtain ⟨k, e, hk, hg, rfl, HI⟩ := hrel
      have he1 := HI.out.2.1
      have he2 := HI.out.2.2.1
      have c2 : wr.cell? ⟨w.heap.size, 2, none⟩ = some (.int .i64 e) := (blk_cell HI.out.1.1 2).trans rfl
      have c4 : wr.cell? ⟨w.heap.size, 4, none⟩ = some (.int .i64 to_) := (blk_cell HI.out.1.1 4).trans rfl
      have f2 := blk_frozen HI.out.1.1 2
      have f4 := blk_frozen HI.out.1.1 4
      by_cases hlt : k < q.length
      · have hlt1 := decide_eq_true hlt
        obtain ⟨ad, e1, hcell⟩ := Kd.at_int HC.out (k : Int) (by omega) (by omega)
        cases e1
        simp only [Int.toNat_natCast] at hcell
        rw [add_plain] at hcell
        replace hcell : wr.cell? ⟨b0, k, none⟩ = some (.int .u8 (rd q (k : Int))) := (World.cell?_of_block (w := w2) HI.out.2.2.2.2).trans hcell
        generalize hy : rd q (k : Int) = y at hcell
        have Y := Aside0.mk hy
        clear hy
        have hf0 : 0 ≤ figOf y := by unfold figOf; omega
        have hf1 : figOf y ≤ 255 := by unfold figOf; omega
        by_cases hn : e * 10 + figOf y > 1000
        · have ST := Aside0.mk (STOP.out k e y HI.out.2.2.2.1 hlt Y.out hn)
          have hn1 : decide ((1000 : Int) < e * 10 + (y - 48) % 256) = true := decide_eq_true hn
          clear hn hf0 hf1
          have ez : (fr : Int) + 4 - 1 = ((fr + 3 : Nat) : Int) := by omega
          have EZ := Aside0.mk ez
          clear ez
          cases nb
          · go_wp2
            go_ret
            have z := FIN.out e true _ (fr + 3) ST.out rfl he1 (HI.out.1.a_ (fr + 3))
            rw [← EZ.out] at z
            exact ⟨by rw [z.2]; exact congrArg (fun b => Ending.returned (.bool b)) (bne_dec e), z.1⟩
          · go_wp2
            go_ret
            have z := FIN.out e true _ (fr + 3) ST.out rfl he1 ((HI.out.1.a_ (fr + 3)).e_ (-e))
            rw [← EZ.out] at z
            exact ⟨by rw [z.2]; show Ending.returned (.bool (-e != 0)) = _; rw [bne_dec]; simp, z.1⟩
        · have hn1 : decide ((1000 : Int) < e * 10 + (y - 48) % 256) = false := decide_eq_false hn
          have ST := Aside0.mk (GO.out k e y HI.out.2.2.2.1 hlt Y.out (by omega))
          have B1 : Aside0 (0 ≤ e * 10 + figOf y ∧ e * 10 + figOf y ≤ 1000) := ⟨by omega, by omega⟩
          clear hn hf0 hf1
          go_wp2
          go_roundg (q.length - (k + 1))
          case measure => omega
          case rel => exact ⟨k + 1, e * 10 + figOf y, by omega, by omega, by go_num, ⟨HI.out.1.e_ _, B1.out.1, B1.out.2, ST.out, (Below.heap_setCell _ _ _ _ (by simp; omega)).trans HI.out.2.2.2.2⟩⟩
      · have : k = q.length := by omega
        subst this
        have hlt1 := decide_eq_false hlt
        have ST : Aside0 (powLoop q 0 = (e, false)) := ⟨by rw [HI.out.2.2.2.1, List.drop_length]; rfl⟩
        cases nb
        · go_wp2
          go_ret
          have z := FIN.out e false _ to_ ST.out rfl he1 HI.out.1
          exact ⟨by rw [z.2]; exact congrArg (fun b => Ending.returned (.bool b)) (bne_dec e), z.1⟩
        · go_wp2
          go_ret
          have z := FIN.out e false _ to_ ST.out rfl he1 (HI.out.1.e_ (-e))
          exact ⟨by rw [z.2]; show Ending.returned (.bool (-e != 0)) = _; rw [bne_dec]; simp, z.1⟩
end Go.Proofs.YtahkamggdbibiaaDoor.PZ
