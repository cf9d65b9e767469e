/- oper.number: a number's figures.
   Conditions: the laid table of powers of ten reads. -/
import Derived.Test.YtekinhnempbioaaDoorMix
namespace Go.Proofs.YtekinhnempbioaaDoor.PZ
open Go.RowKit Go.Proofs.YtekinhnempbioaaDoorW.PrintWords Go.Proofs.YtekinhnempbioaaDoorW.PrintLast
def oper_number.f (n : Int) : Option (List Int) := if -9223372036854775808 ≤ n ∧ n ≤ 9223372036854775807 then some (if n = 0 then [] else (bytesOf (numText n)).map lessB) else none
set_option maxHeartbeats 1000000 in
theorem oper_number.calls (a0 : Int) (r : List Int) (w : World) (hG : GL w) (h : oper_number.f a0 = some r) :
    Calls Tryd.prog 28 #[.int .i64 a0] w fun e w' => ∃ v0_ : Value, e = .returned (v0_) ∧ Kd.V (Kd.int .u8) 5 w' w.heap.size (fun k_ => w.heap.size ≤ k_) v0_ r ∧ Below w.heap.size w w' := by
  unfold oper_number.f at h
  by_cases hb : -9223372036854775808 ≤ a0 ∧ a0 ≤ 9223372036854775807
  · rw [if_pos hb] at h
    obtain rfl := Option.some.inj h
    clear h
    by_cases h0 : a0 = 0
    · subst h0
      simp only [if_true]
      go_enter Tryd.func28, Tryd.ntmps28
      go_wp2
      go_ret
      exact ⟨_, rfl, Kd.V_nil _ _ _ _ _, Below.refl _ _⟩
    · rw [if_neg h0]
      have e0 : (a0 == 0) = false := by simpa using h0
      have hsz := numText_size a0 hb.1 hb.2
      have hIt := strconv_Itoa.calls a0 (numText a0) w hG (by unfold strconv_Itoa.f numText; rw [if_pos hb])
      have hlen : (bytesOf (numText a0)).length = (numText a0).size := bytesOf_length _
      clear hb h0 hG
      generalize numText a0 = s at *
      have kc := fun (W : World) => print_bytes (P := Tryd.prog) 9 22 5 Tryd.underlying9 Tryd.underlying22 Tryd.underlying5 s W
      have HSZ := Aside0.mk hsz
      have HLEN := Aside0.mk hlen
      clear hsz hlen
      go_enter Tryd.func28, Tryd.ntmps28
      go_wp2_with (go_at_call 45; refine hIt.mono ?_; rintro e w1 ⟨rfl, hb1⟩; have HB1 := Aside0.mk hb1; clear hb1)
      have H0 := Aside0.mk (MixSt.start w1 s)
      have HB2 := Aside0.mk (bytes_below HB1.out HB1.out.size 5 s)
      go_loopg [4, 12] s.size (fun gg _ s12 wr => ∃ k : Nat, k ≤ s.size ∧ s.size - k ≤ gg ∧ s12 = .int .i64 k ∧ Aside0 (MixSt w1.heap.size (bytesOf s) k wr) ∧ Aside0 (Below w.heap.size w wr))
      case atStart => exact ⟨0, Nat.zero_le _, by omega, rfl, H0, HB2⟩
      case round =>
        obtain ⟨k, hk, hg, rfl, HM, HB⟩ := hrel
        have hs21 := HSZ.out
        by_cases hlt : k < s.size
        · have hlt1 := decide_eq_true hlt
          obtain ⟨hcell, hfz⟩ := HM.out.2 k (by rw [HLEN.out]; exact hlt)
          rw [if_neg (Nat.lt_irrefl k)] at hcell
          have HP := Aside0.mk (HM.out.put (by rw [HLEN.out]; exact hlt))
          generalize hy : rd (bytesOf s) (k : Int) = y at hcell HP
          clear hy
          go_wp2
          go_roundg (s.size - (k + 1))
          case measure => omega
          case rel => exact ⟨k + 1, by omega, by omega, by go_num, HP, ⟨Below.setCell HB.out HB1.out.size _⟩⟩
        · have : k = s.size := by omega
          subst this
          have hlt1 := decide_eq_false hlt
          go_wp2
          go_ret
          have hd := HM.out
          rw [← HLEN.out] at hd
          have hV := hd.done w.heap.size HB1.out.size (grownCap w1 s.size 0 5) (by rw [HLEN.out]; exact grownCap_ge _ _ _ _) (by rw [HLEN.out]; omega)
          rw [HLEN.out] at hV
          exact ⟨_, rfl, hV, HB.out⟩
  · rw [if_neg hb] at h
    cases h
end Go.Proofs.YtekinhnempbioaaDoor.PZ
