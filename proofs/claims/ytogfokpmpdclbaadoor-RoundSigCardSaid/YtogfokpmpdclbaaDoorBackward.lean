/- slices.Backward over bytes: what its iterator owes, for every body that keeps what lay below n₀ and the iterator's own box.
   Conditions: none. -/
import Derived.RangeFuncBox
import Derived.RangeFuncNested
import Derived.RangeFuncBound
import Derived.RangeFuncCalls
import Derived.RangeFuncLeaves
import Derived.Shelf.Abstract
import Derived.Shelf.RegionOpen
import Derived.WalkKit
import Derived.OwnWalkIn
import Derived.TacticsInMore
import Derived.LoopNIn
import Derived.LoopIn
import Derived.Test.YtogfokpmpdclbaaDoorMix
set_option linter.unusedSimpArgs false
set_option linter.unusedVariables false
namespace Go.Proofs.YtogfokpmpdclbaaDoor.PZ
open Go.RowKit Go.Shelf Go.Proofs.YtogfokpmpdclbaaDoorW.PrintWords Go.Proofs.YtogfokpmpdclbaaDoorW.PrintLast
attribute [local go_sem] Oper.semAt_some
/-- What has come when k rounds are over: the row from behind. -/
def backK (zs : List Int) (k : Nat) : List (Int × Int) := (List.range k).map fun j : Nat => (((zs.length : Int) - 1 - j), rd zs ((zs.length : Int) - 1 - j))
theorem backK_succ (zs : List Int) (k : Nat) : backK zs (k + 1) = backK zs k ++ [(((zs.length : Int) - 1 - k), rd zs ((zs.length : Int) - 1 - k))] := by simp [backK, List.range_succ]
theorem backK_length (zs : List Int) (k : Nat) : (backK zs k).length = k := by simp [backK]
/-- What a round keeps. -/
def BackKp (n₀ Bs : Nat) (A B : World) : Prop := Below n₀ A B ∧ B.cell? ⟨Bs, 0, none⟩ = A.cell? ⟨Bs, 0, none⟩
set_option maxRecDepth 100000 in
set_option maxHeartbeats 2000000 in
theorem backward1_in (F : Fence) (n : Nat) (hf : F.fn 55) (hro : F.round = none) (hn : 1 ≤ n) (l Bs n₀ : Nat) (A : Option Addr) (cap : Nat) (zs : List Int) (hlen : zs.length ≤ 140737488351232) (J Jx : List (Int × Int) → World → Prop)
    (hY : ∀ pre x W, J pre W → pre.length < zs.length → YieldAt F (n - 1) Tryd.prog l #[.int .i64 x.1, .int .u8 x.2] W fun e W' =>
      (e = .returned (.bool true) ∧ J (pre ++ [x]) W' ∧ BackKp n₀ Bs W W') ∨ (e = .returned (.bool false) ∧ Jx (pre ++ [x]) W'))
    (W : World) (hBs : W.cell? ⟨Bs, 0, none⟩ = some (.slice A zs.length cap)) (hc : ∀ W', Below n₀ W W' → Kd.C (Kd.int .u8) W' A zs.length zs) (h0 : J [] W) :
    CallsIn F n Tryd.prog 55 #[.func (.yield l) #[] #[], .pointer (some ⟨Bs, 0, none⟩)] W fun e W' => (∃ v, e = .returned v) ∧
      ((∃ ys, ys = backK zs zs.length ∧ J ys W') ∨ (∃ pre, (∃ k, k ≤ zs.length ∧ pre = backK zs k) ∧ Jx pre W')) := by
  refine callsIn_of_wp Tryd.func55 rfl hf ?_ hro
  simp only [Tryd.ntmps55, List.size_toArray, List.length_cons, List.length_nil, Nat.reduceAdd, Nat.reduceSub, Array.replicate_succ, Array.replicate_zero, List.push_toArray, List.append_toArray, List.nil_append, List.cons_append]
  gi_wp2
  gi_loopw [3] (fun i wr => ∃ k : Nat, k ≤ zs.length ∧ i = .int .i64 ((zs.length : Int) - 1 - k) ∧ J (backK zs k) wr ∧ BackKp n₀ Bs W wr)
    (fun i _ => (intOf i + 1).toNat)
  case atStart => exact ⟨0, Nat.zero_le _, by go_num, h0, Below.refl _ _, rfl⟩
  case round =>
    obtain ⟨k, hk, rfl, hJs, hnx⟩ := hrel
    by_cases hlt : k < zs.length
    · obtain ⟨fn, tmps, assign, body, hy, hR⟩ := hY _ (((zs.length : Int) - 1 - k), rd zs ((zs.length : Int) - 1 - k)) wr hJs (by rw [backK_length]; exact hlt)
      dsimp only at hy
      obtain ⟨ad, e1, hcell⟩ := Kd.at_int (hc wr hnx.1) ((zs.length : Int) - 1 - k) (by omega) (by omega)
      cases e1
      have hbx := hnx.2.trans hBs
      rw [show ((zs.length : Int) - 1 - k).toNat = zs.length - 1 - k by omega] at hcell
      have hge : decide ((k : Int) ≤ (zs.length : Int) - 1) = true := decide_eq_true (by omega)
      gi_wp2
      refine hR.mono ?_
      rintro e W3 (⟨rfl, hJ3, hk3⟩ | ⟨rfl, hJx3⟩)
      · gi_wp2
        go_roundw
        case rel => exact ⟨k + 1, by omega, by go_num, by rw [backK_succ]; exact hJ3, hnx.1.trans hk3.1, hk3.2.trans hnx.2⟩
        case measure => simp [intOf]; omega
      · gi_wp2
        refine bodyPost_ret (results_none rfl _ _ _) rfl ?_
        exact ⟨⟨_, rfl⟩, .inr ⟨_, ⟨k + 1, by omega, (backK_succ _ _).symm⟩, hJx3⟩⟩
    · have hge : decide ((k : Int) ≤ (zs.length : Int) - 1) = false := decide_eq_false (by omega)
      obtain rfl : k = zs.length := by omega
      gi_wp2
      go_end0
      exact ⟨⟨_, rfl⟩, .inl ⟨_, rfl, hJs⟩⟩
theorem backward_stops (F : Fence) (n : Nat) (hf : F.fn 55) (hro : F.round = none) (hn : 1 ≤ n) (Bs n₀ : Nat) (A : Option Addr) (cap : Nat) (zs : List Int) (hlen : zs.length ≤ 140737488351232) (w : World) (hBs : Bs < w.heap.size) (hn₀ : n₀ ≤ w.heap.size)
    (hb : w.cell? ⟨Bs, 0, none⟩ = some (.slice A zs.length cap)) (hC : ∀ W', Below n₀ w W' → Kd.C (Kd.int .u8) W' A zs.length zs) :
    SeqStopsK F n Tryd.prog 55 #[.pointer (some ⟨Bs, 0, none⟩)] (fun x : Int × Int => #[Value.int .i64 x.1, Value.int .u8 x.2]) (BackKp n₀ Bs) (fun ys => ys = backK zs zs.length) (fun pre => ∃ k, k ≤ zs.length ∧ pre = backK zs k) zs.length w :=
  fun l J Jx W hW _ _ hY h0 => backward1_in F n hf hro hn l Bs n₀ A cap zs hlen J Jx hY W ((hW.cell (p := ⟨Bs, 0, none⟩) hBs).trans hb) (fun W' h => hC W' ((hW.mono hn₀).trans h)) h0
theorem backKp_t {n₀ Bs : Nat} {A B C : World} (h : BackKp n₀ Bs A B) (k : BackKp n₀ Bs B C) : BackKp n₀ Bs A C := ⟨h.1.trans k.1, k.2.trans h.2⟩
theorem backKp_b {n₀ Bs : Nat} {w : World} (hn : n₀ ≤ w.heap.size) (hB : Bs < w.heap.size) (W : World) (l : Nat) (o o' : Obj) (hl : w.heap.size ≤ l) (h : W.heap[l]? = some o) (h1 : o.isCells = false) (h2 : o.isWalk = false) : BackKp n₀ Bs W (W.putObj l o') := by
  have hlt : l < W.heap.size := (Array.getElem?_eq_some_iff.1 h).1
  have := (grownBy_putObj' W l o').block Bs (by omega) (by intro e; cases e; omega)
  exact ⟨belowK_b hn W l o o' hl h h1 h2, by simp only [World.cell?, this]⟩
theorem backward_in (F : Fence) (n : Nat) (hf : F.fn 46) (hro : F.round = none) (a : Option Addr) (len cap : Nat) (w : World) :
    CallsIn F n Tryd.prog 46 #[.slice a len cap] w fun e w' => e = .returned (.func (.func 55) #[] #[.pointer (some ⟨w.heap.size, 0, none⟩)]) ∧ w' = w.alloc (.cells #[.slice a len cap] 22) := by
  refine callsIn_of_wp Tryd.func46 rfl hf ?_ hro
  simp only [Tryd.ntmps46, List.size_toArray, List.length_cons, List.length_nil, Nat.reduceAdd, Nat.reduceSub, Array.replicate_succ, Array.replicate_zero, List.push_toArray, List.append_toArray, List.nil_append, List.cons_append]
  gi_wp2
  go_ret
  exact ⟨rfl, rfl⟩
end Go.Proofs.YtogfokpmpdclbaaDoor.PZ
