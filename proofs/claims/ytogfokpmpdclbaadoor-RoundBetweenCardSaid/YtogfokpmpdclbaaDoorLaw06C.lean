/- What layer 6's statements that compare are walked with.
   Conditions: none. -/
import Derived.Test.YtogfokpmpdclbaaDoorLaw06
import Derived.Test.YtogfokpmpdclbaaDoorPureRefCmp
import Derived.Test.YtogfokpmpdclbaaDoorPureNear
set_option linter.unusedVariables false
set_option linter.unusedSimpArgs false
namespace Go.Proofs.YtogfokpmpdclbaaDoor.PZ
open Go.RowKit Go.Sort Go.Proofs.YtogfokpmpdclbaaDoorW.PrintWords Go.Proofs.YtogfokpmpdclbaaDoorW.PrintLast
section
variable {L : List DB} {w W W' : World} {g gb : Bool} {A Ab : Option Addr} {l lb : List Int} {c cb : Nat} {e eb k place mode : Int}
theorem cmp_b (h : Boxes L w W) (i j : Nat) {b b' : Nat} (hx : L[i]? = some ⟨b, g, A, l, c, e⟩) (hy : L[j]? = some ⟨b', gb, Ab, lb, cb, eb⟩) {r : Int} {n : Nat} (hs : exergueref05_Cmp.f n g l e gb lb eb = some r) :
    Calls Tryd.prog 16 #[.agg #[.bool g, .slice A l.length c, .int .i64 e], .agg #[.bool gb, .slice Ab lb.length cb, .int .i64 eb]] W fun x W' => x = .returned (.int .i64 r) ∧ Below W.heap.size W W' :=
  exergueref05_Cmp.calls n g A c l e gb Ab cb lb eb r W (h.row hx).read (h.row hx).cap (h.row hy).read (h.row hy).cap hs
theorem with_start (w : World) (o : Obj) (g : Bool) (e : Int) (hr : DRow w A l c) : Boxes [⟨w.heap.size + 1, g, A, l, c, e⟩] w ((w.alloc o).alloc (.cells #[.bool g, .slice A l.length c, .int .i64 e] 24)) := by
  have h0 : Boxes [] w (w.alloc o) := ⟨fun x hx => (by cases hx), (Below.refl _ w).alloc (Nat.le_refl _) _⟩
  have h1 := h0.push g e (hr.below ((Below.refl _ w).alloc (Nat.le_refl _) o))
  rwa [show (w.alloc o).heap.size = w.heap.size + 1 by simp] at h1
theorem cmp_n (ga gb : Bool) {a b : List Int} {ea eb : Int} (ha : RDec a ea) (hb : RDec b eb) {r : Int} (h : sg (val ga a ea - val gb b eb) = r) : ∃ n, exergueref05_Cmp.f n ga a ea gb b eb = some r := by
  rw [← h]
  exact (refcmp ga gb ha hb).rounds
end
def sv (g : Bool) (x : Int) : Int := if g then -x else x
theorem val_sv (g : Bool) (l : List Int) (e : Int) : val g l e = sv g (valN l e) := rfl
/-- What lies below, above, away from and towards nought. -/
theorem between_cases (g : Bool) (m V : Int) {U : Int} (hU : 0 < U) :
    sv g (incQ g 3 V U * U) ≤ sv g V ∧ sv g V ≤ sv g (incQ g 2 V U * U) ∧ (incQ g m V U * U = incQ g 3 V U * U ∨ (incQ g m V U * U ≠ incQ g 3 V U * U ∧ incQ g m V U * U = incQ g 2 V U * U)) ∧
    (g = true → incQ g 0 V U * U = incQ g 3 V U * U ∧ incQ g 1 V U * U = incQ g 2 V U * U) ∧ (g = false → incQ g 0 V U * U = incQ g 2 V U * U ∧ incQ g 1 V U * U = incQ g 3 V U * U) := by
  obtain ⟨P, R, hV, hR0, hR1, hR, hP, hi⟩ := inc_val V hU
  simp only [hi]
  by_cases h0 : R = 0
  · simp only [if_pos h0]
    unfold sv
    refine ⟨by split <;> omega, by split <;> omega, by simp, by simp, by simp⟩
  · simp only [if_neg h0]
    have e0 : wayB g 0 R U (V / U) = true := rfl
    have e1 : wayB g 1 R U (V / U) = false := rfl
    have e2 : wayB g 2 R U (V / U) = !g := rfl
    have e3 : wayB g 3 R U (V / U) = g := rfl
    rw [e0, e1, e2, e3]
    clear hR hP hi e0 e1 e2 e3
    generalize wayB g m R U (V / U) = t
    unfold sv
    cases g <;> cases t <;> simp <;> omega
end Go.Proofs.YtogfokpmpdclbaaDoor.PZ
