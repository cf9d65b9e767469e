/- What the statements of layer 6 are walked with: Decs in boxes, and the callees in a region that draws its order.
   Conditions: none. -/
import Derived.Lib.QuietBelow
import Derived.Test.YtogfokpmpdclbaaDoorBoxes06
import Derived.Test.YtogfokpmpdclbaaDoorPureNear
import Derived.Test.YtogfokpmpdclbaaDoorShown06
import Derived.Test.YtogfokpmpdclbaaDoorPZx10
set_option linter.unusedVariables false
set_option linter.unusedSimpArgs false
namespace Go.Proofs.YtogfokpmpdclbaaDoor.PZ
open Go.RowKit Go.Sort Go.Proofs.YtogfokpmpdclbaaDoorW.PrintWords Go.Proofs.YtogfokpmpdclbaaDoorW.PrintLast
def OneR (P : Prop) : Prop := P
section
variable {w W : World} {g gb : Bool} {A Ab : Option Addr} {l lb : List Int} {c cb : Nat} {e eb k place mode : Int}
theorem fits_q (hG : GL w) (hC : DRow w A l c) (hb : Below w.heap.size w W) {r : Bool} (h : round_Fits.f g l e k place = some r) (d : Nat) (os : Array Obj) :
    Calls Tryd.prog 14 #[.agg #[.bool g, .slice A l.length c, .int .i64 e], .int .i64 k, .int .i64 place] (grow (redrawn W d) os) fun e w' => e = .returned (.bool r) ∧ ∃ p : Regrown, w' = grow (redrawn W p.d) p.os :=
  Calls.regrown_of (round_Fits.calls g A c l e k place r _ (GL.below hG (bq hb d os)) (Kd.C_below hC.read (bq hb d os)) hC.cap h)
theorem same_q (hC : DRow W A l c) (hD : DRow W Ab lb cb) {r : Bool} {n : Nat} (h : exergueref05_Same.f n g l e gb lb eb = some r) (d : Nat) (os : Array Obj) :
    Calls Tryd.prog 15 #[.agg #[.bool g, .slice A l.length c, .int .i64 e], .agg #[.bool gb, .slice Ab lb.length cb, .int .i64 eb]] (grow (redrawn W d) os) fun e w' => e = .returned (.bool r) ∧ ∃ p : Regrown, w' = grow (redrawn W p.d) p.os :=
  Calls.regrown_of (exergueref05_Same.calls n g A c l e gb Ab cb lb eb r _ (Kd.C_below hC.read (below_regrown W d os)) hC.cap (Kd.C_below hD.read (below_regrown W d os)) hD.cap h)
theorem inc_c (hG : GL w) (hC : DRow w A l c) (hb : Below w.heap.size w W) {l' : List Int} {e' : Int} {n : Nat} (h : round_Inc.f n g l e k place mode = some (g, l', e', 0)) :
    Calls Tryd.prog 12 #[.agg #[.bool g, .slice A l.length c, .int .i64 e], .int .i64 k, .int .i64 place, .int .i64 mode] W (IncP W g l' e') :=
  (round_Inc.calls n g _ A c l e k place mode g l' e' 0 W (GL.below hG hb) (hC.V hb) h).mono fun x W' ⟨v, hx, hV, hB⟩ => by
    obtain ⟨A', c', rfl⟩ := Kd.V_slice hV
    obtain ⟨_, hl, hF⟩ := Kd.V_at hV
    exact ⟨A', c', hx, ⟨Kd.F_now hF, hl⟩, hB⟩
theorem near_c (hC : DRow w A l c) (hb : Below w.heap.size w W) {r : Bool} {n : Nat} (h : exerguelaw06_near.f n g l e k place mode = some r) :
    Calls Tryd.prog 10 #[.agg #[.bool g, .slice A l.length c, .int .i64 e], .int .i64 k, .int .i64 place, .int .i64 mode] W fun x W' => x = .returned (.bool r) ∧ Below W.heap.size W W' :=
  exerguelaw06_near.calls n g A c l e k place mode r W (Kd.C_below hC.read hb) hC.cap h
theorem shown_c (hG : GL w) (hb : Below w.heap.size w W) : Calls Tryd.prog 9 #[] W fun x W' => x = .returned (.bool true) ∧ Below W.heap.size W W' := by
  obtain ⟨n, hn⟩ := shown_ev.rounds
  exact exerguelaw06_shown.calls n true W (GL.below hG hb) hn
end
section
variable {L : List DB} {w W W' : World} {g gb : Bool} {A Ab : Option Addr} {l lb : List Int} {c cb : Nat} {e eb k place mode : Int}
theorem same_b (h : Boxes L w W) (i j : Nat) {b b' : Nat} (hx : L[i]? = some ⟨b, g, A, l, c, e⟩) (hy : L[j]? = some ⟨b', gb, Ab, lb, cb, eb⟩) {r : Bool} {n : Nat} (hs : exergueref05_Same.f n g l e gb lb eb = some r) :
    Calls Tryd.prog 15 #[.agg #[.bool g, .slice A l.length c, .int .i64 e], .agg #[.bool gb, .slice Ab lb.length cb, .int .i64 eb]] W fun x W' => x = .returned (.bool r) ∧ Below W.heap.size W W' :=
  exergueref05_Same.calls n g A c l e gb Ab cb lb eb r W (h.row hx).read (h.row hx).cap (h.row hy).read (h.row hy).cap hs
theorem inc_b (hG : GL w) (h : Boxes L w W) (i : Nat) {b : Nat} (hx : L[i]? = some ⟨b, g, A, l, c, e⟩) {l' : List Int} {e' : Int} {n : Nat} (hi : round_Inc.f n g l e k place mode = some (g, l', e', 0)) :
    Calls Tryd.prog 12 #[.agg #[.bool g, .slice A l.length c, .int .i64 e], .int .i64 k, .int .i64 place, .int .i64 mode] W (IncP W g l' e') :=
  inc_c (GL.below hG h.2) (h.row hx) (Below.refl _ W) hi
theorem near_b (h : Boxes L w W) (i : Nat) {b : Nat} (hx : L[i]? = some ⟨b, g, A, l, c, e⟩) {r : Bool} {n : Nat} (hn : exerguelaw06_near.f n g l e k place mode = some r) :
    Calls Tryd.prog 10 #[.agg #[.bool g, .slice A l.length c, .int .i64 e], .int .i64 k, .int .i64 place, .int .i64 mode] W fun x W' => x = .returned (.bool r) ∧ Below W.heap.size W W' :=
  near_c (h.row hx) (Below.refl _ W) hn
theorem shown_b (hG : GL w) (h : Boxes L w W) : Calls Tryd.prog 9 #[] W fun x W' => x = .returned (.bool true) ∧ Below W.heap.size W W' := shown_c (GL.below hG h.2) (Below.refl _ W)
end
/-- Whether two right numbers are the same, in so many rounds as are wanted. -/
theorem same_n (ga gb : Bool) {a b : List Int} {ea eb : Int} (ha : RDec a ea) : ∃ n, exergueref05_Same.f n ga a ea gb b eb = some (decide (ga = gb ∧ a = b ∧ ea = eb)) := (same_e ga gb a b ea eb (by have := ha.len; omega)).rounds
end Go.Proofs.YtogfokpmpdclbaaDoor.PZ
