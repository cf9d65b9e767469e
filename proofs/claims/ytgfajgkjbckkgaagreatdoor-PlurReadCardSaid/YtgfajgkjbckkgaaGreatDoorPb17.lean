/- Texts of this seat, joined. Conditions: none beyond each statement's own. -/
import Derived.Test.YtgfajgkjbckkgaaGreatDoorPb12
set_option linter.all false
section
set_option maxRecDepth 100000
namespace Go.Proofs.YtgfajgkjbckkgaaGreatDoor.PZ
open Go.RowKit Go.Proofs.YtgfajgkjbckkgaaGreatDoorW.PrintWords Go.Proofs.YtgfajgkjbckkgaaGreatDoorW.PrintLast
set_option maxHeartbeats 2000000 in
set_option maxRecDepth 100000 in
theorem in_1 (x:Rg)(gn:Nat)(n:Int)(W:World)(hn:W.cell? ⟨gn,0,none⟩=some (.int .i64 n)) :
    Calls Tryz.prog 82 #[.agg #[.int .i64 x.f0,.int .i64 x.f1],.pointer (some ⟨gn,0,none⟩)] W fun e w'=>e = .returned (.bool (decide (n≥x.f0) && decide (n≤x.f1)))∧Below W.heap.size W w':=by
 obtain ⟨a,b⟩:=x
 have z0:=fun o=>((below_alloc (Below.refl W.heap.size W) o).cell (World.block_lt_of_cell? W _ hn)).trans hn
 simp only
 cases h1:decide (n≥a) with
 | false=>
  go_enter Tryz.func82,Tryz.ntmps82
  go_wp2
  go_ret
  exact ⟨rfl,below_alloc (Below.refl _ _) _⟩
 | true=>
  go_enter Tryz.func82,Tryz.ntmps82
  go_wp2
  go_ret
  exact ⟨rfl,below_alloc (Below.refl _ _) _⟩
set_option maxHeartbeats 2000000 in
set_option maxRecDepth 100000 in
theorem in_2 (x:Rg)(gw gl:Nat)(wh:Bool)(A:Option Addr)(n c:Nat)(r:Bool)(W:World)(hw:W.cell? ⟨gw,0,none⟩=some (.bool wh))(hl:W.cell? ⟨gl,0,none⟩=some (.slice A n c))
    (hI:wh=true→∀ w',Below W.heap.size W w'→Calls Tryz.prog 84 #[.slice A n c,.int .i64 x.f0,.int .i64 x.f1] w' fun e w2=>e = .returned (.bool r)∧Below w'.heap.size w' w2) :
    Calls Tryz.prog 83 #[.agg #[.int .i64 x.f0,.int .i64 x.f1],.pointer (some ⟨gw,0,none⟩),.pointer (some ⟨gl,0,none⟩)] W fun e w'=>e = .returned (.bool (wh && r))∧Below W.heap.size W w':=by
 obtain ⟨a,b⟩:=x
 have z0:=fun o=>((below_alloc (Below.refl W.heap.size W) o).cell (World.block_lt_of_cell? W _ hw)).trans hw
 have z1:=fun o=>((below_alloc (Below.refl W.heap.size W) o).cell (World.block_lt_of_cell? W _ hl)).trans hl
 simp only at hI ⊢
 cases wh with
 | false=>
  clear hI
  go_enter Tryz.func83,Tryz.ntmps83
  go_wp2
  go_ret
  exact ⟨rfl,below_alloc (Below.refl _ _) _⟩
 | true=>
  have HI:=zA (hI rfl)
  clear hI
  go_enter Tryz.func83,Tryz.ntmps83
  go_wp2_with (go_at_call 84;(refine (HI.out _ (below_alloc (Below.refl _ _) _)).mono ?_);rintro e w5 ⟨rfl,hb5⟩;have hB:=below_step (below_alloc (Below.refl _ _) _) hb5;clear hb5)
  go_ret
  exact ⟨rfl,hB⟩
end Go.Proofs.YtgfajgkjbckkgaaGreatDoor.PZ
end
