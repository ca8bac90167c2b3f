/-
  Walks: what (*sums.Sum).hide does to a sum, and what sums.secret returns.
-/
-- KEEP2
import Derived.Test.YtdpoebmahoipbaaTaint
import Derived.Test.YtdpoebmahoipbaaMem4
import Derived.Test.YtdpoebmahoipbaaMem5
import Derived.Test.YtdpoebmahoipbaaSNum
namespace Go.Proofs.Ytdpoebmahoipbaa
open Go Go.RowKit

set_option maxRecDepth 100000 in
set_option maxHeartbeats 4000000 in
theorem hide_any (g : Nat) (x0 x1 x2 x3 x4 y0 y1 y2 y3 y4 : Value) (is : Bool) (w : World) (hg : g < w.heap.size)
    (c0 : w.cell? ⟨g, 0, none⟩ = some x0) (c1 : w.cell? ⟨g, 1, none⟩ = some y0) (c2 : w.cell? ⟨g, 2, none⟩ = some x1) (c3 : w.cell? ⟨g, 3, none⟩ = some y1) (c4 : w.cell? ⟨g, 4, none⟩ = some x2)
    (c5 : w.cell? ⟨g, 5, none⟩ = some y2) (c6 : w.cell? ⟨g, 6, none⟩ = some x3) (c7 : w.cell? ⟨g, 7, none⟩ = some y3) (c8 : w.cell? ⟨g, 8, none⟩ = some x4) (c9 : w.cell? ⟨g, 9, none⟩ = some y4)
    (z1 : w.frozen? ⟨g, 1, none⟩ = false) (z3 : w.frozen? ⟨g, 3, none⟩ = false) (z5 : w.frozen? ⟨g, 5, none⟩ = false) (z7 : w.frozen? ⟨g, 7, none⟩ = false) (z9 : w.frozen? ⟨g, 9, none⟩ = false) :
    Calls Try.prog 29 #[.pointer (some ⟨g, 0, none⟩), .bool is] w fun e w' => e = .returned (.tuple #[]) ∧
      w'.cell? ⟨g, 0, none⟩ = some x0 ∧ w'.cell? ⟨g, 1, none⟩ = some (.int .u8 ((U8.hidT is).toNat : Int)) ∧ w'.cell? ⟨g, 2, none⟩ = some x1 ∧ w'.cell? ⟨g, 3, none⟩ = some (.bool is) ∧ w'.cell? ⟨g, 4, none⟩ = some x2 ∧ w'.cell? ⟨g, 5, none⟩ = some (.bool is) ∧
      w'.cell? ⟨g, 6, none⟩ = some x3 ∧ w'.cell? ⟨g, 7, none⟩ = some (.bool is) ∧ w'.cell? ⟨g, 8, none⟩ = some x4 ∧ w'.cell? ⟨g, 9, none⟩ = some (.bool is) ∧ Below g w w' := by
  cases is
  all_goals
    go_enter Try.func29, Try.ntmps29
    go_wp2_with fail
    go_region_with (fail)
    go_wp2_with fail
    refine wp_loop_rounds 5 ?_
    rw [rounds_succ]
    go_wp2_with fail
    rw [rounds_succ]
    go_wp2_with fail
    rw [rounds_succ]
    go_wp2_with fail
    rw [rounds_succ]
    go_wp2_with fail
    rw [rounds_succ]
    go_wp2_with fail
    go_end0
    refine ⟨rfl, ?_⟩
    refine ⟨?_, ?_, ?_, ?_, ?_, ?_, ?_, ?_, ?_, ?_, ?_⟩
    iterate 10
      refine Mem.cdrew (Mem.calloc _ ?_)
      simp [go_sem, U8.hidT, c0, c1, c2, c3, c4, c5, c6, c7, c8, c9]
    have hg' := Nat.le_of_lt hg
    have hl := Nat.le_refl g
    refine Mem.bdrew (Mem.balloc ?_ hg' _)
    repeat (with_reducible refine Mem.bset ?_ hl _)
    exact Below.refl _ _
end Go.Proofs.Ytdpoebmahoipbaa
