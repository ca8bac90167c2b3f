/-
  Walks: flags.Parse of a text that has not eight bytes.
-/
-- KEEP4
import Derived.Test.YtodfgcbgiaboiaaDoorPrs
import Derived.Test.YtodfgcbgiaboiaaDoorMem13
namespace Go.Proofs.YtodfgcbgiaboiaaDoor
open Go Go.RowKit

set_option maxHeartbeats 4000000 in
theorem parse_len (s : ByteArray) (hs : s.size ≠ 8) (w : World) : Calls Tryd.prog 9 #[.string s] w fun e w' => e = .returned (.tuple #[.agg #[.int .u8 0, .int .u8 0], .int .i64 11]) ∧ Below w.heap.size w w' := by
  have hz : ¬ ((s.size : Int) = 8) := by omega
  go_enter Tryd.func9, Tryd.ntmps9
  go_wp2
  go_step3
  go_wp2
  refine Mem.gate (fun W => (W.cell? ⟨w.heap.size, 0, none⟩ = some (.int .u8 0) ∧ W.cell? ⟨w.heap.size, 1, none⟩ = some (.int .u8 0)) ∧ Below w.heap.size w W) ?_ ?_
  · refine ⟨⟨?_, ?_⟩, ?_⟩
    all_goals ((repeat' with_reducible apply And.intro) <;> first | with_reducible assumption | ((repeat (first | with_reducible assumption | with_reducible exact Below.refl _ _ | with_reducible exact Mem.vsome ‹_› | with_reducible refine Mem.itdrew ?_ | with_reducible refine Mem.italloc _ ?_ | with_reducible refine Mem.itbelow ‹_› ?_ | with_reducible refine Mem.itset ?_ | ((with_reducible refine Mem.vnew ?_ ?_) <;> first | rfl | (simp; done)) | ((with_reducible refine Mem.cnew ?_ ?_) <;> first | rfl | (simp; done)) | ((with_reducible refine Mem.znew ?_) <;> first | rfl | (simp; done)) | with_reducible refine Mem.vdrew ?_ | with_reducible refine Mem.valloc _ ?_ | with_reducible refine Mem.vbelow ‹_› ?_ | with_reducible refine Mem.vset ?_ | with_reducible refine Mem.cdrew ?_ | with_reducible refine Mem.calloc _ ?_ | with_reducible refine Mem.bdrew ?_ | with_reducible refine Mem.cbelow ‹_› ?_ | with_reducible refine Mem.zdrew ?_ | with_reducible refine Mem.zalloc _ ?_ ?_ | with_reducible refine Mem.zbelow ‹_› ?_ ?_ | with_reducible refine Mem.zset ?_ | (with_reducible refine Mem.cset ?_ ?_; rotate_left; focus (first | (simp; done) | (simp; omega))) | (with_reducible refine Mem.balloc ?_ ?_ _; rotate_left; focus (first | (simp; done) | (simp; omega))) | (with_reducible refine Mem.bset ?_ ?_ _; rotate_left; focus (first | (simp; done) | (simp; omega))) | (with_reducible refine Mem.bbelow ?_ ?_ ‹_›; rotate_left; focus (first | (simp; done) | (simp; omega))))); done) | (simp [go_sem]; done) | (with_reducible refine Mem.cbelow ‹_› ?_; simp [go_sem, *]; done) | (with_reducible refine Mem.vbelow ‹_› (Mem.vof ?_); simp [go_sem]; done) | ((with_reducible refine Mem.zbelow ‹_› (Mem.vof ?_) ?_) <;> (simp [go_sem]; done)) | (simp [go_sem, *]; done))
  rintro W3 ⟨⟨g0, g1⟩, hB⟩
  try rw [Exit.noGoto_ret]
  refine bodyPost_ret (v := .tuple #[.agg #[.int .u8 0, .int .u8 0], .int .i64 11]) (by simp [results, Tryd.results9, go_sem, g0, g1]) rfl ⟨rfl, ?_⟩
  exact hB
end Go.Proofs.YtodfgcbgiaboiaaDoor
