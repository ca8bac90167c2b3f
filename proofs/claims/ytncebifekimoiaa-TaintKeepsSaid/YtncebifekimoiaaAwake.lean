/-
  Walks: the chapter's examples hold (cochineallaw01.awake).
-/
import Derived.Test.YtncebifekimoiaaTaint
import Derived.Test.YtncebifekimoiaaJAnd
import Derived.Test.YtncebifekimoiaaMem2
namespace Go.Proofs.Ytncebifekimoiaa
open Go Go.RowKit

theorem of_5 (w : World) : Calls Try.prog 13 #[.int .i64 5] w fun e w' => e = .returned (.agg #[.int .u8 5, .int .u8 0]) ∧ Below w.heap.size w w' := of_any 5 w
theorem of_0 (w : World) : Calls Try.prog 13 #[.int .i64 0] w fun e w' => e = .returned (.agg #[.int .u8 0, .int .u8 0]) ∧ Below w.heap.size w w' := of_any 0 w
theorem and_lit (w : World) : Calls Try.prog 16 #[.agg #[.int .u8 15, .int .u8 3], .agg #[.int .u8 5, .int .u8 0]] w fun e w' => e = .returned (.agg #[.int .u8 5, .int .u8 1]) ∧ Below w.heap.size w w' :=
  and_any 15#8 3#8 5#8 0#8 w
theorem zero_21 (w : World) : Calls Try.prog 27 #[.agg #[.int .u8 2, .int .u8 1]] w fun e w' => e = .returned (.agg #[.bool false, .bool false]) ∧ Below w.heap.size w w' :=
  zero_any 2#8 1#8 w
theorem zero_00 (w : World) : Calls Try.prog 27 #[.agg #[.int .u8 0, .int .u8 0]] w fun e w' => e = .returned (.agg #[.bool true, .bool false]) ∧ Below w.heap.size w w' :=
  zero_any 0#8 0#8 w

set_option maxHeartbeats 1000000 in
theorem awake_any (w : World) : Calls Try.prog 14 #[] w fun e w' => e = .returned (.bool true) ∧ Below w.heap.size w w' := by
  go_enter Try.func14, Try.ntmps14
  go_wp2_with fail
  refine (of_5 _).mono ?_
  rintro e w1 ⟨rfl, h1⟩
  go_wp2_with fail
  refine (and_lit _).mono ?_
  rintro e w2 ⟨rfl, h2⟩
  go_wp2_with fail
  refine (zero_21 _).mono ?_
  rintro e w3 ⟨rfl, h3⟩
  go_wp2_with fail
  refine (of_0 _).mono ?_
  rintro e w4 ⟨rfl, h4⟩
  go_wp2_with fail
  refine (zero_00 _).mono ?_
  rintro e w5 ⟨rfl, h5⟩
  go_wp2
  go_ret
  refine ⟨rfl, ?_⟩
  (repeat (first | with_reducible assumption | with_reducible exact Below.refl _ _ | with_reducible refine Mem.vdrew ?_ | with_reducible refine Mem.valloc _ ?_ | with_reducible refine Mem.vbelow ‹_› ?_ | with_reducible refine Mem.vset ?_ | with_reducible refine Mem.cdrew ?_ | with_reducible refine Mem.calloc _ ?_ | with_reducible refine Mem.bdrew ?_ | with_reducible refine Mem.cbelow ‹_› ?_ | with_reducible refine Mem.zdrew ?_ | with_reducible refine Mem.zalloc _ ?_ ?_ | with_reducible refine Mem.zbelow ‹_› ?_ ?_ | with_reducible refine Mem.zset ?_ | (with_reducible refine Mem.cset ?_ ?_; rotate_left; focus (first | (simp; done) | (simp; omega))) | (with_reducible refine Mem.balloc ?_ ?_ _; rotate_left; focus (first | (simp; done) | (simp; omega))) | (with_reducible refine Mem.bset ?_ ?_ _; rotate_left; focus (first | (simp; done) | (simp; omega))) | (with_reducible refine Mem.bbelow ?_ ?_ ‹_›; rotate_left; focus (first | (simp; done) | (simp; omega)))))
end Go.Proofs.Ytncebifekimoiaa
