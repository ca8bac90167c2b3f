/-
  Walks: what cochinealref01.Bits returns.
-/
import Derived.Test.YtodfgcbgiaboiaaDoorRef
import Derived.Test.YtodfgcbgiaboiaaDoorMem3
import Derived.Test.YtodfgcbgiaboiaaDoorNum4
namespace Go.Proofs.YtodfgcbgiaboiaaDoor
open Go Go.RowKit

set_option maxHeartbeats 800000 in
/-- What cochinealref01.Bit returns, and the world to the block. -/
theorem rbit_exact (v t : BitVec 8) (n : Nat) (hn : n < 8) (w : World) : Calls Tryd.prog 20 #[.agg #[.int .u8 (v.toNat : Int), .int .u8 (t.toNat : Int)], .int .i64 (n : Int)] w fun e w' =>
    e = .returned (.agg #[.bool (U8.bitB v n), .bool (U8.bitB t n)]) ∧ ((w.alloc (.cells #[.int .u8 (v.toNat : Int), .int .u8 (t.toNat : Int)] 23)).alloc (.cells #[.bool (U8.bitB v n), .bool (U8.bitB t n)] 36)).drew = w' := by
  have hwv : IntKind.i64.wrap (v.toNat : Int) = (v.toNat : Int) := IntWalk.i64_in _ (by have := v.isLt; omega)
  have hwt : IntKind.i64.wrap (t.toNat : Int) = (t.toNat : Int) := IntWalk.i64_in _ (by have := t.isLt; omega)
  go_enter Tryd.func20, Tryd.ntmps20
  go_wp2_with fail
  go_region_held3 (fun w' => w'.cell? ⟨w.heap.size, 0, none⟩ = some (.int .u8 (v.toNat : Int)) ∧ w'.cell? ⟨w.heap.size, 1, none⟩ = some (.int .u8 (t.toNat : Int)) ∧ w'.cell? ⟨w.heap.size + 1, 0, none⟩ = some (Mem.val w' ⟨w.heap.size + 1, 0, none⟩) ∧ w'.cell? ⟨w.heap.size + 1, 1, none⟩ = some (Mem.val w' ⟨w.heap.size + 1, 1, none⟩) ∧ w'.frozen? ⟨w.heap.size + 1, 0, none⟩ = false ∧ w'.frozen? ⟨w.heap.size + 1, 1, none⟩ = false ∧ Below w.heap.size w w') ((go_split_ands; (repeat' with_reducible apply And.intro) <;> first | with_reducible assumption | (simp [go_sem]; done) | (with_reducible refine Mem.vof ?_; simp [go_sem]; done) | (repeat (first | with_reducible assumption | with_reducible exact Below.refl _ _ | with_reducible refine Mem.vdrew ?_ | with_reducible refine Mem.valloc _ ?_ | with_reducible refine Mem.vbelow ‹_› ?_ | with_reducible refine Mem.vset ?_ | with_reducible refine Mem.cdrew ?_ | with_reducible refine Mem.calloc _ ?_ | with_reducible refine Mem.bdrew ?_ | with_reducible refine Mem.cbelow ‹_› ?_ | with_reducible refine Mem.zdrew ?_ | with_reducible refine Mem.zalloc _ ?_ ?_ | with_reducible refine Mem.zbelow ‹_› ?_ ?_ | with_reducible refine Mem.zset ?_ | (with_reducible refine Mem.cset ?_ ?_; rotate_left; focus (first | (simp; done) | (simp; omega))) | (with_reducible refine Mem.balloc ?_ ?_ _; rotate_left; focus (first | (simp; done) | (simp; omega))) | (with_reducible refine Mem.bset ?_ ?_ _; rotate_left; focus (first | (simp; done) | (simp; omega))) | (with_reducible refine Mem.bbelow ?_ ?_ ‹_›; rotate_left; focus (first | (simp; done) | (simp; omega)))))))
    (first | (go_at_call 30; refine (has_any _ _ hn _).mono ?_; rintro e w' ⟨rfl, rfl⟩))
  go_wp2
  refine bodyPost_ret (v := .agg #[.bool (U8.bitB v n), .bool (U8.bitB t n)]) (by simp [results, Tryd.results20, go_sem]) rfl ⟨rfl, ?_⟩
  rfl
theorem rbit_0 (v t : BitVec 8) (w : World) : Calls Tryd.prog 20 #[.agg #[.int .u8 (v.toNat : Int), .int .u8 (t.toNat : Int)], .int .i64 0] w fun e w' => e = .returned (.agg #[.bool (U8.bitB v 0), .bool (U8.bitB t 0)]) ∧ ((w.alloc (.cells #[.int .u8 (v.toNat : Int), .int .u8 (t.toNat : Int)] 23)).alloc (.cells #[.bool (U8.bitB v 0), .bool (U8.bitB t 0)] 36)).drew = w' := rbit_exact v t 0 (by decide) w
theorem rbit_1 (v t : BitVec 8) (w : World) : Calls Tryd.prog 20 #[.agg #[.int .u8 (v.toNat : Int), .int .u8 (t.toNat : Int)], .int .i64 1] w fun e w' => e = .returned (.agg #[.bool (U8.bitB v 1), .bool (U8.bitB t 1)]) ∧ ((w.alloc (.cells #[.int .u8 (v.toNat : Int), .int .u8 (t.toNat : Int)] 23)).alloc (.cells #[.bool (U8.bitB v 1), .bool (U8.bitB t 1)] 36)).drew = w' := rbit_exact v t 1 (by decide) w
theorem rbit_2 (v t : BitVec 8) (w : World) : Calls Tryd.prog 20 #[.agg #[.int .u8 (v.toNat : Int), .int .u8 (t.toNat : Int)], .int .i64 2] w fun e w' => e = .returned (.agg #[.bool (U8.bitB v 2), .bool (U8.bitB t 2)]) ∧ ((w.alloc (.cells #[.int .u8 (v.toNat : Int), .int .u8 (t.toNat : Int)] 23)).alloc (.cells #[.bool (U8.bitB v 2), .bool (U8.bitB t 2)] 36)).drew = w' := rbit_exact v t 2 (by decide) w
theorem rbit_3 (v t : BitVec 8) (w : World) : Calls Tryd.prog 20 #[.agg #[.int .u8 (v.toNat : Int), .int .u8 (t.toNat : Int)], .int .i64 3] w fun e w' => e = .returned (.agg #[.bool (U8.bitB v 3), .bool (U8.bitB t 3)]) ∧ ((w.alloc (.cells #[.int .u8 (v.toNat : Int), .int .u8 (t.toNat : Int)] 23)).alloc (.cells #[.bool (U8.bitB v 3), .bool (U8.bitB t 3)] 36)).drew = w' := rbit_exact v t 3 (by decide) w
theorem rbit_4 (v t : BitVec 8) (w : World) : Calls Tryd.prog 20 #[.agg #[.int .u8 (v.toNat : Int), .int .u8 (t.toNat : Int)], .int .i64 4] w fun e w' => e = .returned (.agg #[.bool (U8.bitB v 4), .bool (U8.bitB t 4)]) ∧ ((w.alloc (.cells #[.int .u8 (v.toNat : Int), .int .u8 (t.toNat : Int)] 23)).alloc (.cells #[.bool (U8.bitB v 4), .bool (U8.bitB t 4)] 36)).drew = w' := rbit_exact v t 4 (by decide) w
theorem rbit_5 (v t : BitVec 8) (w : World) : Calls Tryd.prog 20 #[.agg #[.int .u8 (v.toNat : Int), .int .u8 (t.toNat : Int)], .int .i64 5] w fun e w' => e = .returned (.agg #[.bool (U8.bitB v 5), .bool (U8.bitB t 5)]) ∧ ((w.alloc (.cells #[.int .u8 (v.toNat : Int), .int .u8 (t.toNat : Int)] 23)).alloc (.cells #[.bool (U8.bitB v 5), .bool (U8.bitB t 5)] 36)).drew = w' := rbit_exact v t 5 (by decide) w
theorem rbit_6 (v t : BitVec 8) (w : World) : Calls Tryd.prog 20 #[.agg #[.int .u8 (v.toNat : Int), .int .u8 (t.toNat : Int)], .int .i64 6] w fun e w' => e = .returned (.agg #[.bool (U8.bitB v 6), .bool (U8.bitB t 6)]) ∧ ((w.alloc (.cells #[.int .u8 (v.toNat : Int), .int .u8 (t.toNat : Int)] 23)).alloc (.cells #[.bool (U8.bitB v 6), .bool (U8.bitB t 6)] 36)).drew = w' := rbit_exact v t 6 (by decide) w
theorem rbit_7 (v t : BitVec 8) (w : World) : Calls Tryd.prog 20 #[.agg #[.int .u8 (v.toNat : Int), .int .u8 (t.toNat : Int)], .int .i64 7] w fun e w' => e = .returned (.agg #[.bool (U8.bitB v 7), .bool (U8.bitB t 7)]) ∧ ((w.alloc (.cells #[.int .u8 (v.toNat : Int), .int .u8 (t.toNat : Int)] 23)).alloc (.cells #[.bool (U8.bitB v 7), .bool (U8.bitB t 7)] 36)).drew = w' := rbit_exact v t 7 (by decide) w

set_option maxRecDepth 100000 in
set_option maxHeartbeats 16000000 in
theorem rbits_any (v t : BitVec 8) (w : World) : Calls Tryd.prog 31 #[.agg #[.int .u8 (v.toNat : Int), .int .u8 (t.toNat : Int)]] w fun e w' =>
    e = .returned (.agg #[.bool (U8.bitB v 0), .bool (U8.bitB t 0), .bool (U8.bitB v 1), .bool (U8.bitB t 1), .bool (U8.bitB v 2), .bool (U8.bitB t 2), .bool (U8.bitB v 3), .bool (U8.bitB t 3), .bool (U8.bitB v 4), .bool (U8.bitB t 4), .bool (U8.bitB v 5), .bool (U8.bitB t 5), .bool (U8.bitB v 6), .bool (U8.bitB t 6), .bool (U8.bitB v 7), .bool (U8.bitB t 7)]) ∧ Below w.heap.size w w' := by
  go_enter Tryd.func31, Tryd.ntmps31
  go_wp2_with fail
  refine wp_loop_rounds 9 ?_
  rw [rounds_succ]
  go_wp2_with (go_at_call 20; refine (rbit_0 _ _ _).mono ?_; rintro e w' ⟨rfl, rfl⟩)
  rw [rounds_succ]
  go_wp2_with (go_at_call 20; refine (rbit_1 _ _ _).mono ?_; rintro e w' ⟨rfl, rfl⟩)
  rw [rounds_succ]
  go_wp2_with (go_at_call 20; refine (rbit_2 _ _ _).mono ?_; rintro e w' ⟨rfl, rfl⟩)
  rw [rounds_succ]
  go_wp2_with (go_at_call 20; refine (rbit_3 _ _ _).mono ?_; rintro e w' ⟨rfl, rfl⟩)
  rw [rounds_succ]
  go_wp2_with (go_at_call 20; refine (rbit_4 _ _ _).mono ?_; rintro e w' ⟨rfl, rfl⟩)
  rw [rounds_succ]
  go_wp2_with (go_at_call 20; refine (rbit_5 _ _ _).mono ?_; rintro e w' ⟨rfl, rfl⟩)
  rw [rounds_succ]
  go_wp2_with (go_at_call 20; refine (rbit_6 _ _ _).mono ?_; rintro e w' ⟨rfl, rfl⟩)
  rw [rounds_succ]
  go_wp2_with (go_at_call 20; refine (rbit_7 _ _ _).mono ?_; rintro e w' ⟨rfl, rfl⟩)
  rw [rounds_succ]
  go_wp2
  refine bodyPost_ret (v := .agg #[.bool (U8.bitB v 0), .bool (U8.bitB t 0), .bool (U8.bitB v 1), .bool (U8.bitB t 1), .bool (U8.bitB v 2), .bool (U8.bitB t 2), .bool (U8.bitB v 3), .bool (U8.bitB t 3), .bool (U8.bitB v 4), .bool (U8.bitB t 4), .bool (U8.bitB v 5), .bool (U8.bitB t 5), .bool (U8.bitB v 6), .bool (U8.bitB t 6), .bool (U8.bitB v 7), .bool (U8.bitB t 7)]) (by simp [results, Tryd.results31, go_sem]) rfl ⟨rfl, ?_⟩
  (repeat (first | with_reducible assumption | with_reducible exact Below.refl _ _ | with_reducible refine Mem.vdrew ?_ | with_reducible refine Mem.valloc _ ?_ | with_reducible refine Mem.vbelow ‹_› ?_ | with_reducible refine Mem.vset ?_ | with_reducible refine Mem.cdrew ?_ | with_reducible refine Mem.calloc _ ?_ | with_reducible refine Mem.bdrew ?_ | with_reducible refine Mem.cbelow ‹_› ?_ | with_reducible refine Mem.zdrew ?_ | with_reducible refine Mem.zalloc _ ?_ ?_ | with_reducible refine Mem.zbelow ‹_› ?_ ?_ | with_reducible refine Mem.zset ?_ | (with_reducible refine Mem.cset ?_ ?_; rotate_left; focus (first | (simp; done) | (simp; omega))) | (with_reducible refine Mem.balloc ?_ ?_ _; rotate_left; focus (first | (simp; done) | (simp; omega))) | (with_reducible refine Mem.bset ?_ ?_ _; rotate_left; focus (first | (simp; done) | (simp; omega))) | (with_reducible refine Mem.bbelow ?_ ?_ ‹_›; rotate_left; focus (first | (simp; done) | (simp; omega)))))
end Go.Proofs.YtodfgcbgiaboiaaDoor
