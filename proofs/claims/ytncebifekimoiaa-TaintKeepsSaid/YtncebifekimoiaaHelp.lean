/-
  Walks: the helpers of cochineallaw01 (other, fewer, within), and taint.Bit at a number that is a remainder.
-/
-- KEEP2
import Derived.Test.YtncebifekimoiaaTaint
import Derived.Test.YtncebifekimoiaaMem4
import Derived.Test.YtncebifekimoiaaNum6
namespace Go.Proofs.Ytncebifekimoiaa
open Go Go.RowKit

theorem oth_raw (v t x : BitVec 8) : bits .xor .u8 (v.toNat : Int) (bits .and .u8 (x.toNat : Int) (t.toNat : Int)) = ((U8.othV v t x).toNat : Int) := by
  rw [U8.and_, U8.xor_]; rfl

set_option maxHeartbeats 1000000 in
theorem other_any (v t x : BitVec 8) (w : World) : Calls Try.prog 32 #[.agg #[.int .u8 (v.toNat : Int), .int .u8 (t.toNat : Int)], .int .u8 (x.toNat : Int)] w fun e w' =>
    e = .returned (.agg #[.int .u8 ((U8.othV v t x).toNat : Int), .int .u8 (t.toNat : Int)]) ∧ Below w.heap.size w w' := by
  have e1 := oth_raw v t x
  go_enter Try.func32, Try.ntmps32
  go_wp2
  refine bodyPost_ret (v := .agg #[.int .u8 ((U8.othV v t x).toNat : Int), .int .u8 (t.toNat : Int)]) (by simp [results, Try.results32, go_sem]) rfl ⟨rfl, ?_⟩
  exact Mem.balloc (Mem.balloc (Below.refl _ _) (Nat.le_refl _) _) (Nat.le_refl _) _

def fewT (t x : BitVec 8) : BitVec 8 := t &&& x
theorem few_raw (t x : BitVec 8) : bits .and .u8 (t.toNat : Int) (x.toNat : Int) = ((fewT t x).toNat : Int) := U8.and_ t x

set_option maxHeartbeats 1000000 in
theorem fewer_any (v t x : BitVec 8) (w : World) : Calls Try.prog 33 #[.agg #[.int .u8 (v.toNat : Int), .int .u8 (t.toNat : Int)], .int .u8 (x.toNat : Int)] w fun e w' =>
    e = .returned (.agg #[.int .u8 (v.toNat : Int), .int .u8 ((fewT t x).toNat : Int)]) ∧ Below w.heap.size w w' := by
  have e1 := few_raw t x
  go_enter Try.func33, Try.ntmps33
  go_wp2
  refine bodyPost_ret (v := .agg #[.int .u8 (v.toNat : Int), .int .u8 ((fewT t x).toNat : Int)]) (by simp [results, Try.results33, go_sem]) rfl ⟨rfl, ?_⟩
  exact Mem.balloc (Mem.balloc (Below.refl _ _) (Nat.le_refl _) _) (Nat.le_refl _) _

theorem within_no {v t u s : BitVec 8} (h : ¬ (v.toNat : Int) = (u.toNat : Int)) : U8.withinB v t u s = false := by
  unfold U8.withinB
  rw [Bool.and_eq_false_iff]; left
  rw [beq_eq_false_iff_ne]; intro e; exact h (by rw [e])
theorem within_yes {v t u s : BitVec 8} (h : (v.toNat : Int) = (u.toNat : Int)) : (bits .andNot .u8 (t.toNat : Int) (s.toNat : Int) == 0) = U8.withinB v t u s := by
  obtain rfl := U8.ieq_.1 h
  rw [U8.lit0, U8.andNot_, U8.eq_]
  unfold U8.withinB
  rw [beq_self_eq_true, Bool.true_and]

set_option maxHeartbeats 1000000 in
theorem within_any (v t u s : BitVec 8) (w : World) : Calls Try.prog 34 #[.agg #[.int .u8 (v.toNat : Int), .int .u8 (t.toNat : Int)], .agg #[.int .u8 (u.toNat : Int), .int .u8 (s.toNat : Int)]] w fun e w' =>
    e = .returned (.bool (U8.withinB v t u s)) ∧ Below w.heap.size w w' := by
  by_cases h : (v.toNat : Int) = (u.toNat : Int)
  · rw [← within_yes h, U8.ieq_.1 h]
    clear h
    go_enter Try.func34, Try.ntmps34
    go_wp2
    go_ret
    exact ⟨rfl, Mem.balloc (Mem.balloc (Below.refl _ _) (Nat.le_refl _) _) (Nat.le_refl _) _⟩
  · rw [within_no h]
    have hb : ((v.toNat : Int) == (u.toNat : Int)) = false := by simpa using h
    go_enter Try.func34, Try.ntmps34
    go_wp2
    go_ret
    exact ⟨rfl, Mem.balloc (Mem.balloc (Below.refl _ _) (Nat.le_refl _) _) (Nat.le_refl _) _⟩
end Go.Proofs.Ytncebifekimoiaa
