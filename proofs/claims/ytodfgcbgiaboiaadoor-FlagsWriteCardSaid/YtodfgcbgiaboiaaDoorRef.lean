/-
  Walks: what the inner functions of package cochinealref01 return (power, Has, May, Bit).
-/
import Derived.Test.YtodfgcbgiaboiaaDoorProg
import Derived.Test.YtodfgcbgiaboiaaDoorMem
import Derived.Test.YtodfgcbgiaboiaaDoorNum
import Derived.WalkLawsBesides
import Derived.Deep.RegionHeld3
namespace Go.Proofs.YtodfgcbgiaboiaaDoor
open Go Go.RowKit

set_option maxHeartbeats 400000 in
theorem pow_any (n : Nat) (hn : n < 8) (w : World) : Calls Tryd.prog 40 #[.int .i64 (n : Int)] w fun e w' => e = .returned (.int .i64 (U8.pw n)) ∧ w = w' := by
  go_enter Tryd.func40, Tryd.ntmps40
  go_wp2_with fail
  go_loop [3, 4] (fun o k => ∃ j : Nat, j ≤ n ∧ k = .int .i64 j ∧ o = .int .i64 (U8.pw j)) (fun _ k => n - (intOf k).toNat)
  case atStart => exact ⟨0, Nat.zero_le _, rfl, rfl⟩
  case round =>
    obtain ⟨j, hj, rfl, rfl⟩ := hrel
    obtain ⟨hp, hq⟩ := U8.pw_bd j (by omega)
    by_cases hlt : j < n
    · go_wp2
      go_round
      case rel => exact ⟨j + 1, by omega, by go_num, by rw [U8.pw_succ]⟩
      case measure => simp [intOf]; omega
    · have e : j = n := by omega
      go_wp2
      go_ret
      exact ⟨rfl, rfl⟩

set_option maxHeartbeats 400000 in
theorem has_any (x : BitVec 8) (n : Nat) (hn : n < 8) (w : World) : Calls Tryd.prog 30 #[.int .i64 (x.toNat : Int), .int .i64 (n : Int)] w fun e w' => e = .returned (.bool (U8.bitB x n)) ∧ w = w' := by
  rw [← U8.has_raw]
  obtain ⟨hp, hq⟩ := U8.pw_bd n (by omega)
  have hx : (x.toNat : Int) < 256 := by have := x.isLt; omega
  have hx0 : (0 : Int) ≤ (x.toNat : Int) := by omega
  have hd0 : 0 ≤ (x.toNat : Int) / U8.pw n := Int.ediv_nonneg hx0 (by omega)
  have hd1 : (x.toNat : Int) / U8.pw n ≤ 255 := Int.le_trans (Int.ediv_le_self _ hx0) (by omega)
  go_enter Tryd.func30, Tryd.ntmps30
  go_wp2_with (go_at_call 40; refine (pow_any _ hn _).mono ?_; rintro e w' ⟨rfl, rfl⟩)
  go_ret
  exact ⟨rfl, rfl⟩

set_option maxHeartbeats 800000 in
theorem may_any (v t : BitVec 8) (n : Nat) (hn : n < 8) (w : World) : Calls Tryd.prog 41 #[.agg #[.int .u8 (v.toNat : Int), .int .u8 (t.toNat : Int)], .int .i64 (n : Int)] w fun e w' =>
    e = .returned (.agg #[.bool (U8.mayN v t n), .bool (U8.mayY v t n)]) ∧ Below w.heap.size w w' := by
  cases h1 : U8.bitB v n <;> cases h2 : U8.bitB t n
  all_goals
    go_enter Tryd.func41, Tryd.ntmps41
    go_wp2_with (go_at_call 30; refine (has_any _ _ hn _).mono ?_; rintro e w' ⟨rfl, rfl⟩)
  all_goals
    refine bodyPost_ret (v := .agg #[.bool (!U8.bitB v n || U8.bitB t n), .bool (U8.bitB v n || U8.bitB t n)]) (by simp [results, Tryd.results41, go_sem, h1, h2]) rfl ⟨by simp [U8.mayN, U8.mayY, h1, h2], ?_⟩
    exact Mem.balloc (Mem.balloc (Below.refl _ _) (Nat.le_refl _) _) (Nat.le_refl _) _

set_option maxHeartbeats 800000 in
theorem rbit_any (v t : BitVec 8) (n : Nat) (hn : n < 8) (w : World) : Calls Tryd.prog 20 #[.agg #[.int .u8 (v.toNat : Int), .int .u8 (t.toNat : Int)], .int .i64 (n : Int)] w fun e w' =>
    e = .returned (.agg #[.bool (U8.bitB v n), .bool (U8.bitB t n)]) ∧ Below w.heap.size w w' := by
  have hwv : IntKind.i64.wrap (v.toNat : Int) = (v.toNat : Int) := IntWalk.i64_in _ (by have := v.isLt; omega)
  have hwt : IntKind.i64.wrap (t.toNat : Int) = (t.toNat : Int) := IntWalk.i64_in _ (by have := t.isLt; omega)
  go_enter Tryd.func20, Tryd.ntmps20
  go_wp2_with fail
  go_region_held3 (fun w' => w'.cell? ⟨w.heap.size, 0, none⟩ = some (.int .u8 (v.toNat : Int)) ∧ w'.cell? ⟨w.heap.size, 1, none⟩ = some (.int .u8 (t.toNat : Int)) ∧ w'.cell? ⟨w.heap.size + 1, 0, none⟩ = some (Mem.val w' ⟨w.heap.size + 1, 0, none⟩) ∧ w'.cell? ⟨w.heap.size + 1, 1, none⟩ = some (Mem.val w' ⟨w.heap.size + 1, 1, none⟩) ∧ w'.frozen? ⟨w.heap.size + 1, 0, none⟩ = false ∧ w'.frozen? ⟨w.heap.size + 1, 1, none⟩ = false ∧ Below w.heap.size w w') ((go_split_ands; (repeat' with_reducible apply And.intro) <;> first | with_reducible assumption | (simp [go_sem]; done) | (with_reducible refine Mem.vof ?_; simp [go_sem]; done) | (repeat (first | with_reducible assumption | with_reducible exact Below.refl _ _ | with_reducible refine Mem.vdrew ?_ | with_reducible refine Mem.valloc _ ?_ | with_reducible refine Mem.vbelow ‹_› ?_ | with_reducible refine Mem.vset ?_ | with_reducible refine Mem.cdrew ?_ | with_reducible refine Mem.calloc _ ?_ | with_reducible refine Mem.bdrew ?_ | with_reducible refine Mem.cbelow ‹_› ?_ | with_reducible refine Mem.zdrew ?_ | with_reducible refine Mem.zalloc _ ?_ ?_ | with_reducible refine Mem.zbelow ‹_› ?_ ?_ | with_reducible refine Mem.zset ?_ | (with_reducible refine Mem.cset ?_ ?_; rotate_left; focus (first | (simp; done) | (simp; omega))) | (with_reducible refine Mem.balloc ?_ ?_ _; rotate_left; focus (first | (simp; done) | (simp; omega))) | (with_reducible refine Mem.bset ?_ ?_ _; rotate_left; focus (first | (simp; done) | (simp; omega))) | (with_reducible refine Mem.bbelow ?_ ?_ ‹_›; rotate_left; focus (first | (simp; done) | (simp; omega)))))))
    (first | (go_at_call 30; refine (has_any _ _ hn _).mono ?_; rintro e w' ⟨rfl, rfl⟩))
  go_wp2
  go_split_ands
  refine bodyPost_ret (v := .agg #[.bool (U8.bitB v n), .bool (U8.bitB t n)]) (by simp [results, Tryd.results20, go_sem]) rfl ⟨rfl, ?_⟩
  assumption

set_option maxHeartbeats 800000 in
theorem rbit_out (v t : BitVec 8) (i : Int) (hi : i < 0 ∨ 7 < i) (w : World) : Calls Tryd.prog 20 #[.agg #[.int .u8 (v.toNat : Int), .int .u8 (t.toNat : Int)], .int .i64 i] w fun e w' =>
    e = .returned (.agg #[.bool false, .bool false]) ∧ Below w.heap.size w w' := by
  by_cases h0 : i < 0
  · have h1 : decide (i < 0) = true := by simpa using h0
    go_enter Tryd.func20, Tryd.ntmps20
    go_wp2
    refine bodyPost_ret (v := .agg #[.bool false, .bool false]) (by simp [results, Tryd.results20, go_sem]) rfl ⟨rfl, ?_⟩
    exact Mem.balloc (Mem.balloc (Below.refl _ _) (Nat.le_refl _) _) (Nat.le_refl _) _
  · have h1 : decide (i < 0) = false := by simpa using h0
    have h2 : decide (7 < i) = true := by simp; omega
    go_enter Tryd.func20, Tryd.ntmps20
    go_wp2
    refine bodyPost_ret (v := .agg #[.bool false, .bool false]) (by simp [results, Tryd.results20, go_sem]) rfl ⟨rfl, ?_⟩
    exact Mem.balloc (Mem.balloc (Below.refl _ _) (Nat.le_refl _) _) (Nat.le_refl _) _

/-- Two pairs of bools, held against each other. -/
theorem eq_may (a b c d : Bool) (w : World) : (Op.equalIn 10000 68 (.agg #[.bool a, .bool b]) (.agg #[.bool c, .bool d])).run Tryd.prog w = .ok (a == c && b == d) w := by
  cases a <;> cases b <;> cases c <;> cases d <;> kernel_rfl
end Go.Proofs.YtodfgcbgiaboiaaDoor
