/-
  Walks: what the inner functions of package cochinealref01 return (power, Has, May, Bit).
-/
import Derived.Test.YtdpoebmahoipbaaProg
import Derived.Test.YtdpoebmahoipbaaMem
import Derived.Test.YtdpoebmahoipbaaNum
import Derived.WalkLawsBesides
import Derived.Deep.RegionHeld3
namespace Go.Proofs.Ytdpoebmahoipbaa
open Go Go.RowKit

set_option maxHeartbeats 400000 in
theorem pow_any (n : Nat) (hn : n < 8) (w : World) : Calls Try.prog 51 #[.int .i64 (n : Int)] w fun e w' => e = .returned (.int .i64 (U8.pw n)) ∧ w = w' := by
  go_enter Try.func51, Try.ntmps51
  go_wp2_with fail
  go_loop [3, 4] (fun o k => ∃ j : Nat, j ≤ n ∧ k = .int .i64 j ∧ o = .int .i64 (U8.pw j)) (fun _ k => n - (intOf k).toNat)
  case atStart => exact ⟨0, Nat.zero_le _, rfl, rfl⟩
  case round =>
    obtain ⟨j, hj, rfl, rfl⟩ := hrel
    obtain ⟨hp, hq⟩ := U8.pw_bd j (by omega)
    by_cases hlt : j < n
    · go_wp2
      go_round
      case rel => exact ⟨j + 1, by omega, by go_num, by rw [U8.pw_succ]⟩
      case measure => simp [intOf]; omega
    · have e : j = n := by omega
      go_wp2
      go_ret
      exact ⟨rfl, rfl⟩

set_option maxHeartbeats 400000 in
theorem has_any (x : BitVec 8) (n : Nat) (hn : n < 8) (w : World) : Calls Try.prog 50 #[.int .i64 (x.toNat : Int), .int .i64 (n : Int)] w fun e w' => e = .returned (.bool (U8.bitB x n)) ∧ w = w' := by
  rw [← U8.has_raw]
  obtain ⟨hp, hq⟩ := U8.pw_bd n (by omega)
  have hx : (x.toNat : Int) < 256 := by have := x.isLt; omega
  have hx0 : (0 : Int) ≤ (x.toNat : Int) := by omega
  have hd0 : 0 ≤ (x.toNat : Int) / U8.pw n := Int.ediv_nonneg hx0 (by omega)
  have hd1 : (x.toNat : Int) / U8.pw n ≤ 255 := Int.le_trans (Int.ediv_le_self _ hx0) (by omega)
  go_enter Try.func50, Try.ntmps50
  go_wp2_with (go_at_call 51; refine (pow_any _ hn _).mono ?_; rintro e w' ⟨rfl, rfl⟩)
  go_ret
  exact ⟨rfl, rfl⟩

set_option maxHeartbeats 800000 in
theorem may_any (v t : BitVec 8) (n : Nat) (hn : n < 8) (w : World) : Calls Try.prog 52 #[.agg #[.int .u8 (v.toNat : Int), .int .u8 (t.toNat : Int)], .int .i64 (n : Int)] w fun e w' =>
    e = .returned (.agg #[.bool (U8.mayN v t n), .bool (U8.mayY v t n)]) ∧ Below w.heap.size w w' := by
  cases h1 : U8.bitB v n <;> cases h2 : U8.bitB t n
  all_goals
    go_enter Try.func52, Try.ntmps52
    go_wp2_with (go_at_call 50; refine (has_any _ _ hn _).mono ?_; rintro e w' ⟨rfl, rfl⟩)
  all_goals
    refine bodyPost_ret (v := .agg #[.bool (!U8.bitB v n || U8.bitB t n), .bool (U8.bitB v n || U8.bitB t n)]) (by simp [results, Try.results52, go_sem, h1, h2]) rfl ⟨by simp [U8.mayN, U8.mayY, h1, h2], ?_⟩
    exact Mem.balloc (Mem.balloc (Below.refl _ _) (Nat.le_refl _) _) (Nat.le_refl _) _


/-- Two pairs of bools, held against each other. -/
theorem eq_may (a b c d : Bool) (w : World) : (Op.equalIn 10000 76 (.agg #[.bool a, .bool b]) (.agg #[.bool c, .bool d])).run Try.prog w = .ok (a == c && b == d) w := by
  cases a <;> cases b <;> cases c <;> cases d <;> kernel_rfl
end Go.Proofs.Ytdpoebmahoipbaa
