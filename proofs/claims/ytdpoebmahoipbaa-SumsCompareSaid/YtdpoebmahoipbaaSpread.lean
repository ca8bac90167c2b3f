/-
  Walks: what taint.Spread returns.
-/
import Derived.Test.YtdpoebmahoipbaaProg
import Derived.Test.YtdpoebmahoipbaaMem
import Derived.Test.YtdpoebmahoipbaaNum
import Derived.WalkLawsBesides
namespace Go.Proofs.Ytdpoebmahoipbaa
open Go Go.RowKit

set_option maxHeartbeats 400000 in
theorem tz_any (t : BitVec 8) (w : World) : Calls Try.prog 49 #[.int .u8 (t.toNat : Int)] w fun e w' =>
    e = .returned (.int .i64 ((U8.ctz t : Nat) : Int)) ∧ w = w' := by
  rw [← U8.ntz_raw]
  have h0 : 0 ≤ (t.toNat : Int) := by omega
  have h1 : (t.toNat : Int) ≤ 255 := by have := t.isLt; omega
  obtain ⟨h2, h3⟩ := U8.ntz_bd t
  go_enter Try.func49, Try.ntmps49
  go_wp2
  go_ret
  exact ⟨rfl, rfl⟩

set_option maxHeartbeats 400000 in
theorem spread_any (t : BitVec 8) (w : World) : Calls Try.prog 40 #[.int .u8 (t.toNat : Int)] w fun e w' =>
    e = .returned (.int .u8 ((U8.spreadB t).toNat : Int)) ∧ w = w' := by
  by_cases h : t = 0#8
  · subst h
    go_enter Try.func40, Try.ntmps40
    go_wp2
    go_ret
    exact ⟨rfl, rfl⟩
  · have hb : ((t.toNat : Int) == 0) = false := by
      rw [beq_eq_false_iff_ne]; intro e; exact h (U8.ieq_.1 e)
    rw [← U8.spread_raw t h]
    have hc := U8.ctz_lt t h
    go_enter Try.func40, Try.ntmps40
    go_wp2_with (go_at_call 49; refine (tz_any _ _).mono ?_; rintro e w' ⟨rfl, rfl⟩)
    go_ret
    exact ⟨rfl, rfl⟩
end Go.Proofs.Ytdpoebmahoipbaa
