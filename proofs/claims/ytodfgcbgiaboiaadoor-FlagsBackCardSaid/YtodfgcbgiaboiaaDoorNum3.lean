/-
  Plain laws on numbers and bits, more: running tests over a byte's lowest bits. No Go text, no program in sight.
-/
import Derived.Test.YtodfgcbgiaboiaaDoorNum2
namespace Go.Proofs.YtodfgcbgiaboiaaDoor
open Go
namespace U8

/-- Whether one of the lowest n bits is 1. -/
def onB (t : BitVec 8) (n : Nat) : Bool := decide (t.toNat % 2 ^ n ≠ 0)
theorem on_succ : ∀ t : BitVec 8, ∀ n : Nat, n < 8 → onB t (n + 1) = (onB t n || bitB t n) := by decide +kernel
theorem spread_succ : ∀ t : BitVec 8, ∀ n : Nat, n < 8 → low (spreadB t) (n + 1) = (if (onB t n || bitB t n) = true then low (spreadB t) n + pw n else low (spreadB t) n) := by decide +kernel
/-- Whether the lowest n bits may all be 0, whether one of them may be 1, and whether all are 0. -/
def noTo (v t : BitVec 8) : Nat → Bool
  | 0 => true
  | n + 1 => noTo v t n && mayN v t n
def yesTo (v t : BitVec 8) : Nat → Bool
  | 0 => false
  | n + 1 => yesTo v t n || mayY v t n
def allTo (v : BitVec 8) : Nat → Bool
  | 0 => true
  | n + 1 => allTo v n && !bitB v n
theorem noTo_succ (v t : BitVec 8) (n : Nat) : noTo v t (n + 1) = (noTo v t n && mayN v t n) := rfl
theorem yesTo_succ (v t : BitVec 8) (n : Nat) : yesTo v t (n + 1) = (yesTo v t n || mayY v t n) := rfl
theorem allTo_succ (v : BitVec 8) (n : Nat) : allTo v (n + 1) = (allTo v n && !bitB v n) := rfl
theorem allTo_eight : ∀ v : BitVec 8, allTo v 8 = zeroV v := by decide +kernel
theorem zeroT_to : ∀ v t : BitVec 8, zeroT v t = (noTo v t 8 && yesTo v t 8) := by decide +kernel
end U8
end Go.Proofs.YtodfgcbgiaboiaaDoor
