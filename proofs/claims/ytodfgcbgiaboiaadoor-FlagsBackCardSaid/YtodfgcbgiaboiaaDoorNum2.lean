/-
  Plain laws on numbers and bits, more: a byte's low bits as a number, and the bits of what And, Or and Xor come to. No Go text, no program in sight.
-/
import Derived.Test.YtodfgcbgiaboiaaDoorNum
namespace Go.Proofs.YtodfgcbgiaboiaaDoor
open Go
namespace U8

/-- A byte's lowest n bits, as a number; a plain name, so that no walk looks behind it. -/
def low (x : BitVec 8) (n : Nat) : Int := ((x.toNat % 2 ^ n : Nat) : Int)
theorem low_zero (x : BitVec 8) : low x 0 = 0 := by unfold low; simp [Nat.mod_one]
theorem low_yes : ∀ x : BitVec 8, ∀ n : Nat, n < 8 → bitB x n = true → low x (n + 1) = low x n + pw n := by decide +kernel
theorem low_no : ∀ x : BitVec 8, ∀ n : Nat, n < 8 → bitB x n = false → low x (n + 1) = low x n := by decide +kernel
theorem low_eight (x : BitVec 8) : low x 8 = (x.toNat : Int) := by have := x.isLt; unfold low; omega
theorem low_bd (x : BitVec 8) (n : Nat) : 0 ≤ low x n ∧ low x n ≤ 255 := by
  have h := x.isLt
  have := Nat.mod_le x.toNat (2 ^ n)
  unfold low; omega
theorem bit_andV (v u : BitVec 8) (n : Nat) : bitB (andV v u) n = (bitB v n && bitB u n) := by unfold bitB andV; simp
theorem bit_orV (v u : BitVec 8) (n : Nat) : bitB (orV v u) n = (bitB v n || bitB u n) := by unfold bitB orV; simp
theorem bit_xorV (v u : BitVec 8) (n : Nat) : bitB (xorV v u) n = (bitB v n ^^ bitB u n) := by unfold bitB xorV; simp
theorem bit_andT (v t u s : BitVec 8) (n : Nat) : bitB (andT v t u s) n = ((bitB t n && (bitB s n || bitB u n)) || (bitB s n && (bitB t n || bitB v n))) := by unfold bitB andT; simp
theorem bit_orT (v t u s : BitVec 8) (n : Nat) (hn : n < 8) : bitB (orT v t u s) n = ((bitB t n && (bitB s n || !bitB u n)) || (bitB s n && (bitB t n || !bitB v n))) := by unfold bitB orT; simp [hn]
theorem bit_xorT (t s : BitVec 8) (n : Nat) : bitB (xorT t s) n = (bitB t n || bitB s n) := by unfold bitB xorT; simp
theorem wrap_low (x : BitVec 8) : IntKind.u8.wrap (low x 8) = (x.toNat : Int) := by rw [low_eight, wrap_]
end U8
end Go.Proofs.YtodfgcbgiaboiaaDoor
