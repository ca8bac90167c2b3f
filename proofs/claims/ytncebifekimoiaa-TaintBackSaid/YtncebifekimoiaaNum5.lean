/-
  Plain laws on bits, more: moved up and down again; a byte put together bit by bit; And, Or, Xor of 0 and of 255. No Go text, no program in sight.
-/
import Derived.Test.YtncebifekimoiaaNum2
namespace Go.Proofs.Ytncebifekimoiaa
open Go
namespace U8

theorem right_left : ∀ v : BitVec 8, ∀ b : Bool, rightB (leftB v b) (bitB v 7) = v := by decide +kernel
theorem bit_left : ∀ v : BitVec 8, ∀ b : Bool, bitB (leftB v b) 0 = b := by decide +kernel
/-- A byte's lowest n bits, as a byte. -/
def upTo (x : BitVec 8) (n : Nat) : BitVec 8 := BitVec.ofNat 8 (x.toNat % 2 ^ n)
theorem upTo_zero (x : BitVec 8) : upTo x 0 = 0#8 := by unfold upTo; simp [Nat.mod_one]
theorem upTo_succ : ∀ x : BitVec 8, ∀ n : Nat, n < 8 → putB (upTo x n) n (bitB x n) = upTo x (n + 1) := by decide +kernel
theorem upTo_eight : ∀ x : BitVec 8, upTo x 8 = x := by decide +kernel
theorem xorV0 : ∀ v : BitVec 8, xorV v 0#8 = v := by decide +kernel
theorem xorT0 : ∀ t : BitVec 8, xorT t 0#8 = t := by decide +kernel
theorem orV0 : ∀ v : BitVec 8, orV v 0#8 = v := by decide +kernel
theorem orT0 (v t : BitVec 8) : orT v t 0#8 0#8 = t := by
  unfold orT
  ext i hi; simp only [BitVec.getElem_and, BitVec.getElem_or, BitVec.getElem_not, BitVec.getElem_zero]
  cases v[i] <;> cases t[i] <;> rfl
theorem andV0 : ∀ v : BitVec 8, andV v 0#8 = 0#8 := by decide +kernel
theorem andT0 (v t : BitVec 8) : andT v t 0#8 0#8 = 0#8 := by
  unfold andT
  ext i hi; simp only [BitVec.getElem_and, BitVec.getElem_or, BitVec.getElem_zero]
  cases v[i] <;> cases t[i] <;> rfl
theorem andV255 : ∀ v : BitVec 8, andV v 255#8 = v := by decide +kernel
theorem andT255 (v t : BitVec 8) : andT v t 255#8 0#8 = t := by
  have e : (255#8 : BitVec 8) = ~~~0#8 := rfl
  unfold andT
  rw [e]
  ext i hi; simp only [BitVec.getElem_and, BitVec.getElem_or, BitVec.getElem_not, BitVec.getElem_zero]
  cases v[i] <;> cases t[i] <;> rfl
end U8
end Go.Proofs.Ytncebifekimoiaa
