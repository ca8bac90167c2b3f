/-
  Plain laws on numbers and bits, more: a byte made of its bits. No Go text, no program in sight.
-/
import Derived.Test.YtodfgcbgiaboiaaDoorNum2
namespace Go.Proofs.YtodfgcbgiaboiaaDoor
open Go
namespace U8

/-- The byte of eight bits, the lowest one first. -/
def mk (b0 b1 b2 b3 b4 b5 b6 b7 : Bool) : BitVec 8 := oneAt b0 0 ||| oneAt b1 1 ||| oneAt b2 2 ||| oneAt b3 3 ||| oneAt b4 4 ||| oneAt b5 5 ||| oneAt b6 6 ||| oneAt b7 7
theorem mk_0 : ∀ b0 b1 b2 b3 b4 b5 b6 b7 : Bool, bitB (mk b0 b1 b2 b3 b4 b5 b6 b7) 0 = b0 := by decide +kernel
theorem mk_1 : ∀ b0 b1 b2 b3 b4 b5 b6 b7 : Bool, bitB (mk b0 b1 b2 b3 b4 b5 b6 b7) 1 = b1 := by decide +kernel
theorem mk_2 : ∀ b0 b1 b2 b3 b4 b5 b6 b7 : Bool, bitB (mk b0 b1 b2 b3 b4 b5 b6 b7) 2 = b2 := by decide +kernel
theorem mk_3 : ∀ b0 b1 b2 b3 b4 b5 b6 b7 : Bool, bitB (mk b0 b1 b2 b3 b4 b5 b6 b7) 3 = b3 := by decide +kernel
theorem mk_4 : ∀ b0 b1 b2 b3 b4 b5 b6 b7 : Bool, bitB (mk b0 b1 b2 b3 b4 b5 b6 b7) 4 = b4 := by decide +kernel
theorem mk_5 : ∀ b0 b1 b2 b3 b4 b5 b6 b7 : Bool, bitB (mk b0 b1 b2 b3 b4 b5 b6 b7) 5 = b5 := by decide +kernel
theorem mk_6 : ∀ b0 b1 b2 b3 b4 b5 b6 b7 : Bool, bitB (mk b0 b1 b2 b3 b4 b5 b6 b7) 6 = b6 := by decide +kernel
theorem mk_7 : ∀ b0 b1 b2 b3 b4 b5 b6 b7 : Bool, bitB (mk b0 b1 b2 b3 b4 b5 b6 b7) 7 = b7 := by decide +kernel
theorem mk_bits : ∀ v : BitVec 8, mk (bitB v 0) (bitB v 1) (bitB v 2) (bitB v 3) (bitB v 4) (bitB v 5) (bitB v 6) (bitB v 7) = v := by decide +kernel
theorem mk_left : ∀ v : BitVec 8, ∀ b : Bool, mk b (bitB v 0) (bitB v 1) (bitB v 2) (bitB v 3) (bitB v 4) (bitB v 5) (bitB v 6) = leftB v b := by decide +kernel
theorem mk_right : ∀ v : BitVec 8, ∀ b : Bool, mk (bitB v 1) (bitB v 2) (bitB v 3) (bitB v 4) (bitB v 5) (bitB v 6) (bitB v 7) b = rightB v b := by decide +kernel
theorem mk_put0 : ∀ v : BitVec 8, ∀ b : Bool, mk b (bitB v 1) (bitB v 2) (bitB v 3) (bitB v 4) (bitB v 5) (bitB v 6) (bitB v 7) = putB v 0 b := by decide +kernel
theorem mk_put1 : ∀ v : BitVec 8, ∀ b : Bool, mk (bitB v 0) b (bitB v 2) (bitB v 3) (bitB v 4) (bitB v 5) (bitB v 6) (bitB v 7) = putB v 1 b := by decide +kernel
theorem mk_put2 : ∀ v : BitVec 8, ∀ b : Bool, mk (bitB v 0) (bitB v 1) b (bitB v 3) (bitB v 4) (bitB v 5) (bitB v 6) (bitB v 7) = putB v 2 b := by decide +kernel
theorem mk_put3 : ∀ v : BitVec 8, ∀ b : Bool, mk (bitB v 0) (bitB v 1) (bitB v 2) b (bitB v 4) (bitB v 5) (bitB v 6) (bitB v 7) = putB v 3 b := by decide +kernel
theorem mk_put4 : ∀ v : BitVec 8, ∀ b : Bool, mk (bitB v 0) (bitB v 1) (bitB v 2) (bitB v 3) b (bitB v 5) (bitB v 6) (bitB v 7) = putB v 4 b := by decide +kernel
theorem mk_put5 : ∀ v : BitVec 8, ∀ b : Bool, mk (bitB v 0) (bitB v 1) (bitB v 2) (bitB v 3) (bitB v 4) b (bitB v 6) (bitB v 7) = putB v 5 b := by decide +kernel
theorem mk_put6 : ∀ v : BitVec 8, ∀ b : Bool, mk (bitB v 0) (bitB v 1) (bitB v 2) (bitB v 3) (bitB v 4) (bitB v 5) b (bitB v 7) = putB v 6 b := by decide +kernel
theorem mk_put7 : ∀ v : BitVec 8, ∀ b : Bool, mk (bitB v 0) (bitB v 1) (bitB v 2) (bitB v 3) (bitB v 4) (bitB v 5) (bitB v 6) b = putB v 7 b := by decide +kernel
end U8
end Go.Proofs.YtodfgcbgiaboiaaDoor
