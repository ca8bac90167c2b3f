/-
  Plain laws on sums: what is added, and taken away again. No Go text, no program in sight.
-/
import Derived.Test.YtdpoebmahoipbaaSLaw
namespace Go.Proofs.Ytdpoebmahoipbaa
open Go
namespace U8

theorem back_add (v u : BitVec 8) (b : Bool) : ∃ (A : BitVec 8) (n y z c : Bool), addS v 0#8 u 0#8 b false false false = ⟨A, 0#8, n, false, y, false, z, false, c, false⟩ ∧ addS u 0#8 v 0#8 b false false false = ⟨A, 0#8, n, false, y, false, z, false, c, false⟩ ∧
    ((A.toNat : Int) == 0) = z ∧ decide (128 ≤ (A.toNat : Int)) = n ∧ sumA v u b = A ∧
    ((c = true ∧ ((A.toNat : Int) + 256 == (v.toNat : Int) + (u.toNat : Int) + oneI b) = true) ∨ (c = false ∧ ((A.toNat : Int) == (v.toNat : Int) + (u.toNat : Int) + oneI b) = true)) := by
  refine ⟨sumA v u b, bitB (sumA v u b) 7, beyB v u (sumA v u b), zeroV (sumA v u b), carB v u b, add_0 v u b, ?_, ?_, ?_, rfl, ?_⟩
  · rw [add_comm0, add_0]
  · unfold zeroV; rw [lit0, eq_]
  · rw [bit7]; rw [decide_eq_decide]; omega
  · have h1 := sumA_nat v u b
    have h2 := sumN_bd v u b
    unfold carB
    rw [beq_iff_eq, beq_iff_eq]
    unfold sumN at h1 h2 ⊢
    by_cases h : 256 ≤ (v.toNat : Int) + (u.toNat : Int) + oneI b
    · left; exact ⟨decide_eq_true h, by omega⟩
    · right; exact ⟨decide_eq_false h, by omega⟩
theorem back_sub (v u : BitVec 8) (b : Bool) : ∃ n y z c : Bool, subS (sumA v u b) 0#8 u 0#8 (!b) false false false = ⟨v, 0#8, n, false, y, false, z, false, c, false⟩ := by
  rw [sub_0, add_0, back_A]
  exact ⟨_, _, _, _, rfl⟩
end U8
end Go.Proofs.Ytdpoebmahoipbaa
