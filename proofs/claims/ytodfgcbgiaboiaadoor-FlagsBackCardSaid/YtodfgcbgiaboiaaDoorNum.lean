/-
  Plain laws on numbers and bits: powers of 2, whether a number has a bit. No Go text, no program in sight.
-/
import Derived.Test.YtodfgcbgiaboiaaDoorU8
namespace Go.Proofs.YtodfgcbgiaboiaaDoor
open Go
namespace U8

/-- 2 multiplied so many times; a plain name, so that no walk looks behind it. -/
def pw (n : Nat) : Int := 2 ^ n
theorem pw_zero : pw 0 = 1 := rfl
theorem pw_succ (n : Nat) : pw (n + 1) = 2 * pw n := by unfold pw; rw [Int.pow_succ]; omega
theorem pw_bd : ∀ n : Nat, n ≤ 8 → 1 ≤ pw n ∧ pw n ≤ 256 := by decide
theorem pw_lt : ∀ n : Nat, n ≤ 7 → pw n ≤ 128 := by decide
theorem pw_nat (n : Nat) : pw n = ((2 ^ n : Nat) : Int) := by unfold pw; simp
/-- Whether a number has a bit. -/
theorem has_raw (x : BitVec 8) (n : Nat) : ((x.toNat : Int) / pw n % 2 == 1) = bitB x n := by
  unfold bitB
  rw [pw_nat, BitVec.getLsbD, Nat.testBit_eq_decide_div_mod_eq]
  rw [Bool.eq_iff_iff, beq_iff_eq, decide_eq_true_eq]
  omega

theorem at_raw : ∀ n : Nat, n < 8 → ((2 : Int) ^ n % 256) = ((oneAt true n).toNat : Int) := by decide +kernel
theorem at_no (n : Nat) : (0 : Int) = ((oneAt false n).toNat : Int) := rfl
theorem bit_raw : ∀ x : BitVec 8, ∀ n : Nat, n < 8 → (bits .and .u8 ((x.toNat : Int) / 2 ^ n) 1 == 1) = bitB x n := by decide +kernel
theorem one_raw : ∀ n : Nat, n < 8 → IntKind.u8.wrap ((2 : Int) ^ n) = ((1#8 <<< n).toNat : Int) := by decide +kernel
theorem shl1 : ∀ x : BitVec 8, IntKind.u8.wrap ((x.toNat : Int) * (2 : Int)) = ((x <<< 1).toNat : Int) := by decide +kernel
theorem shr1 : ∀ x : BitVec 8, (x.toNat : Int) / (2 : Int) = ((x >>> 1).toNat : Int) := by decide +kernel
def ctz (t : BitVec 8) : Nat := Lib.trailingZeros8 t.toNat
theorem ctz_lt : ∀ t : BitVec 8, t ≠ 0#8 → ctz t < 8 := by decide +kernel
theorem spread_raw : ∀ t : BitVec 8, t ≠ 0#8 → ((255 : Int) * 2 ^ ctz t % 256) = ((spreadB t).toNat : Int) := by decide +kernel
theorem ntz_raw : ∀ t : BitVec 8, Lib.ntz8 (t.toNat : Int) = ((ctz t : Nat) : Int) := by decide +kernel
theorem ntz_bd : ∀ t : BitVec 8, 0 ≤ Lib.ntz8 (t.toNat : Int) ∧ Lib.ntz8 (t.toNat : Int) ≤ 8 := by decide +kernel
theorem put_raw (x : BitVec 8) (n : Nat) (b : Bool) (hn : n < 8) : bits .or .u8 (bits .andNot .u8 (x.toNat : Int) (IntKind.u8.wrap ((2 : Int) ^ n))) ((oneAt b n).toNat : Int) = ((putB x n b).toNat : Int) := by
  rw [one_raw n hn, andNot_, or_]; rfl
theorem left_raw (x : BitVec 8) (b : Bool) : bits .or .u8 (IntKind.u8.wrap ((x.toNat : Int) * 2)) ((oneAt b 0).toNat : Int) = ((leftB x b).toNat : Int) := by
  rw [shl1, or_]; rfl
theorem right_raw (x : BitVec 8) (b : Bool) : bits .or .u8 ((x.toNat : Int) / 2) ((oneAt b 7).toNat : Int) = ((rightB x b).toNat : Int) := by
  rw [shr1, or_]; rfl
/-- Whether a bit may be 0, and whether it may be 1. -/
def mayN (v t : BitVec 8) (n : Nat) : Bool := !bitB v n || bitB t n
def mayY (v t : BitVec 8) (n : Nat) : Bool := bitB v n || bitB t n
theorem same_may (v t u s : BitVec 8) (h : ∀ n, n < 8 → mayN v t n = mayN u s n ∧ mayY v t n = mayY u s n) : sameB v t u s = true := by
  have hb : ∀ n (hn : n < 8), t[n] = s[n] ∧ ((v[n] ^^ u[n]) && !t[n]) = false := by
    intro n hn
    obtain ⟨h1, h2⟩ := h n hn
    simp only [mayN, mayY, bitB] at h1 h2
    rw [BitVec.getLsbD_eq_getElem hn, BitVec.getLsbD_eq_getElem hn, BitVec.getLsbD_eq_getElem hn, BitVec.getLsbD_eq_getElem hn] at h1 h2
    revert h1 h2
    cases v[n] <;> cases t[n] <;> cases u[n] <;> cases s[n] <;> simp
  have e : t = s := by
    ext i hi; exact (hb i hi).1
  unfold sameB
  rw [Bool.and_eq_true]
  refine ⟨by rw [e, beq_self_eq_true], ?_⟩
  rw [beq_iff_eq]
  ext i hi; simp only [BitVec.getElem_and, BitVec.getElem_xor, BitVec.getElem_not, BitVec.getElem_zero]
  exact (hb i hi).2
theorem may_same (v t u s : BitVec 8) (n : Nat) (hn : n < 8) (h : mayN v t n ≠ mayN u s n ∨ mayY v t n ≠ mayY u s n) : sameB v t u s = false := by
  cases hs : sameB v t u s with
  | false => rfl
  | true =>
    exfalso
    unfold sameB at hs
    rw [Bool.and_eq_true, beq_iff_eq, beq_iff_eq] at hs
    obtain ⟨e, h2⟩ := hs
    subst e
    have h3 := congrArg (fun x : BitVec 8 => x[n]) h2
    simp only [BitVec.getElem_and, BitVec.getElem_xor, BitVec.getElem_not, BitVec.getElem_zero] at h3
    simp only [mayN, mayY, bitB] at h
    rw [BitVec.getLsbD_eq_getElem hn, BitVec.getLsbD_eq_getElem hn, BitVec.getLsbD_eq_getElem hn] at h
    revert h h3
    cases v[n] <;> cases t[n] <;> cases u[n] <;> simp
end U8
end Go.Proofs.YtodfgcbgiaboiaaDoor
