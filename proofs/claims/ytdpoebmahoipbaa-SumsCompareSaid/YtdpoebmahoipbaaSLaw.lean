/-
  Plain laws on sums: what the statements say of sums without secrets. No Go text, no program in sight.
-/
import Derived.Test.YtdpoebmahoipbaaSAll
namespace Go.Proofs.Ytdpoebmahoipbaa
open Go
namespace U8

theorem sumA_comm (v u : BitVec 8) (b : Bool) : sumA u v b = sumA v u b := by unfold sumA; rw [Nat.add_comm u.toNat v.toNat]
theorem sumN_comm (v u : BitVec 8) (b : Bool) : sumN u v b = sumN v u b := by unfold sumN; omega
theorem secT_0 : secT 0#8 0#8 false = 0#8 := rfl
theorem spread_0 : spreadB 0#8 = 0#8 := rfl
theorem bey_comm (v u o : BitVec 8) : beyB u v o = beyB v u o := by unfold beyB; rw [BitVec.and_comm (u ^^^ o) (v ^^^ o)]
/-- A sum of bytes without secrets, binary. -/
theorem add_0 (v u : BitVec 8) (b : Bool) : addS v 0#8 u 0#8 b false false false = ⟨sumA v u b, 0#8, bitB (sumA v u b) 7, false, beyB v u (sumA v u b), false, zeroV (sumA v u b), false, carB v u b, false⟩ := by
  have h1 : zeroT (sumA v u b) 0#8 = false := by unfold zeroT; simp
  show (⟨sumA v u b, spreadB 0#8, bitB (sumA v u b) 7, bitB (spreadB 0#8) 7, beyB v u (sumA v u b), nzB 0#8, zeroV (sumA v u b), zeroT (sumA v u b) (spreadB 0#8), carB v u b, nzB 0#8⟩ : S10) = _
  rw [spread_0, h1]; rfl
theorem sub_0 (v u : BitVec 8) (b : Bool) : subS v 0#8 u 0#8 b false false false = addS v 0#8 (cpl u) 0#8 b false false false := rfl
theorem add_comm0 (v u : BitVec 8) (b : Bool) : addS u 0#8 v 0#8 b false false false = addS v 0#8 u 0#8 b false false false := by
  rw [add_0, add_0, sumA_comm, bey_comm]; unfold carB; rw [sumN_comm]
theorem bit7 : ∀ x : BitVec 8, bitB x 7 = decide (128 ≤ x.toNat) := by decide +kernel
theorem top_bit : ∀ y : BitVec 8, (y &&& 128#8 != 0#8) = bitB y 7 := by decide +kernel
theorem bey_bits (v u o : BitVec 8) : beyB v u o = ((bitB v 7 != bitB o 7) && (bitB u 7 != bitB o 7)) := by
  unfold beyB
  rw [top_bit]
  unfold bitB
  rw [BitVec.getLsbD_and, BitVec.getLsbD_xor, BitVec.getLsbD_xor]
/-- A byte as a number that may be below 0. -/
def sgn (v : BitVec 8) : Int := if 128 ≤ v.toNat then (v.toNat : Int) - 256 else (v.toNat : Int)
theorem sgn_of {m : Int} (h1 : -128 ≤ m) (h2 : m ≤ 127) : sgn (BitVec.ofInt 8 m) = m := by
  unfold sgn
  rw [BitVec.toNat_ofInt]
  split <;> omega
theorem sgn_cpl (u : BitVec 8) : sgn (cpl u) = -1 - sgn u := by
  have := cpl_nat u
  have := u.isLt
  unfold sgn
  split <;> split <;> omega
theorem sumA_nat (v u : BitVec 8) (b : Bool) : ((sumA v u b).toNat : Int) = sumN v u b % 256 := (sumN_mod v u b).symm
def sumS (v u : BitVec 8) (b : Bool) : Int := sgn v + sgn u + oneI b
theorem sgn_ways (v : BitVec 8) : (sgn v = (v.toNat : Int) ∧ v.toNat < 128) ∨ (sgn v = (v.toNat : Int) - 256 ∧ 128 ≤ v.toNat) := by
  unfold sgn
  split <;> omega
theorem bey_sum (v u : BitVec 8) (b : Bool) : beyB v u (sumA v u b) = (decide (sumS v u b < -128) || decide (127 < sumS v u b)) := by
  have h1 := sumA_nat v u b
  have h2 := oneI_bd b
  have h3 := v.isLt
  have h4 := u.isLt
  have h5 := sgn_ways v
  have h6 := sgn_ways u
  rw [bey_bits, bit7, bit7, bit7]
  unfold sumN at h1
  have h7 : sumS v u b = sgn v + sgn u + oneI b := rfl
  generalize sumS v u b = X at *
  by_cases A : 128 ≤ (sumA v u b).toNat <;> by_cases B : X < -128 <;> by_cases C : 127 < X <;> by_cases D : 128 ≤ v.toNat <;> by_cases E : 128 ≤ u.toNat <;> first | (exfalso; omega) | simp only [A, B, C, D, E, decide_true, decide_false] <;> rfl
theorem neg_sum (v u : BitVec 8) (b : Bool) : (bitB (sumA v u b) 7 != beyB v u (sumA v u b)) = decide (sumS v u b < 0) := by
  have h1 := sumA_nat v u b
  have h2 := oneI_bd b
  have h3 := v.isLt
  have h4 := u.isLt
  have h5 := sgn_ways v
  have h6 := sgn_ways u
  rw [bey_sum, bit7]
  unfold sumN at h1
  have h7 : sumS v u b = sgn v + sgn u + oneI b := rfl
  generalize sumS v u b = X at *
  by_cases A : 128 ≤ (sumA v u b).toNat <;> by_cases B : X < -128 <;> by_cases C : 127 < X <;> by_cases D : X < 0 <;> first | (exfalso; omega) | simp only [A, B, C, D, decide_true, decide_false] <;> rfl
theorem add0_v (v u : BitVec 8) (b : Bool) : (addS v 0#8 u 0#8 b false false false).v = (decide (sumS v u b < -128) || decide (127 < sumS v u b)) := bey_sum v u b
theorem add0_n (v u : BitVec 8) (b : Bool) : (addS v 0#8 u 0#8 b false false false).n = (decide (sumS v u b < 0) != (decide (sumS v u b < -128) || decide (127 < sumS v u b))) := by
  rw [← neg_sum, ← bey_sum]
  show bitB (sumA v u b) 7 = _
  cases bitB (sumA v u b) 7 <;> cases beyB v u (sumA v u b) <;> rfl
theorem sum_of {m n : Int} (b : Bool) (h1 : -128 ≤ m) (h2 : m ≤ 127) (h3 : -128 ≤ n) (h4 : n ≤ 127) : sumS (BitVec.ofInt 8 m) (BitVec.ofInt 8 n) b = m + n + oneI b := by
  unfold sumS; rw [sgn_of h1 h2, sgn_of h3 h4]
theorem dif_of {m n : Int} (b : Bool) (h1 : -128 ≤ m) (h2 : m ≤ 127) (h3 : -128 ≤ n) (h4 : n ≤ 127) : sumS (BitVec.ofInt 8 m) (cpl (BitVec.ofInt 8 n)) b = m - n - 1 + oneI b := by
  unfold sumS; rw [sgn_of h1 h2, sgn_cpl, sgn_of h3 h4]; omega
theorem sign_v {m n : Int} (b : Bool) (h1 : -128 ≤ m) (h2 : m ≤ 127) (h3 : -128 ≤ n) (h4 : n ≤ 127) : (addS (BitVec.ofInt 8 m) 0#8 (BitVec.ofInt 8 n) 0#8 b false false false).v = (decide (m + n + oneI b < -128) || decide (127 < m + n + oneI b)) := by rw [add0_v, sum_of b h1 h2 h3 h4]
theorem sign_n {m n : Int} (b : Bool) (h1 : -128 ≤ m) (h2 : m ≤ 127) (h3 : -128 ≤ n) (h4 : n ≤ 127) : (addS (BitVec.ofInt 8 m) 0#8 (BitVec.ofInt 8 n) 0#8 b false false false).n = (decide (m + n + oneI b < 0) != (decide (m + n + oneI b < -128) || decide (127 < m + n + oneI b))) := by rw [add0_n, sum_of b h1 h2 h3 h4]
theorem sign_dv {m n : Int} (b : Bool) (h1 : -128 ≤ m) (h2 : m ≤ 127) (h3 : -128 ≤ n) (h4 : n ≤ 127) : (subS (BitVec.ofInt 8 m) 0#8 (BitVec.ofInt 8 n) 0#8 b false false false).v = (decide (m - n - 1 + oneI b < -128) || decide (127 < m - n - 1 + oneI b)) := by rw [sub_0, add0_v, dif_of b h1 h2 h3 h4]
theorem sign_dn {m n : Int} (b : Bool) (h1 : -128 ≤ m) (h2 : m ≤ 127) (h3 : -128 ≤ n) (h4 : n ≤ 127) : (subS (BitVec.ofInt 8 m) 0#8 (BitVec.ofInt 8 n) 0#8 b false false false).n = (decide (m - n - 1 + oneI b < 0) != (decide (m - n - 1 + oneI b < -128) || decide (127 < m - n - 1 + oneI b))) := by rw [sub_0, add0_n, dif_of b h1 h2 h3 h4]
/-- Two decimal digits. -/
def bcd (m : Nat) : BitVec 8 := BitVec.ofNat 8 (m / 10 * 16 + m % 10)
theorem bcd_add : ∀ m : Nat, m < 100 → ∀ n : Nat, n < 100 → ∀ b : Bool, decA (bcd m) (bcd n) b = bcd ((m + n + b.toNat) % 100) := by decide +kernel
theorem bcd_addC : ∀ m : Nat, m < 100 → ∀ n : Nat, n < 100 → ∀ b : Bool, decC (bcd m) (bcd n) b = decide (100 ≤ m + n + b.toNat) := by decide +kernel
theorem bcd_sub : ∀ m : Nat, m < 100 → ∀ n : Nat, n < 100 → ∀ b : Bool, lesA (bcd m) (bcd n) b = bcd ((m + 100 - n + b.toNat - 1) % 100) := by decide +kernel
theorem bcd_subC : ∀ m : Nat, m < 100 → ∀ n : Nat, n < 100 → ∀ b : Bool, carB (bcd m) (cpl (bcd n)) b = decide (n + 1 ≤ m + b.toNat) := by decide +kernel
theorem back_A (v u : BitVec 8) (b : Bool) : sumA (sumA v u b) (cpl u) (!b) = v := by
  apply BitVec.eq_of_toNat_eq
  have := v.isLt
  have := u.isLt
  have h : (cpl u).toNat = 255 - u.toNat := by have := cpl_nat u; omega
  unfold sumA
  rw [h, BitVec.toNat_ofNat, BitVec.toNat_ofNat]
  cases b <;> simp <;> omega
end U8
end Go.Proofs.Ytdpoebmahoipbaa
