/-
  Plain laws on decimal sums: of two numbers of two decimal digits each. No Go text, no program in sight.
-/
import Derived.Test.YtdpoebmahoipbaaSLaw
namespace Go.Proofs.Ytdpoebmahoipbaa
open Go
namespace U8

theorem bcd_nat : ∀ m : Nat, m < 100 → (bcd m).toNat = m / 10 * 16 + m % 10 := by decide +kernel
theorem bcd_int {m : Nat} (h : m < 100) : ((bcd m).toNat : Int) = ((m : Int) / 10 * 16 + (m : Int) % 10) % 256 := by
  rw [bcd_nat m h]; omega
theorem dig_t {m n : Nat} (h1 : m < 100) (h2 : n < 100) :
    ((((addS (bcd m) 0#8 (bcd n) 0#8 true false true false).A.toNat : Int) = (((m : Int) + (n : Int) + 1) % 100 / 10 * 16 + ((m : Int) + (n : Int) + 1) % 100 % 10) % 256 ∧ ((addS (bcd m) 0#8 (bcd n) 0#8 true false true false).T.toNat : Int) = 0 ∧ (addS (bcd m) 0#8 (bcd n) 0#8 true false true false).c = decide (100 ≤ (m : Int) + (n : Int) + 1)) ∧
    (((subS (bcd m) 0#8 (bcd n) 0#8 true false true false).A.toNat : Int) = (((m : Int) - (n : Int)) % 100 / 10 * 16 + ((m : Int) - (n : Int)) % 100 % 10) % 256 ∧ ((subS (bcd m) 0#8 (bcd n) 0#8 true false true false).T.toNat : Int) = 0 ∧ (subS (bcd m) 0#8 (bcd n) 0#8 true false true false).c = decide (0 ≤ (m : Int) - (n : Int)))) := by
  have a1 : (addS (bcd m) 0#8 (bcd n) 0#8 true false true false).A = _ := bcd_add m h1 n h2 true
  have a2 : (addS (bcd m) 0#8 (bcd n) 0#8 true false true false).c = _ := bcd_addC m h1 n h2 true
  have a3 : (subS (bcd m) 0#8 (bcd n) 0#8 true false true false).A = _ := bcd_sub m h1 n h2 true
  have a4 : (subS (bcd m) 0#8 (bcd n) 0#8 true false true false).c = _ := bcd_subC m h1 n h2 true
  have a5 : (addS (bcd m) 0#8 (bcd n) 0#8 true false true false).T = 0#8 := rfl
  have a6 : (subS (bcd m) 0#8 (bcd n) 0#8 true false true false).T = 0#8 := rfl
  rw [a1, a2, a3, a4, a5, a6]
  have e := Bool.toNat_true
  refine ⟨⟨?_, rfl, ?_⟩, ?_, rfl, ?_⟩
  · rw [bcd_int (by omega)]; congr 1
  · rw [decide_eq_decide]; omega
  · rw [bcd_int (by omega)]; congr 1; omega
  · rw [decide_eq_decide]; omega
theorem dig_f {m n : Nat} (h1 : m < 100) (h2 : n < 100) :
    ((((addS (bcd m) 0#8 (bcd n) 0#8 false false true false).A.toNat : Int) = (((m : Int) + (n : Int)) % 100 / 10 * 16 + ((m : Int) + (n : Int)) % 100 % 10) % 256 ∧ ((addS (bcd m) 0#8 (bcd n) 0#8 false false true false).T.toNat : Int) = 0 ∧ (addS (bcd m) 0#8 (bcd n) 0#8 false false true false).c = decide (100 ≤ (m : Int) + (n : Int))) ∧
    (((subS (bcd m) 0#8 (bcd n) 0#8 false false true false).A.toNat : Int) = (((m : Int) - (n : Int) - 1) % 100 / 10 * 16 + ((m : Int) - (n : Int) - 1) % 100 % 10) % 256 ∧ ((subS (bcd m) 0#8 (bcd n) 0#8 false false true false).T.toNat : Int) = 0 ∧ (subS (bcd m) 0#8 (bcd n) 0#8 false false true false).c = decide (0 ≤ (m : Int) - (n : Int) - 1))) := by
  have a1 : (addS (bcd m) 0#8 (bcd n) 0#8 false false true false).A = _ := bcd_add m h1 n h2 false
  have a2 : (addS (bcd m) 0#8 (bcd n) 0#8 false false true false).c = _ := bcd_addC m h1 n h2 false
  have a3 : (subS (bcd m) 0#8 (bcd n) 0#8 false false true false).A = _ := bcd_sub m h1 n h2 false
  have a4 : (subS (bcd m) 0#8 (bcd n) 0#8 false false true false).c = _ := bcd_subC m h1 n h2 false
  have a5 : (addS (bcd m) 0#8 (bcd n) 0#8 false false true false).T = 0#8 := rfl
  have a6 : (subS (bcd m) 0#8 (bcd n) 0#8 false false true false).T = 0#8 := rfl
  rw [a1, a2, a3, a4, a5, a6]
  have e := Bool.toNat_false
  refine ⟨⟨?_, rfl, ?_⟩, ?_, rfl, ?_⟩
  · rw [bcd_int (by omega)]; congr 1
  · rw [decide_eq_decide]; omega
  · rw [bcd_int (by omega)]; congr 1; omega
  · rw [decide_eq_decide]; omega
theorem raw_dig {x : Int} (h0 : 0 ≤ x) (h1 : x < 100) : IntKind.i64.wrap (IntKind.i64.wrap (IntKind.i64.wrap (x.tdiv 10) * 16) + x.tmod 10) = x / 10 * 16 + x % 10 := by
  rw [Int.tdiv_eq_ediv_of_nonneg h0, Int.tmod_eq_emod_of_nonneg h0]
  rw [show IntKind.i64.wrap (x / 10) = x / 10 from IntWalk.i64_in _ (by omega), show IntKind.i64.wrap (x / 10 * 16) = x / 10 * 16 from IntWalk.i64_in _ (by omega)]
  exact IntWalk.i64_in _ (by omega)
end U8
end Go.Proofs.Ytdpoebmahoipbaa
