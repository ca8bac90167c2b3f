/-
  Plain laws on decimal differences: what sums.Sub does with digits, on numbers. No Go text, no program in sight.
-/
import Derived.Test.YtdpoebmahoipbaaSDec
namespace Go.Proofs.Ytdpoebmahoipbaa
open Go
namespace U8

def cpl (u : BitVec 8) : BitVec 8 := ~~~u
theorem cpl_nat (u : BitVec 8) : ((cpl u).toNat : Int) = 255 - (u.toNat : Int) := by
  have := u.isLt
  unfold cpl
  rw [BitVec.toNat_not]; omega
theorem cpl_raw : ∀ u : BitVec 8, bits .xor .u8 IntKind.u8.max (u.toNat : Int) = ((cpl u).toNat : Int) := by decide +kernel
def ldif (v u : BitVec 8) (b : Bool) : Int := lo v - lo u + oneI b - 1
theorem ldif_bd (v u : BitVec 8) (b : Bool) : -16 ≤ ldif v u b ∧ ldif v u b ≤ 15 := by
  have h1 := lo_bd v
  have h2 := lo_bd u
  have h3 := oneI_bd b
  unfold ldif; omega
def ld6 (v u : BitVec 8) (b : Bool) : Int := ldif v u b - 6
def ld7 (v u : BitVec 8) (b : Bool) : Int := ld6 v u b % 16
theorem dlow_raw : ∀ n : Nat, n < 64 → bits .and .i64 ((n : Int) - 32) 15 = ((n : Int) - 32) % 16 := by decide +kernel
theorem ld7_raw (v u : BitVec 8) (b : Bool) : bits .and .i64 (ld6 v u b) 15 = ld7 v u b := by
  obtain ⟨h1, h2⟩ := ldif_bd v u b
  obtain ⟨n, hn⟩ : ∃ n : Nat, ld6 v u b = (n : Int) - 32 := ⟨(ld6 v u b + 32).toNat, by unfold ld6; omega⟩
  unfold ld7
  rw [hn]
  exact dlow_raw n (by unfold ld6 at hn; omega)
def lles (v u : BitVec 8) (b : Bool) : Int := if 0 ≤ ldif v u b then ldif v u b else ld7 v u b - 16
theorem lles_bd (v u : BitVec 8) (b : Bool) : -16 ≤ lles v u b ∧ lles v u b ≤ 15 := by
  have h1 := ldif_bd v u b
  unfold lles ld7
  split <;> omega
def hles (v u : BitVec 8) (b : Bool) : Int := hi v - hi u + lles v u b
theorem hles_bd (v u : BitVec 8) (b : Bool) : -256 ≤ hles v u b ∧ hles v u b ≤ 255 := by
  have h1 := lles_bd v u b
  have h2 := hi_bd v
  have h3 := hi_bd u
  unfold hles; omega
def hlf (v u : BitVec 8) (b : Bool) : Int := if hles v u b < 0 then hles v u b - 96 else hles v u b
theorem hlf_bd (v u : BitVec 8) (b : Bool) : -352 ≤ hlf v u b ∧ hlf v u b ≤ 255 := by
  have h1 := hles_bd v u b
  unfold hlf
  split <;> omega
def lesA (v u : BitVec 8) (b : Bool) : BitVec 8 := BitVec.ofNat 8 (hlf v u b % 256).toNat
theorem lesA_raw (v u : BitVec 8) (b : Bool) : hlf v u b % 256 = ((lesA v u b).toNat : Int) := by
  unfold lesA
  rw [BitVec.toNat_ofNat]
  omega
theorem wrap_ll (v u : BitVec 8) : IntKind.i64.wrap (lo v - lo u) = lo v - lo u := IntWalk.i64_in _ (by have := lo_bd v; have := lo_bd u; omega)
theorem wrap_llo (v u : BitVec 8) (b : Bool) : IntKind.i64.wrap (lo v - lo u + oneI b) = lo v - lo u + oneI b := IntWalk.i64_in _ (by have := lo_bd v; have := lo_bd u; have := oneI_bd b; omega)
theorem wrap_ldif (v u : BitVec 8) (b : Bool) : IntKind.i64.wrap (lo v - lo u + oneI b - 1) = ldif v u b := IntWalk.i64_in _ (by have := ldif_bd v u b; unfold ldif at this; omega)
theorem dway_l {v u : BitVec 8} {b : Bool} (h : 0 ≤ ldif v u b) : IntKind.i64.wrap (lo v - lo u + oneI b - 1) = lles v u b := by
  rw [wrap_ldif]; unfold lles; rw [if_pos h]
theorem dway_l2 {v u : BitVec 8} {b : Bool} (h : 0 ≤ ldif v u b) : decide (0 ≤ lles v u b) = true := by
  unfold lles; rw [if_pos h]; exact decide_eq_true h
theorem wrap_ld6 (v u : BitVec 8) (b : Bool) : IntKind.i64.wrap (ldif v u b - 6) = ld6 v u b := IntWalk.i64_in _ (by have := ldif_bd v u b; omega)
theorem dway_L {v u : BitVec 8} {b : Bool} (h : ldif v u b < 0) : IntKind.i64.wrap (ld7 v u b - 16) = lles v u b := by
  have e : lles v u b = ld7 v u b - 16 := by unfold lles; rw [if_neg (by omega)]
  have := lles_bd v u b
  rw [← e]
  exact IntWalk.i64_in _ (by omega)
theorem wrap_hmh (v u : BitVec 8) : IntKind.i64.wrap (hi v - hi u) = hi v - hi u := IntWalk.i64_in _ (by have := hi_bd v; have := hi_bd u; omega)
theorem wrap_hles (v u : BitVec 8) (b : Bool) : IntKind.i64.wrap (hi v - hi u + lles v u b) = hles v u b := IntWalk.i64_in _ (by have := hles_bd v u b; unfold hles at this; omega)
theorem dway_h {v u : BitVec 8} {b : Bool} (h : 0 ≤ hles v u b) : hlf v u b = hles v u b := by unfold hlf; rw [if_neg (by omega)]
theorem dway_H {v u : BitVec 8} {b : Bool} (h : hles v u b < 0) : IntKind.i64.wrap (hles v u b - 96) = hlf v u b := by
  have e : hlf v u b = hles v u b - 96 := by unfold hlf; rw [if_pos h]
  have := hlf_bd v u b
  rw [← e]
  exact IntWalk.i64_in _ (by omega)
end U8
end Go.Proofs.Ytdpoebmahoipbaa
