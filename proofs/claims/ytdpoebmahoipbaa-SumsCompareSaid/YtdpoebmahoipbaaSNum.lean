/-
  Plain laws on sums: the functions of chapter 2, on bits and numbers. No Go text, no program in sight.
-/
import Derived.Test.YtdpoebmahoipbaaNum3
namespace Go.Proofs.Ytdpoebmahoipbaa
open Go
namespace U8

def oneI (b : Bool) : Int := if b = true then 1 else 0
theorem oneI_bd (b : Bool) : 0 ≤ oneI b ∧ oneI b ≤ 1 := by cases b <;> decide
/-- What two bytes and a bit are together, modulo 256. -/
def sumA (v u : BitVec 8) (b : Bool) : BitVec 8 := BitVec.ofNat 8 (v.toNat + u.toNat + b.toNat)
def sumN (v u : BitVec 8) (b : Bool) : Int := (v.toNat : Int) + (u.toNat : Int) + oneI b
theorem sumN_bd (v u : BitVec 8) (b : Bool) : 0 ≤ sumN v u b ∧ sumN v u b ≤ 511 := by
  have h1 := v.isLt
  have h2 := u.isLt
  have h3 := oneI_bd b
  unfold sumN; omega
theorem sumN_mod (v u : BitVec 8) (b : Bool) : sumN v u b % 256 = ((sumA v u b).toNat : Int) := by
  unfold sumN sumA
  rw [BitVec.toNat_ofNat]
  cases b <;> simp [oneI]
def secT (t s : BitVec 8) (c : Bool) : BitVec 8 := t ||| s ||| (if c = true then 1#8 else 0#8)
def orTS (t s : BitVec 8) : BitVec 8 := t ||| s
theorem or_TS (t s : BitVec 8) : bits .or .u8 (t.toNat : Int) (s.toNat : Int) = ((orTS t s).toNat : Int) := or_ t s
theorem sec_no (t s : BitVec 8) : orTS t s = secT t s false := by unfold orTS secT; simp
theorem sec_yes (t s : BitVec 8) : bits .or .u8 ((orTS t s).toNat : Int) 1 = ((secT t s true).toNat : Int) := by rw [lit1, or_]; rfl
def nzB (t : BitVec 8) : Bool := t != 0#8
theorem nz_raw (t : BitVec 8) : ((t.toNat : Int) != 0) = nzB t := by unfold nzB bne; rw [lit0, eq_]
def beyB (v u o : BitVec 8) : Bool := (((v ^^^ o) &&& (u ^^^ o)) &&& 128#8) != 0#8
theorem bey_raw (v u o : BitVec 8) : (bits .and .u8 (bits .and .u8 (bits .xor .u8 (v.toNat : Int) (o.toNat : Int)) (bits .xor .u8 (u.toNat : Int) (o.toNat : Int))) 128 != 0) = beyB v u o := by
  rw [lit128, xor_, xor_, and_, and_]
  unfold beyB bne; rw [lit0, eq_]
def carB (v u : BitVec 8) (b : Bool) : Bool := decide (256 ≤ sumN v u b)
/-- Is anything secret of two bytes and two bits? -/
def anyB (t s : BitVec 8) (c e : Bool) : Bool := nzB (orTS t s) || c || e
def hidT (is : Bool) : BitVec 8 := if is = true then 255#8 else 0#8
end U8
end Go.Proofs.Ytdpoebmahoipbaa
