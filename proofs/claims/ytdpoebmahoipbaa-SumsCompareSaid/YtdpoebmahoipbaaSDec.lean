/-
  Plain laws on decimal sums: what sums.Add does with digits, on numbers. No Go text, no program in sight.
-/
import Derived.Test.YtdpoebmahoipbaaSNum
namespace Go.Proofs.Ytdpoebmahoipbaa
open Go
namespace U8

def lo (v : BitVec 8) : Int := ((v.toNat % 16 : Nat) : Int)
def hi (v : BitVec 8) : Int := ((v.toNat / 16 * 16 : Nat) : Int)
def sg (v : BitVec 8) : Int := if 128 ≤ hi v then hi v - 256 else hi v
theorem lo_raw : ∀ v : BitVec 8, bits .and .i64 (v.toNat : Int) 15 = lo v := by decide +kernel
theorem hi_raw : ∀ v : BitVec 8, bits .and .i64 (v.toNat : Int) 240 = hi v := by decide +kernel
theorem sg_raw : ∀ v : BitVec 8, IntKind.i8.wrap (hi v) = sg v := by decide +kernel
theorem lo_bd (v : BitVec 8) : 0 ≤ lo v ∧ lo v ≤ 15 := by unfold lo; omega
theorem hi_bd (v : BitVec 8) : 0 ≤ hi v ∧ hi v ≤ 240 := by have := v.isLt; unfold hi; omega
theorem sg_bd (v : BitVec 8) : -128 ≤ sg v ∧ sg v ≤ 127 := by
  have := v.isLt
  unfold sg hi
  split <;> omega
def lsum (v u : BitVec 8) (b : Bool) : Int := lo v + lo u + oneI b
theorem lsum_bd (v u : BitVec 8) (b : Bool) : 0 ≤ lsum v u b ∧ lsum v u b ≤ 31 := by
  have h1 := lo_bd v
  have h2 := lo_bd u
  have h3 := oneI_bd b
  unfold lsum; omega
def l6 (v u : BitVec 8) (b : Bool) : Int := lsum v u b + 6
def l7 (v u : BitVec 8) (b : Bool) : Int := l6 v u b % 16
theorem low_raw : ∀ n : Nat, n < 64 → bits .and .i64 (n : Int) 15 = (n : Int) % 16 := by decide +kernel
theorem l7_raw (v u : BitVec 8) (b : Bool) : bits .and .i64 (l6 v u b) 15 = l7 v u b := by
  obtain ⟨h1, h2⟩ := lsum_bd v u b
  obtain ⟨n, hn⟩ : ∃ n : Nat, l6 v u b = (n : Int) := ⟨(l6 v u b).toNat, by unfold l6; omega⟩
  unfold l7
  rw [hn]
  exact low_raw n (by unfold l6 at hn; omega)
def ldec (v u : BitVec 8) (b : Bool) : Int := if lsum v u b < 10 then lsum v u b else l7 v u b + 16
theorem ldec_bd (v u : BitVec 8) (b : Bool) : 0 ≤ ldec v u b ∧ ldec v u b ≤ 31 := by
  have h1 := lsum_bd v u b
  unfold ldec l7
  split <;> omega
def hdec (v u : BitVec 8) (b : Bool) : Int := hi v + hi u + ldec v u b
theorem hdec_bd (v u : BitVec 8) (b : Bool) : 0 ≤ hdec v u b ∧ hdec v u b ≤ 511 := by
  have h1 := ldec_bd v u b
  have h2 := hi_bd v
  have h3 := hi_bd u
  unfold hdec; omega
def both (v u : BitVec 8) (b : Bool) : Int := sg v + sg u + ldec v u b
def decN (v u : BitVec 8) (b : Bool) : Bool := decide (hdec v u b / 128 % 2 = 1)
theorem sign_raw : ∀ n : Nat, n < 512 → (bits .and .i64 (n : Int) 128 != 0) = decide ((n : Int) / 128 % 2 = 1) := by decide +kernel
theorem decN_raw (v u : BitVec 8) (b : Bool) : (bits .and .i64 (hdec v u b) 128 != 0) = decN v u b := by
  obtain ⟨h1, h2⟩ := hdec_bd v u b
  obtain ⟨n, hn⟩ : ∃ n : Nat, hdec v u b = (n : Int) := ⟨(hdec v u b).toNat, by omega⟩
  unfold decN
  rw [hn]
  exact sign_raw n (by omega)
def decV (v u : BitVec 8) (b : Bool) : Bool := decide (both v u b < -128) || decide (128 ≤ both v u b)
def hfin (v u : BitVec 8) (b : Bool) : Int := if 160 ≤ hdec v u b then hdec v u b + 96 else hdec v u b
theorem hfin_bd (v u : BitVec 8) (b : Bool) : 0 ≤ hfin v u b ∧ hfin v u b ≤ 607 := by
  have h1 := hdec_bd v u b
  unfold hfin
  split <;> omega
def decA (v u : BitVec 8) (b : Bool) : BitVec 8 := BitVec.ofNat 8 (hfin v u b).toNat
theorem decA_raw (v u : BitVec 8) (b : Bool) : hfin v u b % 256 = ((decA v u b).toNat : Int) := by
  obtain ⟨h1, h2⟩ := hfin_bd v u b
  unfold decA
  rw [BitVec.toNat_ofNat]
  omega
def decC (v u : BitVec 8) (b : Bool) : Bool := decide (256 ≤ hfin v u b)
theorem wrap_lsum (v u : BitVec 8) (b : Bool) : IntKind.i64.wrap (lo v + lo u + oneI b) = lsum v u b := IntWalk.i64_in _ (by have := lsum_bd v u b; unfold lsum at this; omega)
theorem way_l {v u : BitVec 8} {b : Bool} (h : lsum v u b < 10) : IntKind.i64.wrap (lo v + lo u + oneI b) = ldec v u b := by
  rw [wrap_lsum]; unfold ldec; rw [if_pos h]
theorem way_l2 {v u : BitVec 8} {b : Bool} (h : lsum v u b < 10) : decide (ldec v u b < 10) = true := by
  unfold ldec; rw [if_pos h]; exact decide_eq_true h
theorem wrap_l6 (v u : BitVec 8) (b : Bool) : IntKind.i64.wrap (lsum v u b + 6) = l6 v u b := IntWalk.i64_in _ (by have := lsum_bd v u b; omega)
theorem way_L {v u : BitVec 8} {b : Bool} (h : ¬ lsum v u b < 10) : IntKind.i64.wrap (l7 v u b + 16) = ldec v u b := by
  have e : ldec v u b = l7 v u b + 16 := by unfold ldec; rw [if_neg h]
  have := ldec_bd v u b
  rw [← e]
  exact IntWalk.i64_in _ (by omega)
theorem wrap_hh (v u : BitVec 8) : IntKind.i64.wrap (hi v + hi u) = hi v + hi u := IntWalk.i64_in _ (by have := hi_bd v; have := hi_bd u; omega)
theorem wrap_hdec (v u : BitVec 8) (b : Bool) : IntKind.i64.wrap (hi v + hi u + ldec v u b) = hdec v u b := IntWalk.i64_in _ (by have := hdec_bd v u b; unfold hdec at this; omega)
theorem wrap_sg (v : BitVec 8) : IntKind.i64.wrap (sg v) = sg v := IntWalk.i64_in _ (by have := sg_bd v; omega)
theorem wrap_ss (v u : BitVec 8) : IntKind.i64.wrap (sg v + sg u) = sg v + sg u := IntWalk.i64_in _ (by have := sg_bd v; have := sg_bd u; omega)
theorem wrap_both (v u : BitVec 8) (b : Bool) : IntKind.i64.wrap (sg v + sg u + ldec v u b) = both v u b := IntWalk.i64_in _ (by have := sg_bd v; have := sg_bd u; have := ldec_bd v u b; omega)
theorem decV_u {v u : BitVec 8} {b : Bool} (h : both v u b < -128) : decV v u b = true := by unfold decV; rw [decide_eq_true h]; rfl
theorem decV_o {v u : BitVec 8} {b : Bool} (h : 128 ≤ both v u b) : decV v u b = true := by unfold decV; rw [decide_eq_true h]; simp
theorem decV_n {v u : BitVec 8} {b : Bool} (h : ¬ both v u b < -128 ∧ ¬ 128 ≤ both v u b) : decV v u b = false := by unfold decV; rw [decide_eq_false h.1, decide_eq_false h.2]; rfl
theorem way_h {v u : BitVec 8} {b : Bool} (h : ¬ 160 ≤ hdec v u b) : hfin v u b = hdec v u b := by unfold hfin; rw [if_neg h]
theorem way_H {v u : BitVec 8} {b : Bool} (h : 160 ≤ hdec v u b) : IntKind.i64.wrap (hdec v u b + 96) = hfin v u b := by
  have e : hfin v u b = hdec v u b + 96 := by unfold hfin; rw [if_pos h]
  have := hfin_bd v u b
  rw [← e]
  exact IntWalk.i64_in _ (by omega)
theorem decA_wrap (v u : BitVec 8) (b : Bool) : IntKind.u8.wrap (hfin v u b) = ((decA v u b).toNat : Int) := by rw [IntKind.wrap_u8', decA_raw]
end U8
end Go.Proofs.Ytdpoebmahoipbaa
