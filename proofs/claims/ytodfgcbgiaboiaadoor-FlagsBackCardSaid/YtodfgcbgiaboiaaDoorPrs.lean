/-
  Plain: which register letters are (U8.prsV, prsT), or that they are none's (U8.prsOk).
-/
import Derived.Test.YtodfgcbgiaboiaaDoorText
namespace Go.Proofs.YtodfgcbgiaboiaaDoor
open Go Go.RowKit
namespace U8
/-- May a byte stand for letter number k. -/
def okAt (x : UInt8) (k : Nat) : Bool := x == letter k || x == 63 || x == letter k + 32
def prsV (f : Nat → UInt8) : Nat → BitVec 8
  | 0 => 0#8
  | k + 1 => putB (prsV f k) (7 - k) (f k == letter k)
def prsT (f : Nat → UInt8) : Nat → BitVec 8
  | 0 => 0#8
  | k + 1 => putB (prsT f k) (7 - k) (f k == 63)
def prsOk (f : Nat → UInt8) : Bool := okAt (f 0) 0 && okAt (f 1) 1 && okAt (f 2) 2 && okAt (f 3) 3 && okAt (f 4) 4 && okAt (f 5) 5 && okAt (f 6) 6 && okAt (f 7) 7
def byAt (s : ByteArray) (k : Nat) : UInt8 := s.data.toList.getD k 0
theorem prs_no {f : Nat → UInt8} {k : Nat} (hk : k < 8) (h : okAt (f k) k = false) : prsOk f = false := by
  unfold prsOk
  rcases (by omega : k = 0 ∨ k = 1 ∨ k = 2 ∨ k = 3 ∨ k = 4 ∨ k = 5 ∨ k = 6 ∨ k = 7) with rfl | rfl | rfl | rfl | rfl | rfl | rfl | rfl <;> simp [h]
theorem prs_yes {f : Nat → UInt8} (h : ∀ k, k < 8 → okAt (f k) k = true) : prsOk f = true := by
  unfold prsOk
  simp [h 0 (by decide), h 1 (by decide), h 2 (by decide), h 3 (by decide), h 4 (by decide), h 5 (by decide), h 6 (by decide), h 7 (by decide)]
theorem ok_step {f : Nat → UInt8} {k : Nat} (h : ∀ j, j < k → okAt (f j) j = true) (h' : okAt (f k) k = true) : ∀ j, j < k + 1 → okAt (f j) j = true := by
  intro j hj
  rcases Nat.lt_succ_iff_lt_or_eq.1 hj with h1 | rfl
  · exact h j h1
  · exact h'
/-- A byte at letter number k: the letter, the mark of a secret, the small letter, or none of these. -/
theorem at_ways (x : UInt8) (k : Nat) : x = letter k ∨ x = 63 ∨ x = letter k + 32 ∨ (x ≠ letter k ∧ x ≠ 63 ∧ x ≠ letter k + 32) := by
  by_cases h1 : x = letter k
  · exact .inl h1
  by_cases h2 : x = 63
  · exact .inr (.inl h2)
  by_cases h3 : x = letter k + 32
  · exact .inr (.inr (.inl h3))
  · exact .inr (.inr (.inr ⟨h1, h2, h3⟩))
theorem ok_none {x : UInt8} {k : Nat} (h : x ≠ letter k ∧ x ≠ 63 ∧ x ≠ letter k + 32) : okAt x k = false := by
  unfold okAt; simp [h.1, h.2.1, h.2.2]
theorem byAt_get (s : ByteArray) (k : Nat) (h : k < s.size) : s[k]'h = byAt s k := by
  have h' : k < s.data.size := h
  show s.data[k]'h' = s.data.toList.getD k 0
  simp [List.getD]
  rw [getElem?_pos s.data k h']; rfl
theorem byAt_one (s : ByteArray) (k : Nat) (h : k < s.size) : s.extract k (k + 1) = ⟨#[byAt s k]⟩ := by
  have h' : k < s.data.size := h
  apply ByteArray.ext
  rw [ByteArray.data_extract]
  apply Array.ext
  · simp; omega
  · intro i hi _
    simp at hi
    obtain rfl : i = 0 := by omega
    simp [byAt, List.getD]
    rw [getElem?_pos s.data k h']; rfl
theorem one_ne {x y : UInt8} (h : x ≠ y) : ((⟨#[x]⟩ : ByteArray) = ⟨#[y]⟩) = False := by
  simp; exact h
theorem u8_ne {x y : UInt8} (h : x ≠ y) : ¬ ((x.toNat : Int) = (y.toNat : Int)) := by
  intro e; exact h (UInt8.toNat_inj.1 (by omega))
theorem letter_facts : ∀ k, k < 8 → Utf8.decode letters k = ((letter k).toNat, 1) ∧ Utf8.encode ((letter k).toNat : Int) = ⟨#[letter k]⟩ ∧ Lib.toLowerA [letter k] = [letter k + 32] ∧ (letter k).toNat < 128
    ∧ IntKind.u8.wrap ((letter k).toNat : Int) = ((letter k).toNat : Int) ∧ letter k ≠ 63 ∧ letter k + 32 ≠ 63 ∧ letter k + 32 ≠ letter k := by
  intro k hk
  rcases (by omega : k = 0 ∨ k = 1 ∨ k = 2 ∨ k = 3 ∨ k = 4 ∨ k = 5 ∨ k = 6 ∨ k = 7) with rfl | rfl | rfl | rfl | rfl | rfl | rfl | rfl
  all_goals exact ⟨by kernel_rfl, by kernel_rfl, by kernel_rfl, by decide, by kernel_rfl, by decide, by decide, by decide⟩
theorem prsV_succ {f : Nat → UInt8} {k : Nat} {b : Bool} (h : (f k == letter k) = b) : prsV f (k + 1) = putB (prsV f k) (7 - k) b := by rw [← h]; rfl
theorem prsT_succ {f : Nat → UInt8} {k : Nat} {b : Bool} (h : (f k == 63) = b) : prsT f (k + 1) = putB (prsT f k) (7 - k) b := by rw [← h]; rfl
theorem okAt_of {x : UInt8} {k : Nat} (h : x = letter k ∨ x = 63 ∨ x = letter k + 32) : okAt x k = true := by
  unfold okAt
  rcases h with h | h | h <;> simp [h]
theorem u8_63 {x : UInt8} (h : x ≠ 63) : ¬ ((x.toNat : Int) = 63) := u8_ne h
theorem u8_63' {x : UInt8} (h : x ≠ 63) : ¬ ((63 : Int) = (x.toNat : Int)) := fun e => u8_ne h e.symm
/-- What Parse returns. -/
def prsR (f : Nat → UInt8) : Value := if prsOk f = true then .tuple #[.agg #[.int .u8 ((prsV f 8).toNat : Int), .int .u8 ((prsT f 8).toNat : Int)], .int .i64 0] else .tuple #[.agg #[.int .u8 0, .int .u8 0], .int .i64 11]
end U8
end Go.Proofs.YtodfgcbgiaboiaaDoor
