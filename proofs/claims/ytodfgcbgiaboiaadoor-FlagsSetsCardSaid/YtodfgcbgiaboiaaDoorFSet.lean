/-
  Plain laws: a bit set at a place, and read at one (U8.setV, U8.getV).
-/
import Derived.Test.YtodfgcbgiaboiaaDoorFAll
import Derived.Test.YtodfgcbgiaboiaaDoorNum6
namespace Go.Proofs.YtodfgcbgiaboiaaDoor
open Go Go.RowKit
namespace U8
theorem put_put : ∀ v : BitVec 8, ∀ b c : Bool, ∀ n, n < 8 → putB (putB v n b) n c = putB v n c := by decide +kernel
theorem put_back : ∀ v : BitVec 8, ∀ n, n < 8 → putB v n (bitB v n) = v := by decide +kernel
theorem put_swap : ∀ v : BitVec 8, ∀ b c : Bool, ∀ n, n < 8 → ∀ m, m < 8 → n ≠ m → putB (putB v n b) m c = putB (putB v m c) n b := by decide +kernel
theorem get_setS (v : BitVec 8) (i : Int) (b : Bool) {k : Nat} (hk : k < 8) (h : (k : Int) = i) : getV (setV v i b) k = b := by
  subst h
  rw [setV_in v hk, getV_in _ hk, bit_putS v b k hk k hk, if_pos rfl]
theorem get_setO (v : BitVec 8) (i : Int) (b : Bool) {k : Nat} (hk : k < 8) (h : ¬ (k : Int) = i) : getV (setV v i b) k = getV v k := by
  rcases place_ways i with ⟨n, hn, rfl⟩ | ho
  · rw [setV_in v hn, getV_in _ hk, getV_in _ hk, bit_putS v b n hn k hk, if_neg (fun e => h (by rw [e]))]
  · rw [setV_out v ho]
theorem set_swap (v : BitVec 8) {i j : Int} (b c : Bool) (h : ¬ i = j) : setV (setV v j c) i b = setV (setV v i b) j c := by
  rcases place_ways i with ⟨n, hn, rfl⟩ | ho
  · rcases place_ways j with ⟨m, hm, rfl⟩ | ho'
    · rw [setV_in v hm, setV_in v hn, setV_in _ hn, setV_in _ hm, put_swap v c b m hm n hn (fun e => h (by rw [e]))]
    · rw [setV_out _ ho', setV_out _ ho']
  · rw [setV_out _ ho, setV_out _ ho]
theorem set_back (v : BitVec 8) (i : Int) (b : Bool) : setV (setV v i b) i (getV v i) = v := by
  rcases place_ways i with ⟨n, hn, rfl⟩ | ho
  · rw [setV_in v hn, setV_in _ hn, getV_in v hn, put_put v b _ n hn, put_back v n hn]
  · rw [setV_out _ ho, setV_out _ ho]
theorem set_ways (v t : BitVec 8) (i j : Int) (b r c d : Bool) :
    (i < 0 ∧ (0 ≤ i) = False) ∨ (8 ≤ i ∧ 0 ≤ i ∧ (i < 8) = False)
    ∨ (0 ≤ i ∧ i < 8 ∧ setV (setV v j c) i b = setV (setV v i b) j c ∧ setV (setV t j d) i r = setV (setV t i r) j d)
    ∨ (0 ≤ i ∧ i < 8 ∧ i = j ∧ ¬ (((setV (setV v i b) j c).toNat : Int) = ((setV (setV v j c) i b).toNat : Int)))
    ∨ (0 ≤ i ∧ i < 8 ∧ i = j ∧ setV (setV v j c) i b = setV (setV v i b) j c ∧ ¬ (((setV (setV t i r) j d).toNat : Int) = ((setV (setV t j d) i r).toNat : Int))) := by
  by_cases h0 : i < 0
  · exact .inl ⟨h0, by simp; omega⟩
  by_cases h8 : 8 ≤ i
  · exact .inr (.inl ⟨h8, by omega, by simp; omega⟩)
  refine .inr (.inr ?_)
  have g0 : 0 ≤ i := by omega
  have g8 : i < 8 := by omega
  by_cases hij : i = j
  · by_cases e1 : setV (setV v j c) i b = setV (setV v i b) j c
    · by_cases e2 : setV (setV t j d) i r = setV (setV t i r) j d
      · exact .inl ⟨g0, g8, e1, e2⟩
      · refine .inr (.inr ⟨g0, g8, hij, e1, ?_⟩)
        intro h; exact e2 (BitVec.eq_of_toNat_eq (by omega))
    · refine .inr (.inl ⟨g0, g8, hij, ?_⟩)
      intro h; exact e1 (BitVec.eq_of_toNat_eq (by omega))
  · exact .inl ⟨g0, g8, set_swap v b c hij, set_swap t r d hij⟩
theorem out_lo {i : Int} (h : i < 0) (v : BitVec 8) (b : Bool) : setV v i b = v := setV_out v (.inl h) b
theorem out_hi {i : Int} (h : 8 ≤ i) (v : BitVec 8) (b : Bool) : setV v i b = v := setV_out v (.inr (by omega)) b
end U8
end Go.Proofs.YtodfgcbgiaboiaaDoor
