/-
  Plain: the register of a register's letters is that register but for secrets; the letters tell none of these; what is pushed and pulled.
-/
import Derived.Test.YtodfgcbgiaboiaaDoorPrs2
import Derived.Test.YtodfgcbgiaboiaaDoorFHelp
import Derived.Test.YtodfgcbgiaboiaaDoorNum6
namespace Go.Proofs.YtodfgcbgiaboiaaDoor
open Go Go.RowKit
namespace U8
theorem fback_raw (v t x : BitVec 8) : bits .xor .u8 (v.toNat : Int) (bits .and .u8 (x.toNat : Int) (t.toNat : Int)) = ((othV v t x).toNat : Int) := by
  rw [and_, xor_]; rfl
theorem txt_like {v cv t : BitVec 8} (h : Like v cv t) : txt cv t 8 = txt v t 8 := by
  unfold txt
  refine List.map_congr_left fun k hk => ?_
  have hk8 : k < 8 := List.mem_range.1 hk
  unfold txtAt
  rcases h (7 - k) (by omega) with e | e
  · rw [if_pos e, if_pos e]
  · rw [e]
theorem txt_at (v t : BitVec 8) (k : Nat) (hk : k < 8) : byAt ⟨(txt v t 8).toArray⟩ k = txtAt v t k := by
  unfold byAt txt
  simp [List.getD, hk]
theorem txtAt_ok (v t : BitVec 8) (k : Nat) : okAt (txtAt v t k) k = true := by
  refine okAt_of ?_
  unfold txtAt
  by_cases h : bitB t (7 - k) = true
  · rw [if_pos h]; exact .inr (.inl rfl)
  · rw [if_neg h]
    by_cases h' : bitB v (7 - k) = true
    · rw [if_pos h']; exact .inl rfl
    · rw [if_neg h']; exact .inr (.inr rfl)
theorem txt_prs (v t : BitVec 8) : prsOk (byAt ⟨(txt v t 8).toArray⟩) = true := prs_yes fun k hk => by rw [txt_at v t k hk]; exact txtAt_ok v t k
theorem prsV_bit (f : Nat → UInt8) : ∀ n, n ≤ 8 → ∀ i, i < 8 → bitB (prsV f n) i = if 7 - i < n then f (7 - i) == letter (7 - i) else false
  | 0, _, i, hi => by rw [if_neg (by omega)]; exact bit_zero i
  | n + 1, hn, i, hi => by
    show bitB (putB (prsV f n) (7 - n) (f n == letter n)) i = _
    rw [bit_putS _ _ _ (by omega) _ hi]
    by_cases e : i = 7 - n
    · rw [if_pos e, if_pos (by omega), show 7 - i = n from by omega]
    · rw [if_neg e, prsV_bit f n (by omega) i hi]
      by_cases e' : 7 - i < n
      · rw [if_pos e', if_pos (by omega)]
      · rw [if_neg e', if_neg (by omega)]
theorem prsT_bit (f : Nat → UInt8) : ∀ n, n ≤ 8 → ∀ i, i < 8 → bitB (prsT f n) i = if 7 - i < n then f (7 - i) == 63 else false
  | 0, _, i, hi => by rw [if_neg (by omega)]; exact bit_zero i
  | n + 1, hn, i, hi => by
    show bitB (putB (prsT f n) (7 - n) (f n == 63)) i = _
    rw [bit_putS _ _ _ (by omega) _ hi]
    by_cases e : i = 7 - n
    · rw [if_pos e, if_pos (by omega), show 7 - i = n from by omega]
    · rw [if_neg e, prsT_bit f n (by omega) i hi]
      by_cases e' : 7 - i < n
      · rw [if_pos e', if_pos (by omega)]
      · rw [if_neg e', if_neg (by omega)]
theorem back_T (v t : BitVec 8) : prsT (byAt ⟨(txt v t 8).toArray⟩) 8 = t := by
  refine eq_bits fun i hi => ?_
  rw [prsT_bit _ 8 (Nat.le_refl _) i hi, if_pos (by omega), txt_at v t _ (by omega)]
  obtain ⟨_, _, _, _, _, l63, m63, _⟩ := letter_facts (7 - i) (by omega)
  unfold txtAt
  rw [show 7 - (7 - i) = i from by omega]
  cases bitB t i <;> cases bitB v i <;> simp [l63, m63]
theorem back_V (v t : BitVec 8) : Like (prsV (byAt ⟨(txt v t 8).toArray⟩) 8) v t := by
  intro i hi
  rw [prsV_bit _ 8 (Nat.le_refl _) i hi, if_pos (by omega), txt_at v t _ (by omega)]
  obtain ⟨_, _, _, _, _, _, _, ml⟩ := letter_facts (7 - i) (by omega)
  unfold txtAt
  rw [show 7 - (7 - i) = i from by omega]
  cases bitB t i <;> cases bitB v i <;> simp [ml]
def plV (v : BitVec 8) : BitVec 8 := putB (putB v 5 true) 4 false
def plT (t : BitVec 8) : BitVec 8 := putB (putB t 5 false) 4 false
theorem pl_V : ∀ v : BitVec 8, ∀ b : Bool, putB (putB (putB (putB v 5 true) 4 b) 5 true) 4 false = plV v := by decide +kernel
theorem pl_T : ∀ v : BitVec 8, putB (putB (putB (putB v 5 false) 4 false) 5 false) 4 false = plT v := by decide +kernel
theorem pl_5 : ∀ v : BitVec 8, bitB (plV v) 5 = true ∧ bitB (plT v) 5 = false ∧ bitB (plV v) 4 = false ∧ bitB (plT v) 4 = false := by decide +kernel
theorem pl_oV (v : BitVec 8) {i : Nat} (hi : i < 8) (h4 : i ≠ 4) (h5 : i ≠ 5) : bitB (plV v) i = bitB v i := by
  unfold plV; rw [bit_putS _ _ _ (by decide) _ hi, if_neg h4, bit_putS _ _ _ (by decide) _ hi, if_neg h5]
theorem pl_oT (v : BitVec 8) {i : Nat} (hi : i < 8) (h4 : i ≠ 4) (h5 : i ≠ 5) : bitB (plT v) i = bitB v i := by
  unfold plT; rw [bit_putS _ _ _ (by decide) _ hi, if_neg h4, bit_putS _ _ _ (by decide) _ hi, if_neg h5]
theorem told_T {v cv t : BitVec 8} (h : Like v cv t) : toldT t cv t = toldT t v t := by unfold toldT; rw [keep_zeroT h]
theorem told_V {v cv t : BitVec 8} (h : Like v cv t) : Like (toldV v v) (toldV cv cv) (toldT t v t) := by
  intro i hi
  unfold toldV toldT
  simp only [bit_putS _ _ _ (by decide : 1 < 8) _ hi, bit_putS _ _ _ (by decide : 7 < 8) _ hi]
  by_cases e : i = 1
  · simp only [if_pos e]; exact keep_zeroV h
  · simp only [if_neg e]
    by_cases e' : i = 7
    · simp only [if_pos e']; exact h 7 (by decide)
    · simp only [if_neg e']; exact h i hi
end U8
theorem pulled2 (v t : BitVec 8) (b : Bool) (w : World) : Calls Tryd.prog 14 #[.agg #[.int .u8 ((U8.putB (U8.putB v 5 true) 4 b).toNat : Int), .int .u8 ((U8.putB (U8.putB t 5 false) 4 false).toNat : Int)]] w fun e w' => e = .returned (.agg #[.int .u8 ((U8.plV v).toNat : Int), .int .u8 ((U8.plT t).toNat : Int)]) ∧ Below w.heap.size w w' := by
  have h := pulled_any (U8.putB (U8.putB v 5 true) 4 b) (U8.putB (U8.putB t 5 false) 4 false) w
  rw [U8.pl_V, U8.pl_T] at h
  exact h
theorem pulled1 (v t : BitVec 8) (w : World) : Calls Tryd.prog 14 #[.agg #[.int .u8 (v.toNat : Int), .int .u8 (t.toNat : Int)]] w fun e w' => e = .returned (.agg #[.int .u8 ((U8.plV v).toNat : Int), .int .u8 ((U8.plT t).toNat : Int)]) ∧ Below w.heap.size w w' := pulled_any v t w
/-- All that the law's calls return, the text, the parsed byte and the other byte under names of their own. -/
theorem back_calls (v t y : BitVec 8) : ∃ (S : ByteArray) (q x : BitVec 8), S.size = 8 ∧ bits .xor .u8 (v.toNat : Int) (bits .and .u8 (y.toNat : Int) (t.toNat : Int)) = (x.toNat : Int) ∧ U8.sameB q t v t = true
    ∧ (∀ w, Calls Tryd.prog 11 #[.agg #[.int .u8 (v.toNat : Int), .int .u8 (t.toNat : Int)]] w fun e w' => e = .returned (.string S) ∧ Below w.heap.size w w')
    ∧ (∀ w, Calls Tryd.prog 11 #[.agg #[.int .u8 (x.toNat : Int), .int .u8 (t.toNat : Int)]] w fun e w' => e = .returned (.string S) ∧ Below w.heap.size w w')
    ∧ (∀ w, Calls Tryd.prog 9 #[.string S] w fun e w' => e = .returned (.tuple #[.agg #[.int .u8 (q.toNat : Int), .int .u8 (t.toNat : Int)], .int .i64 0]) ∧ Below w.heap.size w w')
    ∧ (∃ a b c : BitVec 8, U8.sameB a b c b = true ∧ (∀ w, Calls Tryd.prog 17 #[.agg #[.int .u8 (v.toNat : Int), .int .u8 (t.toNat : Int)], .agg #[.int .u8 (v.toNat : Int), .int .u8 (t.toNat : Int)]] w fun e w' => e = .returned (.agg #[.int .u8 (a.toNat : Int), .int .u8 (b.toNat : Int)]) ∧ Below w.heap.size w w')
      ∧ (∀ w, Calls Tryd.prog 17 #[.agg #[.int .u8 (x.toNat : Int), .int .u8 (t.toNat : Int)], .agg #[.int .u8 (x.toNat : Int), .int .u8 (t.toNat : Int)]] w fun e w' => e = .returned (.agg #[.int .u8 (c.toNat : Int), .int .u8 (b.toNat : Int)]) ∧ Below w.heap.size w w')) := by
  have hl := U8.oth_like v t y
  have hz : (⟨(U8.txt v t 8).toArray⟩ : ByteArray).size = 8 := by show (U8.txt v t 8).toArray.size = 8; rw [List.size_toArray, U8.txt_len]
  refine ⟨⟨(U8.txt v t 8).toArray⟩, U8.prsV (U8.byAt ⟨(U8.txt v t 8).toArray⟩) 8, U8.othV v t y, hz, U8.fback_raw v t y, U8.same_of (U8.back_V v t), fun w => text_any v t w, fun w => ?_, fun w => ?_, U8.toldV v v, U8.toldT t v t, U8.toldV (U8.othV v t y) (U8.othV v t y), U8.same_of (U8.told_V hl), fun w => told_any v t v t w, fun w => ?_⟩
  · have h := text_any (U8.othV v t y) t w
    rw [U8.txt_like hl] at h
    exact h
  · have h := parse_yes _ hz (U8.txt_prs v t) w
    rw [U8.back_T] at h
    exact h
  · have h := told_any (U8.othV v t y) t (U8.othV v t y) t w
    rw [U8.told_T hl] at h
    exact h
end Go.Proofs.YtodfgcbgiaboiaaDoor
