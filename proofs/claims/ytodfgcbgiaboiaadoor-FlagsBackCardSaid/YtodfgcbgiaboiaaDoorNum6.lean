/-
  Plain laws on bits, more: bytes that are the same but for secrets, and bytes of which fewer bits are secret. No Go text, no program in sight.
-/
import Derived.Test.YtodfgcbgiaboiaaDoorNum3
namespace Go.Proofs.YtodfgcbgiaboiaaDoor
open Go
namespace U8

theorem bitB_get (x : BitVec 8) (i : Nat) (hi : i < 8) : x[i] = bitB x i := by unfold bitB; rw [BitVec.getLsbD_eq_getElem hi]
theorem eq_bits {x y : BitVec 8} (h : ∀ i, i < 8 → bitB x i = bitB y i) : x = y := by
  ext i hi
  rw [bitB_get x i hi, bitB_get y i hi]; exact h i hi
theorem bit_zero (i : Nat) : bitB 0#8 i = false := by unfold bitB; simp
theorem bit_and (x y : BitVec 8) (i : Nat) : bitB (x &&& y) i = (bitB x i && bitB y i) := by unfold bitB; simp
theorem bit_xor (x y : BitVec 8) (i : Nat) : bitB (x ^^^ y) i = (bitB x i ^^ bitB y i) := by unfold bitB; simp
theorem bit_not (x : BitVec 8) (i : Nat) (hi : i < 8) : bitB (~~~x) i = !bitB x i := by unfold bitB; simp [hi]
theorem bit_left0 : ∀ v : BitVec 8, ∀ b : Bool, bitB (leftB v b) 0 = b := by decide +kernel
theorem bit_leftS : ∀ v : BitVec 8, ∀ b : Bool, ∀ i, i < 7 → bitB (leftB v b) (i + 1) = bitB v i := by decide +kernel
theorem bit_right7 : ∀ v : BitVec 8, ∀ b : Bool, bitB (rightB v b) 7 = b := by decide +kernel
theorem bit_rightS : ∀ v : BitVec 8, ∀ b : Bool, ∀ i, i < 7 → bitB (rightB v b) i = bitB v (i + 1) := by decide +kernel
theorem bit_putS : ∀ v : BitVec 8, ∀ b : Bool, ∀ k, k < 8 → ∀ i, i < 8 → bitB (putB v k b) i = if i = k then b else bitB v i := by decide +kernel

/-- Bytes that are the same but for secrets, bit by bit. -/
def Like (v cv t : BitVec 8) : Prop := ∀ i, i < 8 → bitB t i = true ∨ bitB v i = bitB cv i
theorem same_of {v t u : BitVec 8} (h : Like v u t) : sameB v t u t = true := by
  unfold sameB
  rw [beq_self_eq_true, Bool.true_and, beq_iff_eq]
  refine eq_bits fun i hi => ?_
  rw [bit_and, bit_xor, bit_not _ _ hi, bit_zero]
  rcases h i hi with e | e
  · rw [e]; simp
  · rw [e]; simp
theorem same_of2 {v t u s : BitVec 8} (e : t = s) (h : Like v u t) : sameB v t u s = true := by subst e; exact same_of h
/-- What a byte is whose secret bits are turned. -/
def othV (v t x : BitVec 8) : BitVec 8 := v ^^^ (x &&& t)
theorem oth_like (v t x : BitVec 8) : Like v (othV v t x) t := by
  intro i hi
  unfold othV
  rw [bit_xor, bit_and]
  cases bitB t i <;> simp
section
variable {v cv t u cu s : BitVec 8} (hv : Like v cv t) (hu : Like u cu s)
include hv hu
theorem keep_andT : andT v t u s = andT cv t cu s := by
  refine eq_bits fun i hi => ?_
  rw [bit_andT, bit_andT]
  rcases hv i hi with e | e <;> rcases hu i hi with f | f <;> rw [e, f] <;> cases bitB t i <;> cases bitB s i <;> cases bitB v i <;> cases bitB u i <;> cases bitB cv i <;> cases bitB cu i <;> simp_all
theorem keep_andV : Like (andV v u) (andV cv cu) (andT v t u s) := by
  intro i hi
  rw [bit_andT, bit_andV, bit_andV]
  have h1 := hv i hi
  have h2 := hu i hi
  revert h1 h2
  cases bitB t i <;> cases bitB s i <;> cases bitB v i <;> cases bitB u i <;> cases bitB cv i <;> cases bitB cu i <;> simp
theorem keep_orT : orT v t u s = orT cv t cu s := by
  refine eq_bits fun i hi => ?_
  rw [bit_orT _ _ _ _ _ hi, bit_orT _ _ _ _ _ hi]
  have h1 := hv i hi
  have h2 := hu i hi
  revert h1 h2
  cases bitB t i <;> cases bitB s i <;> cases bitB v i <;> cases bitB u i <;> cases bitB cv i <;> cases bitB cu i <;> simp
theorem keep_orV : Like (orV v u) (orV cv cu) (orT v t u s) := by
  intro i hi
  rw [bit_orT _ _ _ _ _ hi, bit_orV, bit_orV]
  have h1 := hv i hi
  have h2 := hu i hi
  revert h1 h2
  cases bitB t i <;> cases bitB s i <;> cases bitB v i <;> cases bitB u i <;> cases bitB cv i <;> cases bitB cu i <;> simp
theorem keep_xorV : Like (xorV v u) (xorV cv cu) (xorT t s) := by
  intro i hi
  rw [bit_xorT, bit_xorV, bit_xorV]
  have h1 := hv i hi
  have h2 := hu i hi
  revert h1 h2
  cases bitB t i <;> cases bitB s i <;> cases bitB v i <;> cases bitB u i <;> cases bitB cv i <;> cases bitB cu i <;> simp
theorem keep_left (k : Nat) (hk : k < 8) : Like (leftB v (bitB u k)) (leftB cv (bitB cu k)) (leftB t (bitB s k)) := by
  intro i hi
  cases i with
  | zero => rw [bit_left0, bit_left0, bit_left0]; exact hu k hk
  | succ i => rw [bit_leftS _ _ _ (by omega), bit_leftS _ _ _ (by omega), bit_leftS _ _ _ (by omega)]; exact hv i (by omega)
theorem keep_right (k : Nat) (hk : k < 8) : Like (rightB v (bitB u k)) (rightB cv (bitB cu k)) (rightB t (bitB s k)) := by
  intro i hi
  by_cases e : i = 7
  · subst e; rw [bit_right7, bit_right7, bit_right7]; exact hu k hk
  · rw [bit_rightS _ _ _ (by omega), bit_rightS _ _ _ (by omega), bit_rightS _ _ _ (by omega)]; exact hv (i + 1) (by omega)
theorem keep_put (k : Nat) (hk : k < 8) : Like (putB v k (bitB u k)) (putB cv k (bitB cu k)) (putB t k (bitB s k)) := by
  intro i hi
  rw [bit_putS _ _ _ hk _ hi, bit_putS _ _ _ hk _ hi, bit_putS _ _ _ hk _ hi]
  by_cases e : i = k
  · rw [if_pos e, if_pos e, if_pos e]; exact hu k hk
  · rw [if_neg e, if_neg e, if_neg e]; exact hv i hi
end
theorem like_rest {v cv t : BitVec 8} (h : Like v cv t) : v &&& ~~~t = cv &&& ~~~t := by
  refine eq_bits fun i hi => ?_
  rw [bit_and, bit_and, bit_not _ _ hi]
  rcases h i hi with e | e
  · rw [e]; simp
  · rw [e]
theorem keep_zeroT {v cv t : BitVec 8} (h : Like v cv t) : zeroT v t = zeroT cv t := by unfold zeroT; rw [like_rest h]
theorem keep_zeroV {v cv t : BitVec 8} (h : Like v cv t) : zeroT v t = true ∨ zeroV v = zeroV cv := by
  by_cases ht : t = 0#8
  · right
    subst ht
    have f : v = cv := eq_bits fun i hi => (h i hi).resolve_left (by rw [bit_zero]; simp)
    rw [f]
  · by_cases hr : v &&& ~~~t = 0#8
    · left
      unfold zeroT
      rw [Bool.and_eq_true, bne_iff_ne, beq_iff_eq]
      exact ⟨ht, hr⟩
    · right
      have hv : v ≠ 0#8 := by intro e; subst e; exact hr (by simp)
      have hc : cv ≠ 0#8 := by intro e; subst e; rw [like_rest h] at hr; exact hr (by simp)
      unfold zeroV
      rw [beq_eq_false_iff_ne.2 hv, beq_eq_false_iff_ne.2 hc]

/-- Whether all secret bits of a byte are those of another one, and the bits the same. -/
def withinB (v t u s : BitVec 8) : Bool := v == u && (t &&& ~~~s) == 0#8
def Sub (t s : BitVec 8) : Prop := ∀ i, i < 8 → bitB t i = true → bitB s i = true
theorem within_of {v t s : BitVec 8} (h : Sub t s) : withinB v t v s = true := by
  unfold withinB
  rw [beq_self_eq_true, Bool.true_and, beq_iff_eq]
  refine eq_bits fun i hi => ?_
  rw [bit_and, bit_not _ _ hi, bit_zero]
  cases e : bitB t i with
  | false => simp
  | true => rw [h i hi e]; simp
theorem sub_and (t x : BitVec 8) : Sub (t &&& x) t := by
  intro i hi e
  rw [bit_and, Bool.and_eq_true] at e
  exact e.1
section
variable {v u t ct s cs : BitVec 8} (ht : Sub ct t) (hs : Sub cs s)
include ht hs
theorem few_and : Sub (andT v ct u cs) (andT v t u s) := by
  intro i hi
  rw [bit_andT, bit_andT]
  have h1 := ht i hi
  have h2 := hs i hi
  revert h1 h2
  cases bitB t i <;> cases bitB s i <;> cases bitB v i <;> cases bitB u i <;> cases bitB ct i <;> cases bitB cs i <;> simp
theorem few_or : Sub (orT v ct u cs) (orT v t u s) := by
  intro i hi
  rw [bit_orT _ _ _ _ _ hi, bit_orT _ _ _ _ _ hi]
  have h1 := ht i hi
  have h2 := hs i hi
  revert h1 h2
  cases bitB t i <;> cases bitB s i <;> cases bitB v i <;> cases bitB u i <;> cases bitB ct i <;> cases bitB cs i <;> simp
theorem few_xor : Sub (xorT ct cs) (xorT t s) := by
  intro i hi
  rw [bit_xorT, bit_xorT]
  have h1 := ht i hi
  have h2 := hs i hi
  revert h1 h2
  cases bitB t i <;> cases bitB s i <;> cases bitB ct i <;> cases bitB cs i <;> simp
theorem few_left (k : Nat) (hk : k < 8) : Sub (leftB cs (bitB ct k)) (leftB s (bitB t k)) := by
  intro i hi
  cases i with
  | zero => rw [bit_left0, bit_left0]; exact ht k hk
  | succ i => rw [bit_leftS _ _ _ (by omega), bit_leftS _ _ _ (by omega)]; exact hs i (by omega)
theorem few_right (k : Nat) (hk : k < 8) : Sub (rightB cs (bitB ct k)) (rightB s (bitB t k)) := by
  intro i hi
  by_cases e : i = 7
  · subst e; rw [bit_right7, bit_right7]; exact ht k hk
  · rw [bit_rightS _ _ _ (by omega), bit_rightS _ _ _ (by omega)]; exact hs (i + 1) (by omega)
end
theorem few_zero {v t ct : BitVec 8} (ht : Sub ct t) (h : zeroT v ct = true) : zeroT v t = true := by
  unfold zeroT at h ⊢
  rw [Bool.and_eq_true, bne_iff_ne, beq_iff_eq] at h ⊢
  obtain ⟨h1, h2⟩ := h
  refine ⟨?_, ?_⟩
  · intro e
    subst e
    refine h1 (eq_bits fun i hi => ?_)
    rw [bit_zero]
    cases f : bitB ct i with
    | false => rfl
    | true => have := ht i hi f; rw [bit_zero] at this; cases this
  · refine eq_bits fun i hi => ?_
    have h3 := congrArg (fun x => bitB x i) h2
    simp only [bit_and, bit_not _ _ hi, bit_zero] at h3 ⊢
    have h4 := ht i hi
    revert h3 h4
    cases bitB v i <;> cases bitB t i <;> cases bitB ct i <;> simp
theorem spread_bit : ∀ t : BitVec 8, ∀ i, i < 8 → bitB (spreadB t) i = onB t (i + 1) := by decide +kernel
theorem on_zero (t : BitVec 8) : onB t 0 = false := by rw [onB, Nat.pow_zero, Nat.mod_one]; rfl
theorem few_on {t ct : BitVec 8} (ht : Sub ct t) : ∀ n, n ≤ 8 → onB ct n = true → onB t n = true := by
  intro n
  induction n with
  | zero => intro _ h; rw [on_zero] at h; cases h
  | succ n ih =>
    intro hn h
    rw [on_succ _ _ (by omega), Bool.or_eq_true] at h ⊢
    rcases h with h | h
    · exact .inl (ih (by omega) h)
    · exact .inr (ht n (by omega) h)
theorem few_spread {t ct : BitVec 8} (ht : Sub ct t) : (spreadB ct &&& ~~~spreadB t) = 0#8 := by
  refine eq_bits fun i hi => ?_
  rw [bit_and, bit_not _ _ hi, bit_zero, spread_bit _ _ hi, spread_bit _ _ hi]
  cases e : onB ct (i + 1) with
  | false => simp
  | true => rw [few_on ht (i + 1) (by omega) e]; simp
end U8
end Go.Proofs.YtodfgcbgiaboiaaDoor
