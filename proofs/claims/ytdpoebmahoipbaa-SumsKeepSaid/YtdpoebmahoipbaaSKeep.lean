/-
  Plain laws on sums: sums of bytes that are the same but for secrets, and of bytes of which fewer bits are secret. No Go text, no program in sight.
-/
import Derived.Test.YtdpoebmahoipbaaSCmp
import Derived.Test.YtdpoebmahoipbaaNum6
namespace Go.Proofs.Ytdpoebmahoipbaa
open Go
namespace U8

theorem on_bit (S : BitVec 8) (j : Nat) (h : bitB S j = true) : ∀ n, j < n → n ≤ 8 → onB S n = true := by
  intro n
  induction n with
  | zero => intro h1; omega
  | succ n ih =>
    intro h1 h2
    rw [on_succ _ _ (by omega), Bool.or_eq_true]
    rcases Nat.lt_or_eq_of_le (Nat.le_of_lt_succ h1) with e | e
    · exact .inl (ih e (by omega))
    · subst e; exact .inr h
theorem bit_dec : ∀ x : BitVec 8, ∀ i : Nat, i < 8 → bitB x i = decide (x.toNat / 2 ^ i % 2 = 1) := by decide +kernel
theorem mod_eq {v u : BitVec 8} {n : Nat} (h : ∀ j, j < n → bitB v j = bitB u j) : v.toNat % 2 ^ n = u.toNat % 2 ^ n := by
  have e : v.setWidth n = u.setWidth n := by
    apply BitVec.eq_of_getLsbD_eq
    intro i hi
    rw [BitVec.getLsbD_setWidth, BitVec.getLsbD_setWidth]
    have := h i hi
    unfold bitB at this
    rw [this]
  have e' := congrArg BitVec.toNat e
  rw [BitVec.toNat_setWidth, BitVec.toNat_setWidth] at e'
  exact e'
theorem sum_bit {v u v' u' : BitVec 8} {b : Bool} {i : Nat} (hi : i < 8) (h1 : v.toNat % 2 ^ (i + 1) = v'.toNat % 2 ^ (i + 1)) (h2 : u.toNat % 2 ^ (i + 1) = u'.toNat % 2 ^ (i + 1)) : bitB (sumA v u b) i = bitB (sumA v' u' b) i := by
  rw [bit_dec _ _ hi, bit_dec _ _ hi]
  unfold sumA
  rw [BitVec.toNat_ofNat, BitVec.toNat_ofNat]
  have hb := Bool.toNat_lt b
  congr 1
  match i, hi with
  | 0, _ => simp at h1 h2 ⊢; omega
  | 1, _ => simp at h1 h2 ⊢; omega
  | 2, _ => simp at h1 h2 ⊢; omega
  | 3, _ => simp at h1 h2 ⊢; omega
  | 4, _ => simp at h1 h2 ⊢; omega
  | 5, _ => simp at h1 h2 ⊢; omega
  | 6, _ => simp at h1 h2 ⊢; omega
  | 7, _ => simp at h1 h2 ⊢; omega
theorem sec_bit (t s : BitVec 8) (c : Bool) (i : Nat) : bitB (secT t s c) i = (bitB t i || bitB s i || bitB (if c = true then 1#8 else 0#8) i) := by
  unfold secT bitB
  rw [BitVec.getLsbD_or, BitVec.getLsbD_or]
theorem sec_c (t s : BitVec 8) : bitB (secT t s true) 0 = true := by rw [sec_bit]; simp [bitB]
/-- Sums of bytes and bits that are the same but for secrets. -/
theorem like_sum {v v' u u' t s : BitVec 8} {b b' c : Bool} (hv : Like v v' t) (hu : Like u u' s) (hb : c = true ∨ b = b') : Like (sumA v u b) (sumA v' u' b') (spreadB (secT t s c)) := by
  intro i hi
  rw [spread_bit _ _ hi]
  cases e : onB (secT t s c) (i + 1) with
  | true => exact .inl rfl
  | false =>
    right
    have no : ∀ j, j < i + 1 → bitB (secT t s c) j = false := by
      intro j hj
      cases f : bitB (secT t s c) j with
      | false => rfl
      | true => rw [on_bit _ j f (i + 1) hj (by omega)] at e; cases e
    have hc : c = false := by
      cases c with
      | false => rfl
      | true => have h0 := no 0 (by omega); rw [sec_c] at h0; cases h0
    subst hc
    have hb' : b = b' := hb.resolve_left (by simp)
    subst hb'
    refine sum_bit hi (mod_eq fun j hj => ?_) (mod_eq fun j hj => ?_)
    · have h := no j hj
      rw [sec_bit, Bool.or_eq_false_iff, Bool.or_eq_false_iff] at h
      exact (hv j (by omega)).resolve_left (by rw [h.1.1]; simp)
    · have h := no j hj
      rw [sec_bit, Bool.or_eq_false_iff, Bool.or_eq_false_iff] at h
      exact (hu j (by omega)).resolve_left (by rw [h.1.2]; simp)
theorem like_0 {v v' : BitVec 8} (h : Like v v' 0#8) : v = v' := eq_bits fun i hi => (h i hi).resolve_left (by simp [bitB])
theorem any_no {t s : BitVec 8} {c e : Bool} (h : anyB t s c e = false) : t = 0#8 ∧ s = 0#8 ∧ c = false ∧ e = false := by
  unfold anyB nzB orTS at h
  rw [Bool.or_eq_false_iff, Bool.or_eq_false_iff, bne_eq_false_iff_eq] at h
  refine ⟨?_, ?_, h.1.2, h.2⟩ <;> refine eq_bits fun i hi => ?_ <;> have h3 := congrArg (fun x => bitB x i) h.1.1 <;> simp only [bitB, BitVec.getLsbD_or] at h3 ⊢ <;> revert h3 <;> cases t.getLsbD i <;> cases s.getLsbD i <;> simp
theorem sec_no0 {t s : BitVec 8} {c : Bool} (h : nzB (secT t s c) = false) : t = 0#8 ∧ s = 0#8 ∧ c = false := by
  unfold nzB at h
  rw [bne_eq_false_iff_eq] at h
  have hc : c = false := by
    cases c with
    | false => rfl
    | true => have h0 := sec_c t s; rw [h] at h0; simp [bitB] at h0
  refine ⟨?_, ?_, hc⟩ <;> refine eq_bits fun i hi => ?_ <;> have h3 := congrArg (fun x => bitB x i) h <;> rw [sec_bit] at h3 <;> revert h3 <;> simp only [bitB] <;> cases t.getLsbD i <;> cases s.getLsbD i <;> simp
def alikeB (v t u s : Bool) : Bool := t == s && (t || v == u)
theorem alike_of {v t u : Bool} (h : t = true ∨ v = u) : alikeB v t u t = true := by
  unfold alikeB
  rcases h with h | h
  · rw [h]; rfl
  · rw [h]; cases t <;> simp
/-- Sums that are the same but for secrets. -/
structure KeepS (r q : S10) : Prop where
  a : sameB r.A r.T q.A q.T = true
  n : alikeB r.n r.nt q.n q.nt = true
  v : alikeB r.v r.vt q.v q.vt = true
  z : alikeB r.z r.zt q.z q.zt = true
  c : alikeB r.c r.ct q.c q.ct = true
theorem hid_like (A A' : BitVec 8) : Like A A' (hidT true) := by
  intro i hi
  have h : ∀ i, i < 8 → bitB (hidT true) i = true := by decide
  exact .inl (h i hi)
theorem keep_hid {A A' : BitVec 8} {n n' v v' z z' c c' : Bool} (h : Bool) (hh : h = true ∨ (A = A' ∧ n = n' ∧ v = v' ∧ z = z' ∧ c = c')) : KeepS ⟨A, hidT h, n, h, v, h, z, h, c, h⟩ ⟨A', hidT h, n', h, v', h, z', h, c', h⟩ := by
  rcases hh with rfl | ⟨rfl, rfl, rfl, rfl, rfl⟩
  · exact ⟨same_of (hid_like _ _), alike_of (.inl rfl), alike_of (.inl rfl), alike_of (.inl rfl), alike_of (.inl rfl)⟩
  · exact ⟨same_of (fun i hi => .inr rfl), alike_of (.inr rfl), alike_of (.inr rfl), alike_of (.inr rfl), alike_of (.inr rfl)⟩
theorem keep_plain {v v' u u' t s : BitVec 8} {b b' c : Bool} (hv : Like v v' t) (hu : Like u u' s) (hb : c = true ∨ b = b') : KeepS (addS v t u s b c false false) (addS v' t u' s b' c false false) := by
  have hl := like_sum hv hu hb
  refine ⟨same_of hl, alike_of (hl 7 (by decide)), ?_, ?_, ?_⟩
  · refine alike_of ?_
    cases e : nzB (secT t s c) with
    | true => exact .inl e
    | false =>
      obtain ⟨rfl, rfl, rfl⟩ := sec_no0 e
      obtain rfl := like_0 hv; obtain rfl := like_0 hu; obtain rfl := hb.resolve_left (by simp)
      exact .inr rfl
  · show alikeB (zeroV (sumA v u b)) (zeroT (sumA v u b) (spreadB (secT t s c))) (zeroV (sumA v' u' b')) (zeroT (sumA v' u' b') (spreadB (secT t s c))) = true
    rw [← keep_zeroT hl]
    exact alike_of (keep_zeroV hl)
  · refine alike_of ?_
    cases e : nzB (secT t s c) with
    | true => exact .inl e
    | false =>
      obtain ⟨rfl, rfl, rfl⟩ := sec_no0 e
      obtain rfl := like_0 hv; obtain rfl := like_0 hu; obtain rfl := hb.resolve_left (by simp)
      exact .inr rfl
theorem any_e (t s : BitVec 8) (c : Bool) : anyB t s c true = true := by unfold anyB; simp
theorem keep_add {v v' u u' t s : BitVec 8} {b b' c d d' e : Bool} (hv : Like v v' t) (hu : Like u u' s) (hb : c = true ∨ b = b') (hd : e = true ∨ d = d') : KeepS (addS v t u s b c d e) (addS v' t u' s b' c d' e) := by
  cases e with
  | true => cases d <;> cases d' <;> exact keep_hid _ (.inl (any_e t s c))
  | false =>
    obtain rfl := hd.resolve_left (by simp)
    cases d with
    | false => exact keep_plain hv hu hb
    | true =>
      refine keep_hid _ ?_
      cases f : anyB t s c false with
      | true => exact .inl rfl
      | false =>
        obtain ⟨rfl, rfl, rfl, -⟩ := any_no f
        obtain rfl := like_0 hv; obtain rfl := like_0 hu; obtain rfl := hb.resolve_left (by simp)
        exact .inr ⟨rfl, rfl, rfl, rfl, rfl⟩
theorem like_cpl {u u' s : BitVec 8} (h : Like u u' s) : Like (cpl u) (cpl u') s := by
  intro i hi
  unfold cpl
  rw [bit_not _ _ hi, bit_not _ _ hi]
  rcases h i hi with e | e
  · exact .inl e
  · rw [e]; exact .inr rfl
theorem keep_sub {v v' u u' t s : BitVec 8} {b b' c d d' e : Bool} (hv : Like v v' t) (hu : Like u u' s) (hb : c = true ∨ b = b') (hd : e = true ∨ d = d') : KeepS (subS v t u s b c d e) (subS v' t u' s b' c d' e) := by
  cases e with
  | true => cases d <;> cases d' <;> exact keep_hid _ (.inl (any_e t s c))
  | false =>
    obtain rfl := hd.resolve_left (by simp)
    cases d with
    | false => exact keep_plain hv (like_cpl hu) hb
    | true =>
      refine keep_hid _ ?_
      cases f : anyB t s c false with
      | true => exact .inl rfl
      | false =>
        obtain ⟨rfl, rfl, rfl, -⟩ := any_no f
        obtain rfl := like_0 hv; obtain rfl := like_0 hu; obtain rfl := hb.resolve_left (by simp)
        exact .inr ⟨rfl, rfl, rfl, rfl, rfl⟩
theorem keep_cmp {v v' u u' t s : BitVec 8} (hv : Like v v' t) (hu : Like u u' s) : KeepS (cmpS v t u s) (cmpS v' t u' s) := by
  obtain ⟨h1, h2, -, h4, h5⟩ := keep_sub (b := true) (b' := true) (c := false) (d := false) (d' := false) (e := false) hv hu (.inr rfl) (.inr rfl)
  exact ⟨h1, h2, rfl, h4, h5⟩
theorem step_1 (v : BitVec 8) : stepA v 1 = sumA v 0#8 true := by
  unfold stepA sumA
  apply BitVec.eq_of_toNat_eq
  rw [BitVec.toNat_add, BitVec.toNat_ofNat]
  rfl
theorem sec_0 (t : BitVec 8) : secT t 0#8 false = t := by unfold secT; simp
theorem keep_step {v v' t : BitVec 8} (hv : Like v v' t) : sameB (stepA v 1) (spreadB t) (stepA v' 1) (spreadB t) = true := by
  have h := like_sum (u := 0#8) (u' := 0#8) (s := 0#8) (b := true) (b' := true) (c := false) hv (fun _ _ => .inr rfl) (.inr rfl)
  rw [sec_0] at h
  rw [step_1, step_1]
  exact same_of h

/-- Of one sum all that is secret is so of the other one, and the values are the same. -/
structure WithS (r q : S10) : Prop where
  T : Sub r.T q.T
  nt : r.nt = true → q.nt = true
  vt : r.vt = true → q.vt = true
  zt : r.zt = true → q.zt = true
  ct : r.ct = true → q.ct = true
  A : r.A = q.A
  n : r.n = q.n
  v : r.v = q.v
  z : r.z = q.z
  c : r.c = q.c
theorem sub_sec {t t1 s s1 : BitVec 8} {c c1 : Bool} (ht : Sub t1 t) (hs : Sub s1 s) (hc : c1 = true → c = true) : Sub (secT t1 s1 c1) (secT t s c) := by
  intro i hi
  rw [sec_bit, sec_bit, Bool.or_eq_true, Bool.or_eq_true, Bool.or_eq_true, Bool.or_eq_true]
  rintro ((h | h) | h)
  · exact .inl (.inl (ht i hi h))
  · exact .inl (.inr (hs i hi h))
  · right
    cases c1 with
    | false => simp [bitB] at h
    | true => rw [hc rfl]; exact h
theorem sub_spread {t t1 : BitVec 8} (h : Sub t1 t) : Sub (spreadB t1) (spreadB t) := by
  intro i hi
  rw [spread_bit _ _ hi, spread_bit _ _ hi]
  exact few_on h (i + 1) (by omega)
theorem sub_nz {t t1 : BitVec 8} (h : Sub t1 t) (hn : nzB t1 = true) : nzB t = true := by
  cases e : nzB t with
  | true => rfl
  | false =>
    unfold nzB at e hn
    rw [bne_eq_false_iff_eq] at e
    subst e
    have : t1 = 0#8 := eq_bits fun i hi => by
      cases f : bitB t1 i with
      | false => simp [bitB]
      | true => have := h i hi f; simp [bitB] at this
    subst this
    simp at hn
theorem sub_hid {h h' : Bool} (hh : h = true → h' = true) : Sub (hidT h) (hidT h') := by
  cases h with
  | false => intro i hi e; simp [hidT, bitB] at e
  | true => rw [hh rfl]; exact fun _ _ e => e
theorem sub_full (t : BitVec 8) : Sub t (hidT true) := by
  intro i hi _
  have h : ∀ i, i < 8 → bitB (hidT true) i = true := by decide
  exact h i hi
theorem any_up {t t1 s s1 : BitVec 8} {c c1 e e1 : Bool} (ht : Sub t1 t) (hs : Sub s1 s) (hc : c1 = true → c = true) (he : e1 = true → e = true) (h : anyB t1 s1 c1 e1 = true) : anyB t s c e = true := by
  unfold anyB at h ⊢
  rw [Bool.or_eq_true, Bool.or_eq_true] at h ⊢
  rcases h with (h | h) | h
  · refine .inl (.inl (sub_nz (t1 := orTS t1 s1) ?_ h))
    intro i hi
    unfold orTS
    simp only [bitB, BitVec.getLsbD_or, Bool.or_eq_true]
    rintro (e | e)
    · exact .inl (ht i hi e)
    · exact .inr (hs i hi e)
  · exact .inl (.inr (hc h))
  · exact .inr (he h)
theorem with_hid {A : BitVec 8} {n v z c : Bool} {h h' : Bool} (hh : h = true → h' = true) : WithS ⟨A, hidT h, n, h, v, h, z, h, c, h⟩ ⟨A, hidT h', n, h', v, h', z, h', c, h'⟩ :=
  ⟨sub_hid hh, hh, hh, hh, hh, rfl, rfl, rfl, rfl, rfl⟩
theorem few_add {v u t t1 s s1 : BitVec 8} {b c c1 d e e1 : Bool} (ht : Sub t1 t) (hs : Sub s1 s) (hc : c1 = true → c = true) (he : e1 = true → e = true) : WithS (addS v t1 u s1 b c1 d e1) (addS v t u s b c d e) := by
  have hS := sub_sec ht hs hc
  cases d with
  | true => exact with_hid (any_up ht hs hc he)
  | false =>
    cases e1 with
    | true =>
      obtain rfl := he rfl
      exact with_hid (any_up ht hs hc he)
    | false =>
      cases e with
      | false => exact ⟨sub_spread hS, sub_spread hS 7 (by decide), sub_nz hS, few_zero (sub_spread hS), sub_nz hS, rfl, rfl, rfl, rfl, rfl⟩
      | true =>
        have h := any_e t s c
        refine ⟨?_, fun _ => h, fun _ => h, fun _ => h, fun _ => h, rfl, rfl, rfl, rfl, rfl⟩
        show Sub _ (hidT (anyB t s c true))
        rw [h]; exact sub_full _
theorem few_sub {v u t t1 s s1 : BitVec 8} {b c c1 d e e1 : Bool} (ht : Sub t1 t) (hs : Sub s1 s) (hc : c1 = true → c = true) (he : e1 = true → e = true) : WithS (subS v t1 u s1 b c1 d e1) (subS v t u s b c d e) := by
  cases d with
  | true => exact with_hid (any_up ht hs hc he)
  | false =>
    have h := few_add (v := v) (u := cpl u) (b := b) (d := false) ht hs hc he
    cases e1 <;> cases e <;> exact h
theorem few_cmp {v u t t1 s s1 : BitVec 8} (ht : Sub t1 t) (hs : Sub s1 s) : WithS (cmpS v t1 u s1) (cmpS v t u s) := by
  obtain ⟨h1, h2, -, h4, h5, h6, h7, -, h9, h10⟩ := few_sub (v := v) (u := u) (b := true) (c := false) (c1 := false) (d := false) (e := false) (e1 := false) ht hs id id
  exact ⟨h1, h2, id, h4, h5, h6, h7, rfl, h9, h10⟩
end U8
end Go.Proofs.Ytdpoebmahoipbaa
