/-
  Walks: cochineallaw01.TaintSame returns true, whatever the two bytes and the number.
-/
import Derived.Test.YtncebifekimoiaaAwake
import Derived.Test.YtncebifekimoiaaRSame
namespace Go.Proofs.Ytncebifekimoiaa
open Go Go.RowKit

theorem tmod_cases (n : Int) : (0 ≤ n ∧ n.tmod 256 = n % 256) ∨ (n ≤ 0 ∧ n.tmod 256 = -((-n) % 256)) := by
  rcases Int.le_total 0 n with h | h
  · exact .inl ⟨h, Int.tmod_eq_emod_of_nonneg h⟩
  · refine .inr ⟨h, ?_⟩
    have e : n = -(-n) := by omega
    conv => lhs; rw [e]
    rw [Int.neg_tmod, Int.tmod_eq_emod_of_nonneg (by omega)]
theorem mod_bd (n : Int) : -255 ≤ n.tmod 256 ∧ n.tmod 256 ≤ 255 := by
  rcases tmod_cases n with ⟨h, e⟩ | ⟨h, e⟩ <;> rw [e] <;> omega
theorem mod_neg {n : Int} (h : n.tmod 256 < 0) : IntKind.u8.wrap (n.tmod 256 + 256) = n % 256 := by
  rw [IntKind.wrap_u8']
  rcases tmod_cases n with ⟨h1, e⟩ | ⟨h1, e⟩ <;> rw [e] at h ⊢ <;> omega
theorem mod_pos {n : Int} (h : ¬ n.tmod 256 < 0) : IntKind.u8.wrap (n.tmod 256) = n % 256 := by
  rw [IntKind.wrap_u8']
  rcases tmod_cases n with ⟨h1, e⟩ | ⟨h1, e⟩ <;> rw [e] at h ⊢ <;> omega

set_option maxHeartbeats 1000000 in
theorem lsame_any (v t u s : BitVec 8) (n : Int) (w : World) : Calls Try.prog 3 #[.agg #[.int .u8 (v.toNat : Int), .int .u8 (t.toNat : Int)], .agg #[.int .u8 (u.toNat : Int), .int .u8 (s.toNat : Int)], .int .i64 n] w fun e w' =>
    e = .returned (.bool true) ∧ Below w.heap.size w w' := by
  have hr := U8.same_refl v t
  obtain ⟨hb1, hb2⟩ := mod_bd n
  by_cases h : n.tmod 256 < 0
  · have hm := mod_neg h
    go_enter Try.func3, Try.ntmps3
    go_wp2_with fail
    go_region_held3 (fun w' => w'.cell? ⟨w.heap.size, 0, none⟩ = some (.int .u8 (v.toNat : Int)) ∧ w'.cell? ⟨w.heap.size, 1, none⟩ = some (.int .u8 (t.toNat : Int)) ∧ w'.cell? ⟨w.heap.size + 1, 0, none⟩ = some (.int .u8 (u.toNat : Int)) ∧ w'.cell? ⟨w.heap.size + 1, 1, none⟩ = some (.int .u8 (s.toNat : Int)) ∧ Below w.heap.size w w') ((go_split_ands; (repeat' with_reducible apply And.intro) <;> first | with_reducible assumption | (simp [go_sem]; done) | (with_reducible refine Mem.vof ?_; simp [go_sem]; done) | (repeat (first | with_reducible assumption | with_reducible exact Below.refl _ _ | with_reducible refine Mem.vdrew ?_ | with_reducible refine Mem.valloc _ ?_ | with_reducible refine Mem.vbelow ‹_› ?_ | with_reducible refine Mem.vset ?_ | with_reducible refine Mem.cdrew ?_ | with_reducible refine Mem.calloc _ ?_ | with_reducible refine Mem.bdrew ?_ | with_reducible refine Mem.cbelow ‹_› ?_ | with_reducible refine Mem.zdrew ?_ | with_reducible refine Mem.zalloc _ ?_ ?_ | with_reducible refine Mem.zbelow ‹_› ?_ ?_ | with_reducible refine Mem.zset ?_ | (with_reducible refine Mem.cset ?_ ?_; rotate_left; focus (first | (simp; done) | (simp; omega))) | (with_reducible refine Mem.balloc ?_ ?_ _; rotate_left; focus (first | (simp; done) | (simp; omega))) | (with_reducible refine Mem.bset ?_ ?_ _; rotate_left; focus (first | (simp; done) | (simp; omega))) | (with_reducible refine Mem.bbelow ?_ ?_ ‹_›; rotate_left; focus (first | (simp; done) | (simp; omega)))))))
    (first | (go_at_call 11; refine (same_any _ _ _ _ _).mono ?_; rintro e w' ⟨rfl, hbb⟩) | (go_at_call 12; refine (rsame_any _ _ _ _ _).mono ?_; rintro e w' ⟨rfl, hbb⟩) | (go_at_call 13; refine (of_any _ _).mono ?_; rintro e w' ⟨rfl, hbb⟩) | (go_at_call 14; refine (awake_any _).mono ?_; rintro e w' ⟨rfl, hbb⟩))
    go_wp2
    go_split_ands
    go_ret
    exact ⟨rfl, by assumption⟩
  · have hm := mod_pos h
    go_enter Try.func3, Try.ntmps3
    go_wp2_with fail
    go_region_held3 (fun w' => w'.cell? ⟨w.heap.size, 0, none⟩ = some (.int .u8 (v.toNat : Int)) ∧ w'.cell? ⟨w.heap.size, 1, none⟩ = some (.int .u8 (t.toNat : Int)) ∧ w'.cell? ⟨w.heap.size + 1, 0, none⟩ = some (.int .u8 (u.toNat : Int)) ∧ w'.cell? ⟨w.heap.size + 1, 1, none⟩ = some (.int .u8 (s.toNat : Int)) ∧ Below w.heap.size w w') ((go_split_ands; (repeat' with_reducible apply And.intro) <;> first | with_reducible assumption | (simp [go_sem]; done) | (with_reducible refine Mem.vof ?_; simp [go_sem]; done) | (repeat (first | with_reducible assumption | with_reducible exact Below.refl _ _ | with_reducible refine Mem.vdrew ?_ | with_reducible refine Mem.valloc _ ?_ | with_reducible refine Mem.vbelow ‹_› ?_ | with_reducible refine Mem.vset ?_ | with_reducible refine Mem.cdrew ?_ | with_reducible refine Mem.calloc _ ?_ | with_reducible refine Mem.bdrew ?_ | with_reducible refine Mem.cbelow ‹_› ?_ | with_reducible refine Mem.zdrew ?_ | with_reducible refine Mem.zalloc _ ?_ ?_ | with_reducible refine Mem.zbelow ‹_› ?_ ?_ | with_reducible refine Mem.zset ?_ | (with_reducible refine Mem.cset ?_ ?_; rotate_left; focus (first | (simp; done) | (simp; omega))) | (with_reducible refine Mem.balloc ?_ ?_ _; rotate_left; focus (first | (simp; done) | (simp; omega))) | (with_reducible refine Mem.bset ?_ ?_ _; rotate_left; focus (first | (simp; done) | (simp; omega))) | (with_reducible refine Mem.bbelow ?_ ?_ ‹_›; rotate_left; focus (first | (simp; done) | (simp; omega)))))))
    (first | (go_at_call 11; refine (same_any _ _ _ _ _).mono ?_; rintro e w' ⟨rfl, hbb⟩) | (go_at_call 12; refine (rsame_any _ _ _ _ _).mono ?_; rintro e w' ⟨rfl, hbb⟩) | (go_at_call 13; refine (of_any _ _).mono ?_; rintro e w' ⟨rfl, hbb⟩) | (go_at_call 14; refine (awake_any _).mono ?_; rintro e w' ⟨rfl, hbb⟩))
    go_wp2
    go_split_ands
    go_ret
    exact ⟨rfl, by assumption⟩
theorem lsame (v t u s : BitVec 8) (n : Int) (_h : -9223372036854775808 ≤ n) (_h' : n ≤ 9223372036854775807) (w : World) : Calls Try.prog 3 #[.agg #[.int .u8 (v.toNat : Int), .int .u8 (t.toNat : Int)], .agg #[.int .u8 (u.toNat : Int), .int .u8 (s.toNat : Int)], .int .i64 n] w fun e w' =>
    e = .returned (.bool true) ∧ Below w.heap.size w w' := lsame_any v t u s n w
end Go.Proofs.Ytncebifekimoiaa
