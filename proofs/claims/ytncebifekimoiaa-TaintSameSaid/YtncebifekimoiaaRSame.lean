/-
  Walks: what cochinealref01.Same returns.
-/
import Derived.Test.YtncebifekimoiaaRef
import Derived.Test.YtncebifekimoiaaMem2
namespace Go.Proofs.Ytncebifekimoiaa
open Go Go.RowKit

set_option maxHeartbeats 1000000 in
theorem rsame_any (v t u s : BitVec 8) (w : World) : Calls Try.prog 12 #[.agg #[.int .u8 (v.toNat : Int), .int .u8 (t.toNat : Int)], .agg #[.int .u8 (u.toNat : Int), .int .u8 (s.toNat : Int)]] w fun e w' =>
    e = .returned (.bool (U8.sameB v t u s)) ∧ Below w.heap.size w w' := by
  go_enter Try.func12, Try.ntmps12
  go_wp2_with fail
  go_loopw [5] (fun i wr => ∃ j : Nat, j ≤ 8 ∧ i = .int .i64 j ∧ (∀ n, n < j → U8.mayN v t n = U8.mayN u s n ∧ U8.mayY v t n = U8.mayY u s n) ∧ wr.cell? ⟨w.heap.size, 0, none⟩ = some (.int .u8 (v.toNat : Int)) ∧ wr.cell? ⟨w.heap.size, 1, none⟩ = some (.int .u8 (t.toNat : Int)) ∧ wr.cell? ⟨w.heap.size + 1, 0, none⟩ = some (.int .u8 (u.toNat : Int)) ∧ wr.cell? ⟨w.heap.size + 1, 1, none⟩ = some (.int .u8 (s.toNat : Int)) ∧ Below w.heap.size w wr) (fun i _ => 8 - (intOf i).toNat)
  case atStart => exact ⟨0, by omega, rfl, fun n hn => by omega, by simp [go_sem], by simp [go_sem], by simp [go_sem], by simp [go_sem], by exact Mem.balloc (Mem.balloc (Below.refl _ _) (Nat.le_refl _) _) (Nat.le_refl _) _⟩
  case round =>
    obtain ⟨j, hj, rfl, hall0, c0, c1, c2, c3, hb⟩ := hrel
    have hall : Hid (∀ n, n < j → U8.mayN v t n = U8.mayN u s n ∧ U8.mayY v t n = U8.mayY u s n) := hall0
    clear hall0
    have heq := eq_may
    by_cases hlt : j < 8
    · by_cases hm : U8.mayN v t j = U8.mayN u s j ∧ U8.mayY v t j = U8.mayY u s j
      · have hm2 : (U8.mayN v t j == U8.mayN u s j && U8.mayY v t j == U8.mayY u s j) = true := by rw [hm.1, hm.2, beq_self_eq_true, beq_self_eq_true]; rfl
        have HM := Mem.hide hm
        clear hm
        go_wp2_with fail
        go_region_held3 (fun w' => w'.cell? ⟨w.heap.size, 0, none⟩ = some (.int .u8 (v.toNat : Int)) ∧ w'.cell? ⟨w.heap.size, 1, none⟩ = some (.int .u8 (t.toNat : Int)) ∧ w'.cell? ⟨w.heap.size + 1, 0, none⟩ = some (.int .u8 (u.toNat : Int)) ∧ w'.cell? ⟨w.heap.size + 1, 1, none⟩ = some (.int .u8 (s.toNat : Int)) ∧ Below w.heap.size w w') ((go_split_ands; (repeat' with_reducible apply And.intro) <;> first | with_reducible assumption | (simp [go_sem]; done) | (with_reducible refine Mem.vof ?_; simp [go_sem]; done) | (repeat (first | with_reducible assumption | with_reducible exact Below.refl _ _ | with_reducible refine Mem.vdrew ?_ | with_reducible refine Mem.valloc _ ?_ | with_reducible refine Mem.vbelow ‹_› ?_ | with_reducible refine Mem.vset ?_ | with_reducible refine Mem.cdrew ?_ | with_reducible refine Mem.calloc _ ?_ | with_reducible refine Mem.bdrew ?_ | with_reducible refine Mem.cbelow ‹_› ?_ | with_reducible refine Mem.zdrew ?_ | with_reducible refine Mem.zalloc _ ?_ ?_ | with_reducible refine Mem.zbelow ‹_› ?_ ?_ | with_reducible refine Mem.zset ?_ | (with_reducible refine Mem.cset ?_ ?_; rotate_left; focus (first | (simp; done) | (simp; omega))) | (with_reducible refine Mem.balloc ?_ ?_ _; rotate_left; focus (first | (simp; done) | (simp; omega))) | (with_reducible refine Mem.bset ?_ ?_ _; rotate_left; focus (first | (simp; done) | (simp; omega))) | (with_reducible refine Mem.bbelow ?_ ?_ ‹_›; rotate_left; focus (first | (simp; done) | (simp; omega)))))))
    (first | (go_at_call 35; refine (may_any _ _ _ hlt _).mono ?_; rintro e w' ⟨rfl, hbb⟩))
        go_split_ands
        go_wp2
        go_roundw
        case rel => exact ⟨j + 1, by omega, by go_num, Mem.snoc hall.out HM.out, by assumption, by assumption, by assumption, by assumption, by assumption⟩
        case measure => simp [intOf]; omega
      · have hm2 : (U8.mayN v t j == U8.mayN u s j && U8.mayY v t j == U8.mayY u s j) = false := by
          rw [Bool.and_eq_false_iff, beq_eq_false_iff_ne, beq_eq_false_iff_ne]
          by_cases h1 : U8.mayN v t j = U8.mayN u s j
          · exact .inr fun h2 => hm ⟨h1, h2⟩
          · exact .inl h1
        have HM := Mem.hide (U8.may_same v t u s j hlt (by
          by_cases h1 : U8.mayN v t j = U8.mayN u s j
          · exact .inr fun h2 => hm ⟨h1, h2⟩
          · exact .inl h1))
        clear hm
        go_wp2_with fail
        go_region_held3 (fun w' => w'.cell? ⟨w.heap.size, 0, none⟩ = some (.int .u8 (v.toNat : Int)) ∧ w'.cell? ⟨w.heap.size, 1, none⟩ = some (.int .u8 (t.toNat : Int)) ∧ w'.cell? ⟨w.heap.size + 1, 0, none⟩ = some (.int .u8 (u.toNat : Int)) ∧ w'.cell? ⟨w.heap.size + 1, 1, none⟩ = some (.int .u8 (s.toNat : Int)) ∧ Below w.heap.size w w') ((go_split_ands; (repeat' with_reducible apply And.intro) <;> first | with_reducible assumption | (simp [go_sem]; done) | (with_reducible refine Mem.vof ?_; simp [go_sem]; done) | (repeat (first | with_reducible assumption | with_reducible exact Below.refl _ _ | with_reducible refine Mem.vdrew ?_ | with_reducible refine Mem.valloc _ ?_ | with_reducible refine Mem.vbelow ‹_› ?_ | with_reducible refine Mem.vset ?_ | with_reducible refine Mem.cdrew ?_ | with_reducible refine Mem.calloc _ ?_ | with_reducible refine Mem.bdrew ?_ | with_reducible refine Mem.cbelow ‹_› ?_ | with_reducible refine Mem.zdrew ?_ | with_reducible refine Mem.zalloc _ ?_ ?_ | with_reducible refine Mem.zbelow ‹_› ?_ ?_ | with_reducible refine Mem.zset ?_ | (with_reducible refine Mem.cset ?_ ?_; rotate_left; focus (first | (simp; done) | (simp; omega))) | (with_reducible refine Mem.balloc ?_ ?_ _; rotate_left; focus (first | (simp; done) | (simp; omega))) | (with_reducible refine Mem.bset ?_ ?_ _; rotate_left; focus (first | (simp; done) | (simp; omega))) | (with_reducible refine Mem.bbelow ?_ ?_ ‹_›; rotate_left; focus (first | (simp; done) | (simp; omega)))))))
    (first | (go_at_call 35; refine (may_any _ _ _ hlt _).mono ?_; rintro e w' ⟨rfl, hbb⟩))
        go_split_ands
        go_wp2
        go_ret
        exact ⟨by rw [HM.out]; rfl, by assumption⟩
    · go_wp2
      go_ret
      exact ⟨by rw [U8.same_may _ _ _ _ (fun n hn => hall.out n (by omega))]; rfl, hb⟩
end Go.Proofs.Ytncebifekimoiaa
