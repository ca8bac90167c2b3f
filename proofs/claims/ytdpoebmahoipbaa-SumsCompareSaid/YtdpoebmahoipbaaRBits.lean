/-
  Walks: what the functions of package cochinealref01 that turn bits return (Spread, Zero, Bits, Made).
-/
import Derived.Test.YtdpoebmahoipbaaRef
import Derived.Test.YtdpoebmahoipbaaMem3
import Derived.Test.YtdpoebmahoipbaaNum3
namespace Go.Proofs.Ytdpoebmahoipbaa
open Go Go.RowKit

set_option maxHeartbeats 2000000 in
theorem rspread_any (t : BitVec 8) (w : World) : Calls Try.prog 42 #[.int .i64 (t.toNat : Int)] w fun e w' =>
    e = .returned (.int .i64 ((U8.spreadB t).toNat : Int)) ∧ w = w' := by
  go_enter Try.func42, Try.ntmps42
  go_wp2_with fail
  go_loop [3, 4, 5] (fun o b i => ∃ j : Nat, j ≤ 8 ∧ i = .int .i64 j ∧ o = .int .i64 (U8.low (U8.spreadB t) j) ∧ b = .bool (U8.onB t j)) (fun _ _ i => 8 - (intOf i).toNat)
  case atStart => exact ⟨0, by omega, rfl, by rw [U8.low_zero], by rw [U8.onB, Nat.pow_zero, Nat.mod_one]; rfl⟩
  case round =>
    obtain ⟨j, hj, rfl, rfl, rfl⟩ := hrel
    obtain ⟨hb1, hb2⟩ := U8.low_bd (U8.spreadB t) j
    by_cases hlt : j < 8
    · obtain ⟨hp1, hp2⟩ := U8.pw_bd j (by omega)
      have HO := Mem.hide (U8.on_succ t j hlt)
      have HS := Mem.hide (U8.spread_succ t j hlt)
      cases h1 : U8.onB t j <;> cases h2 : U8.bitB t j <;> rw [h1, h2] at HO <;> rw [h1, h2] at HS
      all_goals
        go_wp2_with (first | (go_at_call 50; refine (has_any _ _ hlt _).mono ?_; rintro e w' ⟨rfl, rfl⟩) | (go_at_call 51; refine (pow_any _ hlt _).mono ?_; rintro e w' ⟨rfl, rfl⟩))
        go_round
        case rel => exact ⟨j + 1, by omega, by go_num, by rw [HS.out]; simp, by rw [HO.out]; simp⟩
        case measure => simp [intOf]; omega
    · have e : j = 8 := by omega
      subst e
      have e1 := U8.low_eight (U8.spreadB t)
      go_wp2
      go_ret
      exact ⟨rfl, rfl⟩
set_option maxHeartbeats 2000000 in
theorem rzero_any (v t : BitVec 8) (w : World) : Calls Try.prog 48 #[.agg #[.int .u8 (v.toNat : Int), .int .u8 (t.toNat : Int)]] w fun e w' =>
    e = .returned (.agg #[.bool (U8.zeroV v), .bool (U8.zeroT v t)]) ∧ Below w.heap.size w w' := by
  go_enter Try.func48, Try.ntmps48
  go_wp2_with fail
  go_loopw [3, 4, 5, 6] (fun a b c i wr => ∃ j : Nat, j ≤ 8 ∧ i = .int .i64 j ∧ a = .bool (U8.noTo v t j) ∧ b = .bool (U8.yesTo v t j) ∧ c = .bool (U8.allTo v j) ∧ wr.cell? ⟨w.heap.size, 0, none⟩ = some (.int .u8 (v.toNat : Int)) ∧ wr.cell? ⟨w.heap.size, 1, none⟩ = some (.int .u8 (t.toNat : Int)) ∧ wr.cell? ⟨w.heap.size + 1, 0, none⟩ = some (Mem.val wr ⟨w.heap.size + 1, 0, none⟩) ∧ wr.cell? ⟨w.heap.size + 1, 1, none⟩ = some (Mem.val wr ⟨w.heap.size + 1, 1, none⟩) ∧ wr.frozen? ⟨w.heap.size + 1, 0, none⟩ = false ∧ wr.frozen? ⟨w.heap.size + 1, 1, none⟩ = false ∧ Below w.heap.size w wr) (fun _ _ _ i _ => 8 - (intOf i).toNat)
  case atStart =>
    refine ⟨0, by omega, rfl, rfl, rfl, rfl, ?_⟩
    (go_split_ands; (repeat' with_reducible apply And.intro) <;> first | with_reducible assumption | (simp [go_sem]; done) | (with_reducible refine Mem.vof ?_; simp [go_sem]; done) | (repeat (first | with_reducible assumption | with_reducible exact Below.refl _ _ | with_reducible refine Mem.vdrew ?_ | with_reducible refine Mem.valloc _ ?_ | with_reducible refine Mem.vbelow ‹_› ?_ | with_reducible refine Mem.vset ?_ | with_reducible refine Mem.cdrew ?_ | with_reducible refine Mem.calloc _ ?_ | with_reducible refine Mem.bdrew ?_ | with_reducible refine Mem.cbelow ‹_› ?_ | with_reducible refine Mem.zdrew ?_ | with_reducible refine Mem.zalloc _ ?_ ?_ | with_reducible refine Mem.zbelow ‹_› ?_ ?_ | with_reducible refine Mem.zset ?_ | (with_reducible refine Mem.cset ?_ ?_; rotate_left; focus (first | (simp; done) | (simp; omega))) | (with_reducible refine Mem.balloc ?_ ?_ _; rotate_left; focus (first | (simp; done) | (simp; omega))) | (with_reducible refine Mem.bset ?_ ?_ _; rotate_left; focus (first | (simp; done) | (simp; omega))) | (with_reducible refine Mem.bbelow ?_ ?_ ‹_›; rotate_left; focus (first | (simp; done) | (simp; omega))))))
  case round =>
    obtain ⟨j, hj, rfl, rfl, rfl, rfl, hS⟩ := hrel
    go_split_ands
    have hz0 : w.heap.size < wr.heap.size := Mem.clt (a := ⟨w.heap.size, 0, none⟩) ‹_›
    have hz1 : w.heap.size + 1 < wr.heap.size := Mem.clt (a := ⟨w.heap.size + 1, 0, none⟩) ‹_›
    by_cases hlt : j < 8
    · have H1 := Mem.hide (U8.noTo_succ v t j)
      have H2 := Mem.hide (U8.yesTo_succ v t j)
      have H3 := Mem.hide (U8.allTo_succ v j)
      cases h1 : U8.noTo v t j <;> cases h2 : U8.yesTo v t j <;> cases h3 : U8.allTo v j <;> cases h4 : U8.bitB v j <;> rw [h1] at H1 <;> rw [h2] at H2 <;> rw [h3, h4] at H3
      all_goals
        go_wp2_with fail
        refine (may_any _ _ _ hlt _).mono ?_
        rintro e w1 ⟨rfl, hb⟩
        have hS : w1.cell? ⟨w.heap.size, 0, none⟩ = some (.int .u8 (v.toNat : Int)) ∧ w1.cell? ⟨w.heap.size, 1, none⟩ = some (.int .u8 (t.toNat : Int)) ∧ w1.cell? ⟨w.heap.size + 1, 0, none⟩ = some (Mem.val w1 ⟨w.heap.size + 1, 0, none⟩) ∧ w1.cell? ⟨w.heap.size + 1, 1, none⟩ = some (Mem.val w1 ⟨w.heap.size + 1, 1, none⟩) ∧ w1.frozen? ⟨w.heap.size + 1, 0, none⟩ = false ∧ w1.frozen? ⟨w.heap.size + 1, 1, none⟩ = false ∧ Below w.heap.size w w1 := by
          (repeat' with_reducible apply And.intro) <;> first | with_reducible assumption | (with_reducible refine Mem.cbelow ‹_› ?_; simp [go_sem]; done) | (with_reducible refine Mem.cbelow ‹_› ?_; simp [go_sem, *]; done) | (with_reducible refine Mem.vbelow ‹_› (Mem.vof ?_); simp [go_sem]; done) | ((with_reducible refine Mem.zbelow ‹_› (Mem.vof ?_) ?_) <;> (simp [go_sem]; done)) | (repeat (first | with_reducible assumption | with_reducible exact Below.refl _ _ | with_reducible refine Mem.vdrew ?_ | with_reducible refine Mem.valloc _ ?_ | with_reducible refine Mem.vbelow ‹_› ?_ | with_reducible refine Mem.vset ?_ | with_reducible refine Mem.cdrew ?_ | with_reducible refine Mem.calloc _ ?_ | with_reducible refine Mem.bdrew ?_ | with_reducible refine Mem.cbelow ‹_› ?_ | with_reducible refine Mem.zdrew ?_ | with_reducible refine Mem.zalloc _ ?_ ?_ | with_reducible refine Mem.zbelow ‹_› ?_ ?_ | with_reducible refine Mem.zset ?_ | (with_reducible refine Mem.cset ?_ ?_; rotate_left; focus (first | (simp; done) | (simp; omega))) | (with_reducible refine Mem.balloc ?_ ?_ _; rotate_left; focus (first | (simp; done) | (simp; omega))) | (with_reducible refine Mem.bset ?_ ?_ _; rotate_left; focus (first | (simp; done) | (simp; omega))) | (with_reducible refine Mem.bbelow ?_ ?_ ‹_›; rotate_left; focus (first | (simp; done) | (simp; omega)))))
        go_split_ands
        have hzw10 : w.heap.size < w1.heap.size := Mem.clt (a := ⟨w.heap.size, 0, none⟩) ‹_›
        have hzw11 : w.heap.size + 1 < w1.heap.size := Mem.clt (a := ⟨w.heap.size + 1, 0, none⟩) ‹_›
        clear hb
        cases h5 : U8.mayN v t j <;> cases h6 : U8.mayY v t j <;> rw [h5] at H1 <;> rw [h6] at H2
        all_goals
          go_wp2_with (go_at_call 50; refine (has_any _ _ hlt _).mono ?_; rintro e w' ⟨rfl, rfl⟩)
          go_roundw
          case rel =>
            refine ⟨j + 1, by omega, by go_num, by rw [H1.out]; simp, by rw [H2.out]; simp, by rw [H3.out]; simp, ?_⟩
            (go_split_ands; (repeat' with_reducible apply And.intro) <;> first | with_reducible assumption | (simp [go_sem]; done) | (with_reducible refine Mem.vof ?_; simp [go_sem]; done) | (repeat (first | with_reducible assumption | with_reducible exact Below.refl _ _ | with_reducible refine Mem.vdrew ?_ | with_reducible refine Mem.valloc _ ?_ | with_reducible refine Mem.vbelow ‹_› ?_ | with_reducible refine Mem.vset ?_ | with_reducible refine Mem.cdrew ?_ | with_reducible refine Mem.calloc _ ?_ | with_reducible refine Mem.bdrew ?_ | with_reducible refine Mem.cbelow ‹_› ?_ | with_reducible refine Mem.zdrew ?_ | with_reducible refine Mem.zalloc _ ?_ ?_ | with_reducible refine Mem.zbelow ‹_› ?_ ?_ | with_reducible refine Mem.zset ?_ | (with_reducible refine Mem.cset ?_ ?_; rotate_left; focus (first | (simp; done) | (simp; omega))) | (with_reducible refine Mem.balloc ?_ ?_ _; rotate_left; focus (first | (simp; done) | (simp; omega))) | (with_reducible refine Mem.bset ?_ ?_ _; rotate_left; focus (first | (simp; done) | (simp; omega))) | (with_reducible refine Mem.bbelow ?_ ?_ ‹_›; rotate_left; focus (first | (simp; done) | (simp; omega))))))
          case measure => simp [intOf]; omega
    · have e : j = 8 := by omega
      subst e
      have e1 := U8.allTo_eight v
      have HZ := Mem.hide (U8.zeroT_to v t)
      cases h1 : U8.noTo v t 8 <;> cases h2 : U8.yesTo v t 8 <;> rw [h1, h2] at HZ
      all_goals
        go_wp2
        obtain ⟨g0, g1⟩ := Mem.two_set (W := wr) (g := w.heap.size + 1) (x := .bool (U8.zeroV v)) (y := .bool (U8.zeroT v t)) (Mem.vis ‹_›) (Mem.vis ‹_›)
        rw [HZ.out] at g0 g1
        rw [HZ.out]
        simp only [Bool.and_true, Bool.and_false] at g0 g1 ⊢
        refine bodyPost_ret (v := .agg #[.bool (U8.zeroV v), .bool _]) (by simp [results, Try.results48, go_sem, g0, g1]) rfl ⟨rfl, ?_⟩
        (repeat (first | with_reducible assumption | with_reducible exact Below.refl _ _ | with_reducible refine Mem.vdrew ?_ | with_reducible refine Mem.valloc _ ?_ | with_reducible refine Mem.vbelow ‹_› ?_ | with_reducible refine Mem.vset ?_ | with_reducible refine Mem.cdrew ?_ | with_reducible refine Mem.calloc _ ?_ | with_reducible refine Mem.bdrew ?_ | with_reducible refine Mem.cbelow ‹_› ?_ | with_reducible refine Mem.zdrew ?_ | with_reducible refine Mem.zalloc _ ?_ ?_ | with_reducible refine Mem.zbelow ‹_› ?_ ?_ | with_reducible refine Mem.zset ?_ | (with_reducible refine Mem.cset ?_ ?_; rotate_left; focus (first | (simp; done) | (simp; omega))) | (with_reducible refine Mem.balloc ?_ ?_ _; rotate_left; focus (first | (simp; done) | (simp; omega))) | (with_reducible refine Mem.bset ?_ ?_ _; rotate_left; focus (first | (simp; done) | (simp; omega))) | (with_reducible refine Mem.bbelow ?_ ?_ ‹_›; rotate_left; focus (first | (simp; done) | (simp; omega)))))
end Go.Proofs.Ytdpoebmahoipbaa
