/-
  Walks: what the functions of package cochinealref01 that turn bits return (Spread, Zero, Bits, Made).
-/
import Derived.Test.YtodfgcbgiaboiaaDoorRef
import Derived.Test.YtodfgcbgiaboiaaDoorMem3
import Derived.Test.YtodfgcbgiaboiaaDoorNum3
namespace Go.Proofs.YtodfgcbgiaboiaaDoor
open Go Go.RowKit

set_option maxHeartbeats 2000000 in
theorem rzero_any (v t : BitVec 8) (w : World) : Calls Tryd.prog 33 #[.agg #[.int .u8 (v.toNat : Int), .int .u8 (t.toNat : Int)]] w fun e w' =>
    e = .returned (.agg #[.bool (U8.zeroV v), .bool (U8.zeroT v t)]) ∧ Below w.heap.size w w' := by
  go_enter Tryd.func33, Tryd.ntmps33
  go_wp2_with fail
  go_loopw [3, 4, 5, 6] (fun a b c i wr => ∃ j : Nat, j ≤ 8 ∧ i = .int .i64 j ∧ a = .bool (U8.noTo v t j) ∧ b = .bool (U8.yesTo v t j) ∧ c = .bool (U8.allTo v j) ∧ wr.cell? ⟨w.heap.size, 0, none⟩ = some (.int .u8 (v.toNat : Int)) ∧ wr.cell? ⟨w.heap.size, 1, none⟩ = some (.int .u8 (t.toNat : Int)) ∧ wr.cell? ⟨w.heap.size + 1, 0, none⟩ = some (Mem.val wr ⟨w.heap.size + 1, 0, none⟩) ∧ wr.cell? ⟨w.heap.size + 1, 1, none⟩ = some (Mem.val wr ⟨w.heap.size + 1, 1, none⟩) ∧ wr.frozen? ⟨w.heap.size + 1, 0, none⟩ = false ∧ wr.frozen? ⟨w.heap.size + 1, 1, none⟩ = false ∧ Below w.heap.size w wr) (fun _ _ _ i _ => 8 - (intOf i).toNat)
  case atStart =>
    refine ⟨0, by omega, rfl, rfl, rfl, rfl, ?_⟩
    (go_split_ands; (repeat' with_reducible apply And.intro) <;> first | with_reducible assumption | (simp [go_sem]; done) | (with_reducible refine Mem.vof ?_; simp [go_sem]; done) | (repeat (first | with_reducible assumption | with_reducible exact Below.refl _ _ | with_reducible refine Mem.vdrew ?_ | with_reducible refine Mem.valloc _ ?_ | with_reducible refine Mem.vbelow ‹_› ?_ | with_reducible refine Mem.vset ?_ | with_reducible refine Mem.cdrew ?_ | with_reducible refine Mem.calloc _ ?_ | with_reducible refine Mem.bdrew ?_ | with_reducible refine Mem.cbelow ‹_› ?_ | with_reducible refine Mem.zdrew ?_ | with_reducible refine Mem.zalloc _ ?_ ?_ | with_reducible refine Mem.zbelow ‹_› ?_ ?_ | with_reducible refine Mem.zset ?_ | (with_reducible refine Mem.cset ?_ ?_; rotate_left; focus (first | (simp; done) | (simp; omega))) | (with_reducible refine Mem.balloc ?_ ?_ _; rotate_left; focus (first | (simp; done) | (simp; omega))) | (with_reducible refine Mem.bset ?_ ?_ _; rotate_left; focus (first | (simp; done) | (simp; omega))) | (with_reducible refine Mem.bbelow ?_ ?_ ‹_›; rotate_left; focus (first | (simp; done) | (simp; omega))))))
  case round =>
    obtain ⟨j, hj, rfl, rfl, rfl, rfl, hS⟩ := hrel
    go_split_ands
    have hz0 : w.heap.size < wr.heap.size := Mem.clt (a := ⟨w.heap.size, 0, none⟩) ‹_›
    have hz1 : w.heap.size + 1 < wr.heap.size := Mem.clt (a := ⟨w.heap.size + 1, 0, none⟩) ‹_›
    by_cases hlt : j < 8
    · have H1 := Mem.hide (U8.noTo_succ v t j)
      have H2 := Mem.hide (U8.yesTo_succ v t j)
      have H3 := Mem.hide (U8.allTo_succ v j)
      cases h1 : U8.noTo v t j <;> cases h2 : U8.yesTo v t j <;> cases h3 : U8.allTo v j <;> cases h4 : U8.bitB v j <;> rw [h1] at H1 <;> rw [h2] at H2 <;> rw [h3, h4] at H3
      all_goals
        go_wp2_with fail
        refine (may_any _ _ _ hlt _).mono ?_
        rintro e w1 ⟨rfl, hb⟩
        have hS : w1.cell? ⟨w.heap.size, 0, none⟩ = some (.int .u8 (v.toNat : Int)) ∧ w1.cell? ⟨w.heap.size, 1, none⟩ = some (.int .u8 (t.toNat : Int)) ∧ w1.cell? ⟨w.heap.size + 1, 0, none⟩ = some (Mem.val w1 ⟨w.heap.size + 1, 0, none⟩) ∧ w1.cell? ⟨w.heap.size + 1, 1, none⟩ = some (Mem.val w1 ⟨w.heap.size + 1, 1, none⟩) ∧ w1.frozen? ⟨w.heap.size + 1, 0, none⟩ = false ∧ w1.frozen? ⟨w.heap.size + 1, 1, none⟩ = false ∧ Below w.heap.size w w1 := by
          (repeat' with_reducible apply And.intro) <;> first | with_reducible assumption | (with_reducible refine Mem.cbelow ‹_› ?_; simp [go_sem]; done) | (with_reducible refine Mem.cbelow ‹_› ?_; simp [go_sem, *]; done) | (with_reducible refine Mem.vbelow ‹_› (Mem.vof ?_); simp [go_sem]; done) | ((with_reducible refine Mem.zbelow ‹_› (Mem.vof ?_) ?_) <;> (simp [go_sem]; done)) | (repeat (first | with_reducible assumption | with_reducible exact Below.refl _ _ | with_reducible refine Mem.vdrew ?_ | with_reducible refine Mem.valloc _ ?_ | with_reducible refine Mem.vbelow ‹_› ?_ | with_reducible refine Mem.vset ?_ | with_reducible refine Mem.cdrew ?_ | with_reducible refine Mem.calloc _ ?_ | with_reducible refine Mem.bdrew ?_ | with_reducible refine Mem.cbelow ‹_› ?_ | with_reducible refine Mem.zdrew ?_ | with_reducible refine Mem.zalloc _ ?_ ?_ | with_reducible refine Mem.zbelow ‹_› ?_ ?_ | with_reducible refine Mem.zset ?_ | (with_reducible refine Mem.cset ?_ ?_; rotate_left; focus (first | (simp; done) | (simp; omega))) | (with_reducible refine Mem.balloc ?_ ?_ _; rotate_left; focus (first | (simp; done) | (simp; omega))) | (with_reducible refine Mem.bset ?_ ?_ _; rotate_left; focus (first | (simp; done) | (simp; omega))) | (with_reducible refine Mem.bbelow ?_ ?_ ‹_›; rotate_left; focus (first | (simp; done) | (simp; omega)))))
        go_split_ands
        have hzw10 : w.heap.size < w1.heap.size := Mem.clt (a := ⟨w.heap.size, 0, none⟩) ‹_›
        have hzw11 : w.heap.size + 1 < w1.heap.size := Mem.clt (a := ⟨w.heap.size + 1, 0, none⟩) ‹_›
        clear hb
        cases h5 : U8.mayN v t j <;> cases h6 : U8.mayY v t j <;> rw [h5] at H1 <;> rw [h6] at H2
        all_goals
          go_wp2_with (go_at_call 30; refine (has_any _ _ hlt _).mono ?_; rintro e w' ⟨rfl, rfl⟩)
          go_roundw
          case rel =>
            refine ⟨j + 1, by omega, by go_num, by rw [H1.out]; simp, by rw [H2.out]; simp, by rw [H3.out]; simp, ?_⟩
            (go_split_ands; (repeat' with_reducible apply And.intro) <;> first | with_reducible assumption | (simp [go_sem]; done) | (with_reducible refine Mem.vof ?_; simp [go_sem]; done) | (repeat (first | with_reducible assumption | with_reducible exact Below.refl _ _ | with_reducible refine Mem.vdrew ?_ | with_reducible refine Mem.valloc _ ?_ | with_reducible refine Mem.vbelow ‹_› ?_ | with_reducible refine Mem.vset ?_ | with_reducible refine Mem.cdrew ?_ | with_reducible refine Mem.calloc _ ?_ | with_reducible refine Mem.bdrew ?_ | with_reducible refine Mem.cbelow ‹_› ?_ | with_reducible refine Mem.zdrew ?_ | with_reducible refine Mem.zalloc _ ?_ ?_ | with_reducible refine Mem.zbelow ‹_› ?_ ?_ | with_reducible refine Mem.zset ?_ | (with_reducible refine Mem.cset ?_ ?_; rotate_left; focus (first | (simp; done) | (simp; omega))) | (with_reducible refine Mem.balloc ?_ ?_ _; rotate_left; focus (first | (simp; done) | (simp; omega))) | (with_reducible refine Mem.bset ?_ ?_ _; rotate_left; focus (first | (simp; done) | (simp; omega))) | (with_reducible refine Mem.bbelow ?_ ?_ ‹_›; rotate_left; focus (first | (simp; done) | (simp; omega))))))
          case measure => simp [intOf]; omega
    · have e : j = 8 := by omega
      subst e
      have e1 := U8.allTo_eight v
      have HZ := Mem.hide (U8.zeroT_to v t)
      cases h1 : U8.noTo v t 8 <;> cases h2 : U8.yesTo v t 8 <;> rw [h1, h2] at HZ
      all_goals
        go_wp2
        obtain ⟨g0, g1⟩ := Mem.two_set (W := wr) (g := w.heap.size + 1) (x := .bool (U8.zeroV v)) (y := .bool (U8.zeroT v t)) (Mem.vis ‹_›) (Mem.vis ‹_›)
        rw [HZ.out] at g0 g1
        rw [HZ.out]
        simp only [Bool.and_true, Bool.and_false] at g0 g1 ⊢
        refine bodyPost_ret (v := .agg #[.bool (U8.zeroV v), .bool _]) (by simp [results, Tryd.results33, go_sem, g0, g1]) rfl ⟨rfl, ?_⟩
        (repeat (first | with_reducible assumption | with_reducible exact Below.refl _ _ | with_reducible refine Mem.vdrew ?_ | with_reducible refine Mem.valloc _ ?_ | with_reducible refine Mem.vbelow ‹_› ?_ | with_reducible refine Mem.vset ?_ | with_reducible refine Mem.cdrew ?_ | with_reducible refine Mem.calloc _ ?_ | with_reducible refine Mem.bdrew ?_ | with_reducible refine Mem.cbelow ‹_› ?_ | with_reducible refine Mem.zdrew ?_ | with_reducible refine Mem.zalloc _ ?_ ?_ | with_reducible refine Mem.zbelow ‹_› ?_ ?_ | with_reducible refine Mem.zset ?_ | (with_reducible refine Mem.cset ?_ ?_; rotate_left; focus (first | (simp; done) | (simp; omega))) | (with_reducible refine Mem.balloc ?_ ?_ _; rotate_left; focus (first | (simp; done) | (simp; omega))) | (with_reducible refine Mem.bset ?_ ?_ _; rotate_left; focus (first | (simp; done) | (simp; omega))) | (with_reducible refine Mem.bbelow ?_ ?_ ‹_›; rotate_left; focus (first | (simp; done) | (simp; omega)))))
end Go.Proofs.YtodfgcbgiaboiaaDoor
