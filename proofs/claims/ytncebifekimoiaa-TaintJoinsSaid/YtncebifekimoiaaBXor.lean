/-
  Walks: what cochinealref01.Both returns at the table of 'xor', whatever the bytes.
-/
import Derived.Test.YtncebifekimoiaaRef
import Derived.Test.YtncebifekimoiaaMem3
import Derived.Test.YtncebifekimoiaaNum2
namespace Go.Proofs.Ytncebifekimoiaa
open Go Go.RowKit

set_option maxRecDepth 100000 in
set_option maxHeartbeats 16000000 in
theorem both_xor (v t u s : BitVec 8) (w : World) : Calls Try.prog 15 #[.agg #[.int .u8 (v.toNat : Int), .int .u8 (t.toNat : Int)], .agg #[.int .u8 (u.toNat : Int), .int .u8 (s.toNat : Int)], .agg #[.int .i64 0, .int .i64 1, .int .i64 1, .int .i64 0]] w fun e w' =>
    e = .returned (.agg #[.int .u8 ((U8.xorV v u).toNat : Int), .int .u8 ((U8.xorT t s).toNat : Int)]) ∧ Below w.heap.size w w' := by
  go_enter Try.func15, Try.ntmps15
  go_wp2_with fail
  go_loopw [7, 8, 9] (fun a b i wr => ∃ j : Nat, j ≤ 8 ∧ i = .int .i64 j ∧ a = .int .i64 (U8.low (U8.xorV v u) j) ∧ b = .int .i64 (U8.low (U8.xorT t s) j) ∧ wr.cell? ⟨w.heap.size, 0, none⟩ = some (.int .u8 (v.toNat : Int)) ∧ wr.cell? ⟨w.heap.size, 1, none⟩ = some (.int .u8 (t.toNat : Int)) ∧ wr.cell? ⟨w.heap.size + 1, 0, none⟩ = some (.int .u8 (u.toNat : Int)) ∧ wr.cell? ⟨w.heap.size + 1, 1, none⟩ = some (.int .u8 (s.toNat : Int)) ∧ wr.cell? ⟨w.heap.size + 1 + 1, 0, none⟩ = some (.int .i64 0) ∧ wr.cell? ⟨w.heap.size + 1 + 1, 1, none⟩ = some (.int .i64 1) ∧ wr.cell? ⟨w.heap.size + 1 + 1, 2, none⟩ = some (.int .i64 1) ∧ wr.cell? ⟨w.heap.size + 1 + 1, 3, none⟩ = some (.int .i64 0) ∧ wr.cell? ⟨w.heap.size + 1 + 1 + 1, 0, none⟩ = some (Mem.val wr ⟨w.heap.size + 1 + 1 + 1, 0, none⟩) ∧ wr.cell? ⟨w.heap.size + 1 + 1 + 1, 1, none⟩ = some (Mem.val wr ⟨w.heap.size + 1 + 1 + 1, 1, none⟩) ∧ wr.frozen? ⟨w.heap.size + 1 + 1 + 1, 0, none⟩ = false ∧ wr.frozen? ⟨w.heap.size + 1 + 1 + 1, 1, none⟩ = false ∧ Below w.heap.size w wr) (fun _ _ i _ => 8 - (intOf i).toNat)
  case atStart =>
    refine ⟨0, by omega, rfl, by rw [U8.low_zero], by rw [U8.low_zero], ?_⟩
    (go_split_ands; (repeat' with_reducible apply And.intro) <;> first | with_reducible assumption | (simp [go_sem]; done) | (with_reducible refine Mem.vof ?_; simp [go_sem]; done) | (repeat (first | with_reducible assumption | with_reducible exact Below.refl _ _ | with_reducible refine Mem.vdrew ?_ | with_reducible refine Mem.valloc _ ?_ | with_reducible refine Mem.vbelow ‹_› ?_ | with_reducible refine Mem.vset ?_ | with_reducible refine Mem.cdrew ?_ | with_reducible refine Mem.calloc _ ?_ | with_reducible refine Mem.bdrew ?_ | with_reducible refine Mem.cbelow ‹_› ?_ | with_reducible refine Mem.zdrew ?_ | with_reducible refine Mem.zalloc _ ?_ ?_ | with_reducible refine Mem.zbelow ‹_› ?_ ?_ | with_reducible refine Mem.zset ?_ | (with_reducible refine Mem.cset ?_ ?_; rotate_left; focus (first | (simp; done) | (simp; omega))) | (with_reducible refine Mem.balloc ?_ ?_ _; rotate_left; focus (first | (simp; done) | (simp; omega))) | (with_reducible refine Mem.bset ?_ ?_ _; rotate_left; focus (first | (simp; done) | (simp; omega))) | (with_reducible refine Mem.bbelow ?_ ?_ ‹_›; rotate_left; focus (first | (simp; done) | (simp; omega))))))
  case round =>
    obtain ⟨j, hj, rfl, rfl, rfl, hS⟩ := hrel
    go_split_ands
    have hz0 : w.heap.size < wr.heap.size := Mem.clt (a := ⟨w.heap.size, 0, none⟩) ‹_›
    have hz1 : w.heap.size + 1 < wr.heap.size := Mem.clt (a := ⟨w.heap.size + 1, 0, none⟩) ‹_›
    have hz2 : w.heap.size + 1 + 1 < wr.heap.size := Mem.clt (a := ⟨w.heap.size + 1 + 1, 0, none⟩) ‹_›
    have hz3 : w.heap.size + 1 + 1 + 1 < wr.heap.size := Mem.clt (a := ⟨w.heap.size + 1 + 1 + 1, 0, none⟩) ‹_›
    obtain ⟨hb1, hb2⟩ := U8.low_bd (U8.xorV v u) j
    obtain ⟨hb3, hb4⟩ := U8.low_bd (U8.xorT t s) j
    by_cases hlt : j < 8
    · obtain ⟨hp1, hp2⟩ := U8.pw_bd j (by omega)
      have hw1 : IntKind.i64.wrap (U8.pw j) = U8.pw j := IntWalk.i64_in _ (by omega)
      have hw2 : IntKind.i64.wrap (U8.low (U8.xorV v u) j + U8.pw j) = U8.low (U8.xorV v u) j + U8.pw j := IntWalk.i64_in _ (by omega)
      have hw0 : IntKind.i64.wrap 0 = 0 := rfl
      have hw3 : IntKind.i64.wrap (U8.low (U8.xorV v u) j) = U8.low (U8.xorV v u) j := IntWalk.i64_in _ (by omega)
      have hV := U8.bit_xorV v u j
      have hT := U8.bit_xorT t s j
      have HN : Hid (U8.low (U8.xorV v u) (j + 1) = (if U8.bitB (U8.xorV v u) j then U8.low (U8.xorV v u) j + U8.pw j else U8.low (U8.xorV v u) j)) := by
        split
        · exact U8.low_yes _ _ hlt (by assumption)
        · exact U8.low_no _ _ hlt (Bool.eq_false_iff.2 ‹_›)
      have HT : Hid (U8.low (U8.xorT t s) (j + 1) = (if U8.bitB (U8.xorT t s) j then U8.low (U8.xorT t s) j + U8.pw j else U8.low (U8.xorT t s) j)) := by
        split
        · exact U8.low_yes _ _ hlt (by assumption)
        · exact U8.low_no _ _ hlt (Bool.eq_false_iff.2 ‹_›)
      rw [hV] at HN
      rw [hT] at HT
      clear hV hT
      have m1 : U8.mayN v t j = (!U8.bitB v j || U8.bitB t j) := rfl
      have m2 : U8.mayY v t j = (U8.bitB v j || U8.bitB t j) := rfl
      have m3 : U8.mayN u s j = (!U8.bitB u j || U8.bitB s j) := rfl
      have m4 : U8.mayY u s j = (U8.bitB u j || U8.bitB s j) := rfl
      cases h1 : U8.bitB v j <;> cases h2 : U8.bitB t j <;> cases h3 : U8.bitB u j <;> cases h4 : U8.bitB s j <;> rw [h1, h2] at m1 m2 <;> rw [h3, h4] at m3 m4 <;> simp only [h1, h2, h3, h4] at HN HT <;> simp only [Bool.not_true, Bool.not_false, Bool.or_true, Bool.or_false] at m1 m2 m3 m4
      all_goals
        go_wp2_with (go_at_call 36; refine (has_any _ _ hlt _).mono ?_; rintro e w' ⟨rfl, rfl⟩)
        go_region_held3 (fun w' => w'.cell? ⟨w.heap.size + 1 + 1, 0, none⟩ = some (.int .i64 0) ∧ w'.cell? ⟨w.heap.size + 1 + 1, 1, none⟩ = some (.int .i64 1) ∧ w'.cell? ⟨w.heap.size + 1 + 1, 2, none⟩ = some (.int .i64 1) ∧ w'.cell? ⟨w.heap.size + 1 + 1, 3, none⟩ = some (.int .i64 0) ∧ Below w.heap.size w w') ((go_split_ands; (repeat' with_reducible apply And.intro) <;> first | with_reducible assumption | (simp [go_sem]; done) | (with_reducible refine Mem.vof ?_; simp [go_sem]; done) | (repeat (first | with_reducible assumption | with_reducible exact Below.refl _ _ | with_reducible refine Mem.vdrew ?_ | with_reducible refine Mem.valloc _ ?_ | with_reducible refine Mem.vbelow ‹_› ?_ | with_reducible refine Mem.vset ?_ | with_reducible refine Mem.cdrew ?_ | with_reducible refine Mem.calloc _ ?_ | with_reducible refine Mem.bdrew ?_ | with_reducible refine Mem.cbelow ‹_› ?_ | with_reducible refine Mem.zdrew ?_ | with_reducible refine Mem.zalloc _ ?_ ?_ | with_reducible refine Mem.zbelow ‹_› ?_ ?_ | with_reducible refine Mem.zset ?_ | (with_reducible refine Mem.cset ?_ ?_; rotate_left; focus (first | (simp; done) | (simp; omega))) | (with_reducible refine Mem.balloc ?_ ?_ _; rotate_left; focus (first | (simp; done) | (simp; omega))) | (with_reducible refine Mem.bset ?_ ?_ _; rotate_left; focus (first | (simp; done) | (simp; omega))) | (with_reducible refine Mem.bbelow ?_ ?_ ‹_›; rotate_left; focus (first | (simp; done) | (simp; omega)))))))
          (first | (go_at_call 37; refine (pow_any _ hlt _).mono ?_; rintro e w' ⟨rfl, rfl⟩))
        go_wp2_with fail
        refine (may_any _ _ _ hlt _).mono ?_
        rintro e w1 ⟨rfl, hb⟩
        have hS : w1.cell? ⟨w.heap.size, 0, none⟩ = some (.int .u8 (v.toNat : Int)) ∧ w1.cell? ⟨w.heap.size, 1, none⟩ = some (.int .u8 (t.toNat : Int)) ∧ w1.cell? ⟨w.heap.size + 1, 0, none⟩ = some (.int .u8 (u.toNat : Int)) ∧ w1.cell? ⟨w.heap.size + 1, 1, none⟩ = some (.int .u8 (s.toNat : Int)) ∧ w1.cell? ⟨w.heap.size + 1 + 1, 0, none⟩ = some (.int .i64 0) ∧ w1.cell? ⟨w.heap.size + 1 + 1, 1, none⟩ = some (.int .i64 1) ∧ w1.cell? ⟨w.heap.size + 1 + 1, 2, none⟩ = some (.int .i64 1) ∧ w1.cell? ⟨w.heap.size + 1 + 1, 3, none⟩ = some (.int .i64 0) ∧ w1.cell? ⟨w.heap.size + 1 + 1 + 1, 0, none⟩ = some (Mem.val w1 ⟨w.heap.size + 1 + 1 + 1, 0, none⟩) ∧ w1.cell? ⟨w.heap.size + 1 + 1 + 1, 1, none⟩ = some (Mem.val w1 ⟨w.heap.size + 1 + 1 + 1, 1, none⟩) ∧ w1.frozen? ⟨w.heap.size + 1 + 1 + 1, 0, none⟩ = false ∧ w1.frozen? ⟨w.heap.size + 1 + 1 + 1, 1, none⟩ = false ∧ Below w.heap.size w w1 := by
          (repeat' with_reducible apply And.intro) <;> first | with_reducible assumption | (with_reducible refine Mem.cbelow ‹_› ?_; simp [go_sem]; done) | (with_reducible refine Mem.cbelow ‹_› ?_; simp [go_sem, *]; done) | (repeat (first | with_reducible assumption | with_reducible exact Below.refl _ _ | with_reducible refine Mem.vdrew ?_ | with_reducible refine Mem.valloc _ ?_ | with_reducible refine Mem.vbelow ‹_› ?_ | with_reducible refine Mem.vset ?_ | with_reducible refine Mem.cdrew ?_ | with_reducible refine Mem.calloc _ ?_ | with_reducible refine Mem.bdrew ?_ | with_reducible refine Mem.cbelow ‹_› ?_ | with_reducible refine Mem.zdrew ?_ | with_reducible refine Mem.zalloc _ ?_ ?_ | with_reducible refine Mem.zbelow ‹_› ?_ ?_ | with_reducible refine Mem.zset ?_ | (with_reducible refine Mem.cset ?_ ?_; rotate_left; focus (first | (simp; done) | (simp; omega))) | (with_reducible refine Mem.balloc ?_ ?_ _; rotate_left; focus (first | (simp; done) | (simp; omega))) | (with_reducible refine Mem.bset ?_ ?_ _; rotate_left; focus (first | (simp; done) | (simp; omega))) | (with_reducible refine Mem.bbelow ?_ ?_ ‹_›; rotate_left; focus (first | (simp; done) | (simp; omega)))))
        go_split_ands
        have hzw10 : w.heap.size < w1.heap.size := Mem.clt (a := ⟨w.heap.size, 0, none⟩) ‹_›
        have hzw11 : w.heap.size + 1 < w1.heap.size := Mem.clt (a := ⟨w.heap.size + 1, 0, none⟩) ‹_›
        have hzw12 : w.heap.size + 1 + 1 < w1.heap.size := Mem.clt (a := ⟨w.heap.size + 1 + 1, 0, none⟩) ‹_›
        have hzw13 : w.heap.size + 1 + 1 + 1 < w1.heap.size := Mem.clt (a := ⟨w.heap.size + 1 + 1 + 1, 0, none⟩) ‹_›
        clear hb
        go_wp2_with fail
        refine (may_any _ _ _ hlt _).mono ?_
        rintro e w2 ⟨rfl, hb⟩
        have hS : w2.cell? ⟨w.heap.size, 0, none⟩ = some (.int .u8 (v.toNat : Int)) ∧ w2.cell? ⟨w.heap.size, 1, none⟩ = some (.int .u8 (t.toNat : Int)) ∧ w2.cell? ⟨w.heap.size + 1, 0, none⟩ = some (.int .u8 (u.toNat : Int)) ∧ w2.cell? ⟨w.heap.size + 1, 1, none⟩ = some (.int .u8 (s.toNat : Int)) ∧ w2.cell? ⟨w.heap.size + 1 + 1, 0, none⟩ = some (.int .i64 0) ∧ w2.cell? ⟨w.heap.size + 1 + 1, 1, none⟩ = some (.int .i64 1) ∧ w2.cell? ⟨w.heap.size + 1 + 1, 2, none⟩ = some (.int .i64 1) ∧ w2.cell? ⟨w.heap.size + 1 + 1, 3, none⟩ = some (.int .i64 0) ∧ w2.cell? ⟨w.heap.size + 1 + 1 + 1, 0, none⟩ = some (Mem.val w2 ⟨w.heap.size + 1 + 1 + 1, 0, none⟩) ∧ w2.cell? ⟨w.heap.size + 1 + 1 + 1, 1, none⟩ = some (Mem.val w2 ⟨w.heap.size + 1 + 1 + 1, 1, none⟩) ∧ w2.frozen? ⟨w.heap.size + 1 + 1 + 1, 0, none⟩ = false ∧ w2.frozen? ⟨w.heap.size + 1 + 1 + 1, 1, none⟩ = false ∧ w2.cell? ⟨w1.heap.size, 0, none⟩ = some (.bool (U8.mayN v t j)) ∧ w2.cell? ⟨w1.heap.size, 1, none⟩ = some (.bool (U8.mayY v t j)) ∧ Below w.heap.size w w2 := by
          (repeat' with_reducible apply And.intro) <;> first | with_reducible assumption | (with_reducible refine Mem.cbelow ‹_› ?_; simp [go_sem]; done) | (with_reducible refine Mem.cbelow ‹_› ?_; simp [go_sem, *]; done) | (repeat (first | with_reducible assumption | with_reducible exact Below.refl _ _ | with_reducible refine Mem.vdrew ?_ | with_reducible refine Mem.valloc _ ?_ | with_reducible refine Mem.vbelow ‹_› ?_ | with_reducible refine Mem.vset ?_ | with_reducible refine Mem.cdrew ?_ | with_reducible refine Mem.calloc _ ?_ | with_reducible refine Mem.bdrew ?_ | with_reducible refine Mem.cbelow ‹_› ?_ | with_reducible refine Mem.zdrew ?_ | with_reducible refine Mem.zalloc _ ?_ ?_ | with_reducible refine Mem.zbelow ‹_› ?_ ?_ | with_reducible refine Mem.zset ?_ | (with_reducible refine Mem.cset ?_ ?_; rotate_left; focus (first | (simp; done) | (simp; omega))) | (with_reducible refine Mem.balloc ?_ ?_ _; rotate_left; focus (first | (simp; done) | (simp; omega))) | (with_reducible refine Mem.bset ?_ ?_ _; rotate_left; focus (first | (simp; done) | (simp; omega))) | (with_reducible refine Mem.bbelow ?_ ?_ ‹_›; rotate_left; focus (first | (simp; done) | (simp; omega)))))
        go_split_ands
        have hzw20 : w.heap.size < w2.heap.size := Mem.clt (a := ⟨w.heap.size, 0, none⟩) ‹_›
        have hzw21 : w.heap.size + 1 < w2.heap.size := Mem.clt (a := ⟨w.heap.size + 1, 0, none⟩) ‹_›
        have hzw22 : w.heap.size + 1 + 1 < w2.heap.size := Mem.clt (a := ⟨w.heap.size + 1 + 1, 0, none⟩) ‹_›
        have hzw23 : w.heap.size + 1 + 1 + 1 < w2.heap.size := Mem.clt (a := ⟨w.heap.size + 1 + 1 + 1, 0, none⟩) ‹_›
        have hzw24 : w1.heap.size < w2.heap.size := Mem.clt (a := ⟨w1.heap.size, 0, none⟩) ‹_›
        clear hb
        go_wp2_with fail
        refine wp_loop_rounds 5 ?_
        rw [rounds_succ]
        go_wp2
        rw [rounds_succ]
        go_wp2
        rw [rounds_succ]
        go_wp2
        rw [rounds_succ]
        go_wp2
        rw [rounds_succ]
        go_wp2_with (go_at_call 37; refine (pow_any _ hlt _).mono ?_; rintro e w' ⟨rfl, rfl⟩)
        go_roundw
        case rel =>
          refine ⟨j + 1, by omega, by go_num, by rw [HN.out]; simp, by rw [HT.out]; simp, ?_⟩
          (go_split_ands; (repeat' with_reducible apply And.intro) <;> first | with_reducible assumption | (simp [go_sem]; done) | (with_reducible refine Mem.vof ?_; simp [go_sem]; done) | (repeat (first | with_reducible assumption | with_reducible exact Below.refl _ _ | with_reducible refine Mem.vdrew ?_ | with_reducible refine Mem.valloc _ ?_ | with_reducible refine Mem.vbelow ‹_› ?_ | with_reducible refine Mem.vset ?_ | with_reducible refine Mem.cdrew ?_ | with_reducible refine Mem.calloc _ ?_ | with_reducible refine Mem.bdrew ?_ | with_reducible refine Mem.cbelow ‹_› ?_ | with_reducible refine Mem.zdrew ?_ | with_reducible refine Mem.zalloc _ ?_ ?_ | with_reducible refine Mem.zbelow ‹_› ?_ ?_ | with_reducible refine Mem.zset ?_ | (with_reducible refine Mem.cset ?_ ?_; rotate_left; focus (first | (simp; done) | (simp; omega))) | (with_reducible refine Mem.balloc ?_ ?_ _; rotate_left; focus (first | (simp; done) | (simp; omega))) | (with_reducible refine Mem.bset ?_ ?_ _; rotate_left; focus (first | (simp; done) | (simp; omega))) | (with_reducible refine Mem.bbelow ?_ ?_ ‹_›; rotate_left; focus (first | (simp; done) | (simp; omega))))))
        case measure => simp [intOf]; omega
    · have e : j = 8 := by omega
      subst e
      have e1 := U8.low_eight (U8.xorV v u)
      have e2 := U8.low_eight (U8.xorT t s)
      go_wp2
      obtain ⟨g0, g1⟩ := Mem.two_set (W := wr) (g := w.heap.size + 1 + 1 + 1) (x := .int .u8 ((U8.xorV v u).toNat : Int)) (y := .int .u8 ((U8.xorT t s).toNat : Int)) (Mem.vis ‹_›) (Mem.vis ‹_›)
      refine bodyPost_ret (v := .agg #[.int .u8 ((U8.xorV v u).toNat : Int), .int .u8 ((U8.xorT t s).toNat : Int)]) (by simp [results, Try.results15, go_sem, g0, g1]) rfl ⟨rfl, ?_⟩
      (repeat (first | with_reducible assumption | with_reducible exact Below.refl _ _ | with_reducible refine Mem.vdrew ?_ | with_reducible refine Mem.valloc _ ?_ | with_reducible refine Mem.vbelow ‹_› ?_ | with_reducible refine Mem.vset ?_ | with_reducible refine Mem.cdrew ?_ | with_reducible refine Mem.calloc _ ?_ | with_reducible refine Mem.bdrew ?_ | with_reducible refine Mem.cbelow ‹_› ?_ | with_reducible refine Mem.zdrew ?_ | with_reducible refine Mem.zalloc _ ?_ ?_ | with_reducible refine Mem.zbelow ‹_› ?_ ?_ | with_reducible refine Mem.zset ?_ | (with_reducible refine Mem.cset ?_ ?_; rotate_left; focus (first | (simp; done) | (simp; omega))) | (with_reducible refine Mem.balloc ?_ ?_ _; rotate_left; focus (first | (simp; done) | (simp; omega))) | (with_reducible refine Mem.bset ?_ ?_ _; rotate_left; focus (first | (simp; done) | (simp; omega))) | (with_reducible refine Mem.bbelow ?_ ?_ ‹_›; rotate_left; focus (first | (simp; done) | (simp; omega)))))
end Go.Proofs.Ytncebifekimoiaa
