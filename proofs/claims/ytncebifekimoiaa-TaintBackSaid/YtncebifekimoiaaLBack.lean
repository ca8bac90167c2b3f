/-
  Walks: cochineallaw01.TaintBack returns true, whatever the byte and the bit.
-/
-- KEEP2
import Derived.Test.YtncebifekimoiaaAwake
import Derived.Test.YtncebifekimoiaaJOr
import Derived.Test.YtncebifekimoiaaJXor
import Derived.Test.YtncebifekimoiaaMoves
import Derived.Test.YtncebifekimoiaaExact
import Derived.RegionCalls
import Derived.Deep.RegionWith
import Derived.Test.YtncebifekimoiaaNum5
import Derived.Test.YtncebifekimoiaaMem4
namespace Go.Proofs.Ytncebifekimoiaa
open Go Go.RowKit

theorem right_back (v t : BitVec 8) (b s : Bool) (w : World) : Calls Try.prog 20 #[.agg #[.int .u8 ((U8.leftB v b).toNat : Int), .int .u8 ((U8.leftB t s).toNat : Int)], .agg #[.bool (U8.bitB v 7), .bool (U8.bitB t 7)]] w fun e w' =>
    e = .returned (.tuple #[.agg #[.int .u8 (v.toNat : Int), .int .u8 (t.toNat : Int)], .agg #[.bool b, .bool s]]) ∧ Below w.heap.size w w' := by
  refine (right_any _ _ _ _ w).mono fun e w' ⟨he, hb⟩ => ⟨?_, hb⟩
  rw [he, U8.right_left, U8.right_left, U8.bit_left, U8.bit_left]
theorem xor_0 (v t : BitVec 8) (w : World) : Calls Try.prog 18 #[.agg #[.int .u8 (v.toNat : Int), .int .u8 (t.toNat : Int)], .agg #[.int .u8 0, .int .u8 0]] w fun e w' => e = .returned (.agg #[.int .u8 (v.toNat : Int), .int .u8 (t.toNat : Int)]) ∧ Below w.heap.size w w' := by
  refine (xor_any v t 0#8 0#8 w).mono fun e w' ⟨he, hb⟩ => ⟨?_, hb⟩
  rw [he, U8.xorV0, U8.xorT0]
theorem or_0 (v t : BitVec 8) (w : World) : Calls Try.prog 17 #[.agg #[.int .u8 (v.toNat : Int), .int .u8 (t.toNat : Int)], .agg #[.int .u8 0, .int .u8 0]] w fun e w' => e = .returned (.agg #[.int .u8 (v.toNat : Int), .int .u8 (t.toNat : Int)]) ∧ Below w.heap.size w w' := by
  refine (or_any v t 0#8 0#8 w).mono fun e w' ⟨he, hb⟩ => ⟨?_, hb⟩
  rw [he, U8.orV0, U8.orT0]
theorem and_0 (v t : BitVec 8) (w : World) : Calls Try.prog 16 #[.agg #[.int .u8 (v.toNat : Int), .int .u8 (t.toNat : Int)], .agg #[.int .u8 0, .int .u8 0]] w fun e w' => e = .returned (.agg #[.int .u8 0, .int .u8 0]) ∧ Below w.heap.size w w' := by
  refine (and_any v t 0#8 0#8 w).mono fun e w' ⟨he, hb⟩ => ⟨?_, hb⟩
  rw [he, U8.andV0, U8.andT0]; rfl
theorem and_255 (v t : BitVec 8) (w : World) : Calls Try.prog 16 #[.agg #[.int .u8 (v.toNat : Int), .int .u8 (t.toNat : Int)], .agg #[.int .u8 255, .int .u8 0]] w fun e w' => e = .returned (.agg #[.int .u8 (v.toNat : Int), .int .u8 (t.toNat : Int)]) ∧ Below w.heap.size w w' := by
  refine (and_any v t 255#8 0#8 w).mono fun e w' ⟨he, hb⟩ => ⟨?_, hb⟩
  rw [he, U8.andV255, U8.andT255]
theorem of_255 (w : World) : Calls Try.prog 13 #[.int .i64 255] w fun e w' => e = .returned (.agg #[.int .u8 255, .int .u8 0]) ∧ Below w.heap.size w w' := of_any 255 w
theorem put_8 (v t : BitVec 8) (b s : Bool) (w : World) : Calls Try.prog 25 #[.agg #[.int .u8 (v.toNat : Int), .int .u8 (t.toNat : Int)], .int .i64 8, .agg #[.bool b, .bool s]] w fun e w' => e = .returned (.agg #[.int .u8 (v.toNat : Int), .int .u8 (t.toNat : Int)]) ∧ Below w.heap.size w w' := put_out v t 8 (by decide) b s w
theorem put_n (v t : BitVec 8) (b s : Bool) (w : World) : Calls Try.prog 25 #[.agg #[.int .u8 (v.toNat : Int), .int .u8 (t.toNat : Int)], .int .i64 (-1), .agg #[.bool b, .bool s]] w fun e w' => e = .returned (.agg #[.int .u8 (v.toNat : Int), .int .u8 (t.toNat : Int)]) ∧ Below w.heap.size w w' := put_out v t (-1) (by decide) b s w

set_option maxRecDepth 100000 in
set_option maxHeartbeats 4000000 in
theorem lback (v t : BitVec 8) (b s : Bool) (w : World) : Calls Try.prog 8 #[.agg #[.int .u8 (v.toNat : Int), .int .u8 (t.toNat : Int)], .agg #[.bool b, .bool s]] w fun e w' =>
    e = .returned (.bool true) ∧ Below w.heap.size w w' := by
  go_enter Try.func8, Try.ntmps8
  go_wp2_with fail
  refine (left_any _ _ _ _ _).mono ?_
  rintro e w1 ⟨rfl, h1⟩
  have hS : w1.cell? ⟨w.heap.size, 0, none⟩ = some (.int .u8 (v.toNat : Int)) ∧ w1.cell? ⟨w.heap.size, 1, none⟩ = some (.int .u8 (t.toNat : Int)) ∧ w1.cell? ⟨w.heap.size + 1, 0, none⟩ = some (.bool b) ∧ w1.cell? ⟨w.heap.size + 1, 1, none⟩ = some (.bool s) ∧ Below w.heap.size w w1 := by
    (repeat' with_reducible apply And.intro) <;> first | with_reducible assumption | ((repeat (first | with_reducible assumption | with_reducible exact Below.refl _ _ | ((with_reducible refine Mem.vnew ?_ ?_) <;> first | rfl | (simp; done)) | ((with_reducible refine Mem.cnew ?_ ?_) <;> first | rfl | (simp; done)) | ((with_reducible refine Mem.znew ?_) <;> first | rfl | (simp; done)) | with_reducible refine Mem.vdrew ?_ | with_reducible refine Mem.valloc _ ?_ | with_reducible refine Mem.vbelow ‹_› ?_ | with_reducible refine Mem.vset ?_ | with_reducible refine Mem.cdrew ?_ | with_reducible refine Mem.calloc _ ?_ | with_reducible refine Mem.bdrew ?_ | with_reducible refine Mem.cbelow ‹_› ?_ | with_reducible refine Mem.zdrew ?_ | with_reducible refine Mem.zalloc _ ?_ ?_ | with_reducible refine Mem.zbelow ‹_› ?_ ?_ | with_reducible refine Mem.zset ?_ | (with_reducible refine Mem.cset ?_ ?_; rotate_left; focus (first | (simp; done) | (simp; omega))) | (with_reducible refine Mem.balloc ?_ ?_ _; rotate_left; focus (first | (simp; done) | (simp; omega))) | (with_reducible refine Mem.bset ?_ ?_ _; rotate_left; focus (first | (simp; done) | (simp; omega))) | (with_reducible refine Mem.bbelow ?_ ?_ ‹_›; rotate_left; focus (first | (simp; done) | (simp; omega))))); done) | (simp [go_sem]; done) | (with_reducible refine Mem.cbelow ‹_› ?_; simp [go_sem, *]; done) | (with_reducible refine Mem.vbelow ‹_› (Mem.vof ?_); simp [go_sem]; done) | ((with_reducible refine Mem.zbelow ‹_› (Mem.vof ?_) ?_) <;> (simp [go_sem]; done))
  go_split_ands
  have hzw10 : w.heap.size < w1.heap.size := Mem.clt (a := ⟨w.heap.size, 0, none⟩) ‹_›
  have hzw11 : w.heap.size + 1 < w1.heap.size := Mem.clt (a := ⟨w.heap.size + 1, 0, none⟩) ‹_›
  clear h1
  go_wp2_with fail
  refine (right_back _ _ _ _ _).mono ?_
  rintro e w2 ⟨rfl, h2⟩
  have hS : w2.cell? ⟨w.heap.size, 0, none⟩ = some (.int .u8 (v.toNat : Int)) ∧ w2.cell? ⟨w.heap.size, 1, none⟩ = some (.int .u8 (t.toNat : Int)) ∧ w2.cell? ⟨w.heap.size + 1, 0, none⟩ = some (.bool b) ∧ w2.cell? ⟨w.heap.size + 1, 1, none⟩ = some (.bool s) ∧ Below w.heap.size w w2 := by
    (repeat' with_reducible apply And.intro) <;> first | with_reducible assumption | ((repeat (first | with_reducible assumption | with_reducible exact Below.refl _ _ | ((with_reducible refine Mem.vnew ?_ ?_) <;> first | rfl | (simp; done)) | ((with_reducible refine Mem.cnew ?_ ?_) <;> first | rfl | (simp; done)) | ((with_reducible refine Mem.znew ?_) <;> first | rfl | (simp; done)) | with_reducible refine Mem.vdrew ?_ | with_reducible refine Mem.valloc _ ?_ | with_reducible refine Mem.vbelow ‹_› ?_ | with_reducible refine Mem.vset ?_ | with_reducible refine Mem.cdrew ?_ | with_reducible refine Mem.calloc _ ?_ | with_reducible refine Mem.bdrew ?_ | with_reducible refine Mem.cbelow ‹_› ?_ | with_reducible refine Mem.zdrew ?_ | with_reducible refine Mem.zalloc _ ?_ ?_ | with_reducible refine Mem.zbelow ‹_› ?_ ?_ | with_reducible refine Mem.zset ?_ | (with_reducible refine Mem.cset ?_ ?_; rotate_left; focus (first | (simp; done) | (simp; omega))) | (with_reducible refine Mem.balloc ?_ ?_ _; rotate_left; focus (first | (simp; done) | (simp; omega))) | (with_reducible refine Mem.bset ?_ ?_ _; rotate_left; focus (first | (simp; done) | (simp; omega))) | (with_reducible refine Mem.bbelow ?_ ?_ ‹_›; rotate_left; focus (first | (simp; done) | (simp; omega))))); done) | (simp [go_sem]; done) | (with_reducible refine Mem.cbelow ‹_› ?_; simp [go_sem, *]; done) | (with_reducible refine Mem.vbelow ‹_› (Mem.vof ?_); simp [go_sem]; done) | ((with_reducible refine Mem.zbelow ‹_› (Mem.vof ?_) ?_) <;> (simp [go_sem]; done))
  go_split_ands
  have hzw20 : w.heap.size < w2.heap.size := Mem.clt (a := ⟨w.heap.size, 0, none⟩) ‹_›
  have hzw21 : w.heap.size + 1 < w2.heap.size := Mem.clt (a := ⟨w.heap.size + 1, 0, none⟩) ‹_›
  clear h2
  go_wp2_with fail
  go_loopw [10] (fun i wr => ∃ j : Nat, j ≤ 8 ∧ i = .int .i64 j ∧ w2.heap.size + 1 + 1 < wr.heap.size ∧ wr.frozen? ⟨w2.heap.size + 1 + 1, 0, none⟩ = false ∧ wr.frozen? ⟨w2.heap.size + 1 + 1, 1, none⟩ = false ∧ wr.cell? ⟨w2.heap.size + 1 + 1, 0, none⟩ = some (.int .u8 ((U8.upTo v j).toNat : Int)) ∧ wr.cell? ⟨w2.heap.size + 1 + 1, 1, none⟩ = some (.int .u8 ((U8.upTo t j).toNat : Int)) ∧ wr.cell? ⟨w.heap.size, 0, none⟩ = some (.int .u8 (v.toNat : Int)) ∧ wr.cell? ⟨w.heap.size, 1, none⟩ = some (.int .u8 (t.toNat : Int)) ∧ wr.cell? ⟨w.heap.size + 1, 0, none⟩ = some (.bool b) ∧ wr.cell? ⟨w.heap.size + 1, 1, none⟩ = some (.bool s) ∧ wr.cell? ⟨w2.heap.size, 0, none⟩ = some (.int .u8 (v.toNat : Int)) ∧ wr.cell? ⟨w2.heap.size, 1, none⟩ = some (.int .u8 (t.toNat : Int)) ∧ wr.cell? ⟨w2.heap.size + 1, 0, none⟩ = some (.bool b) ∧ wr.cell? ⟨w2.heap.size + 1, 1, none⟩ = some (.bool s) ∧ Below w.heap.size w wr) (fun i _ => 8 - (intOf i).toNat)
  case atStart =>
    refine ⟨0, by omega, rfl, by simp, by simp [go_sem], by simp [go_sem], by rw [U8.upTo_zero]; simp [go_sem], by rw [U8.upTo_zero]; simp [go_sem], ?_⟩
    (go_split_ands; (repeat' with_reducible apply And.intro) <;> first | with_reducible assumption | ((repeat (first | with_reducible assumption | with_reducible exact Below.refl _ _ | ((with_reducible refine Mem.vnew ?_ ?_) <;> first | rfl | (simp; done)) | ((with_reducible refine Mem.cnew ?_ ?_) <;> first | rfl | (simp; done)) | ((with_reducible refine Mem.znew ?_) <;> first | rfl | (simp; done)) | with_reducible refine Mem.vdrew ?_ | with_reducible refine Mem.valloc _ ?_ | with_reducible refine Mem.vbelow ‹_› ?_ | with_reducible refine Mem.vset ?_ | with_reducible refine Mem.cdrew ?_ | with_reducible refine Mem.calloc _ ?_ | with_reducible refine Mem.bdrew ?_ | with_reducible refine Mem.cbelow ‹_› ?_ | with_reducible refine Mem.zdrew ?_ | with_reducible refine Mem.zalloc _ ?_ ?_ | with_reducible refine Mem.zbelow ‹_› ?_ ?_ | with_reducible refine Mem.zset ?_ | (with_reducible refine Mem.cset ?_ ?_; rotate_left; focus (first | (simp; done) | (simp; omega))) | (with_reducible refine Mem.balloc ?_ ?_ _; rotate_left; focus (first | (simp; done) | (simp; omega))) | (with_reducible refine Mem.bset ?_ ?_ _; rotate_left; focus (first | (simp; done) | (simp; omega))) | (with_reducible refine Mem.bbelow ?_ ?_ ‹_›; rotate_left; focus (first | (simp; done) | (simp; omega))))); done) | (simp [go_sem]; done) | (with_reducible refine Mem.cbelow ‹_› ?_; simp [go_sem, *]; done) | (with_reducible refine Mem.vbelow ‹_› (Mem.vof ?_); simp [go_sem]; done) | ((with_reducible refine Mem.zbelow ‹_› (Mem.vof ?_) ?_) <;> (simp [go_sem]; done)))
  case round =>
    obtain ⟨j, hj, rfl, hzr, hf0, hf1, hcc0, hcc1, hS⟩ := hrel
    go_split_ands
    have hz0 : w.heap.size < wr.heap.size := Mem.clt (a := ⟨w.heap.size, 0, none⟩) ‹_›
    have hz1 : w.heap.size + 1 < wr.heap.size := Mem.clt (a := ⟨w.heap.size + 1, 0, none⟩) ‹_›
    have hz2 : w2.heap.size < wr.heap.size := Mem.clt (a := ⟨w2.heap.size, 0, none⟩) ‹_›
    have hz3 : w2.heap.size + 1 < wr.heap.size := Mem.clt (a := ⟨w2.heap.size + 1, 0, none⟩) ‹_›
    by_cases hlt : j < 8
    · have HV := Mem.hide (U8.upTo_succ v j hlt)
      have HT := Mem.hide (U8.upTo_succ t j hlt)
      have hza1 : w.heap.size < wr.heap.size + 1 := by omega
      have hza2 : w.heap.size < wr.heap.size + 1 + 1 := by omega
      have hza3 : w.heap.size < wr.heap.size + 1 + 1 + 1 := by omega
      have hza4 : w.heap.size < wr.heap.size + 1 + 1 + 1 + 1 := by omega
      have hza5 : w.heap.size < wr.heap.size + 1 + 1 + 1 + 1 + 1 := by omega
      have hzc1 : w2.heap.size + 1 + 1 < wr.heap.size + 1 := by omega
      have hzc2 : w2.heap.size + 1 + 1 < wr.heap.size + 1 + 1 := by omega
      have hzc3 : w2.heap.size + 1 + 1 < wr.heap.size + 1 + 1 + 1 := by omega
      have hzc4 : w2.heap.size + 1 + 1 < wr.heap.size + 1 + 1 + 1 + 1 := by omega
      have hzc5 : w2.heap.size + 1 + 1 < wr.heap.size + 1 + 1 + 1 + 1 + 1 := by omega
      go_wp2_with fail
      go_region_with (first | (go_at_call 23; refine (bit_exact _ _ _ hlt _).mono ?_; rintro e w' ⟨rfl, rfl⟩) | (go_at_call 25; refine (put_exact _ _ _ hlt _ _ _).mono ?_; rintro e w' ⟨rfl, rfl⟩))
      all_goals
        go_wp2
        rw [HV.out, HT.out]
        refine ⟨⟨j + 1, by omega, by go_num, by simp; omega, ?_, ?_, ?_, ?_, ?_⟩, by simp [intOf]; omega⟩
        · simp [go_sem, hf0, hzr, hzc1, hzc2, hzc3, hzc4]
        · simp [go_sem, hf1, hzr, hzc1, hzc2, hzc3, hzc4]
        · simp [go_sem, hcc0, hzr, hzc1, hzc2, hzc3, hzc4]
        · simp [go_sem, hcc1, hzr, hzc1, hzc2, hzc3, hzc4]
        · go_tidy
          (go_split_ands; (repeat' with_reducible apply And.intro) <;> first | with_reducible assumption | ((repeat (first | with_reducible assumption | with_reducible exact Below.refl _ _ | ((with_reducible refine Mem.vnew ?_ ?_) <;> first | rfl | (simp; done)) | ((with_reducible refine Mem.cnew ?_ ?_) <;> first | rfl | (simp; done)) | ((with_reducible refine Mem.znew ?_) <;> first | rfl | (simp; done)) | with_reducible refine Mem.vdrew ?_ | with_reducible refine Mem.valloc _ ?_ | with_reducible refine Mem.vbelow ‹_› ?_ | with_reducible refine Mem.vset ?_ | with_reducible refine Mem.cdrew ?_ | with_reducible refine Mem.calloc _ ?_ | with_reducible refine Mem.bdrew ?_ | with_reducible refine Mem.cbelow ‹_› ?_ | with_reducible refine Mem.zdrew ?_ | with_reducible refine Mem.zalloc _ ?_ ?_ | with_reducible refine Mem.zbelow ‹_› ?_ ?_ | with_reducible refine Mem.zset ?_ | (with_reducible refine Mem.cset ?_ ?_; rotate_left; focus (first | (simp; done) | (simp; omega))) | (with_reducible refine Mem.balloc ?_ ?_ _; rotate_left; focus (first | (simp; done) | (simp; omega))) | (with_reducible refine Mem.bset ?_ ?_ _; rotate_left; focus (first | (simp; done) | (simp; omega))) | (with_reducible refine Mem.bbelow ?_ ?_ ‹_›; rotate_left; focus (first | (simp; done) | (simp; omega))))); done) | (simp [go_sem]; done) | (with_reducible refine Mem.cbelow ‹_› ?_; simp [go_sem, *]; done) | (with_reducible refine Mem.vbelow ‹_› (Mem.vof ?_); simp [go_sem]; done) | ((with_reducible refine Mem.zbelow ‹_› (Mem.vof ?_) ?_) <;> (simp [go_sem]; done)))
    · have e : j = 8 := by omega
      subst e
      rw [U8.upTo_eight] at hcc0 hcc1
      go_wp2_with fail
      go_region_held3 (fun w' => w'.cell? ⟨w.heap.size, 0, none⟩ = some (.int .u8 (v.toNat : Int)) ∧ w'.cell? ⟨w.heap.size, 1, none⟩ = some (.int .u8 (t.toNat : Int)) ∧ w'.cell? ⟨w.heap.size + 1, 0, none⟩ = some (.bool b) ∧ w'.cell? ⟨w.heap.size + 1, 1, none⟩ = some (.bool s) ∧ w'.cell? ⟨w2.heap.size, 0, none⟩ = some (.int .u8 (v.toNat : Int)) ∧ w'.cell? ⟨w2.heap.size, 1, none⟩ = some (.int .u8 (t.toNat : Int)) ∧ w'.cell? ⟨w2.heap.size + 1, 0, none⟩ = some (.bool b) ∧ w'.cell? ⟨w2.heap.size + 1, 1, none⟩ = some (.bool s) ∧ w'.cell? ⟨w2.heap.size + 1 + 1, 0, none⟩ = some (.int .u8 (v.toNat : Int)) ∧ w'.cell? ⟨w2.heap.size + 1 + 1, 1, none⟩ = some (.int .u8 (t.toNat : Int)) ∧ Below w.heap.size w w') ((go_split_ands; (repeat' with_reducible apply And.intro) <;> first | with_reducible assumption | ((repeat (first | with_reducible assumption | with_reducible exact Below.refl _ _ | ((with_reducible refine Mem.vnew ?_ ?_) <;> first | rfl | (simp; done)) | ((with_reducible refine Mem.cnew ?_ ?_) <;> first | rfl | (simp; done)) | ((with_reducible refine Mem.znew ?_) <;> first | rfl | (simp; done)) | with_reducible refine Mem.vdrew ?_ | with_reducible refine Mem.valloc _ ?_ | with_reducible refine Mem.vbelow ‹_› ?_ | with_reducible refine Mem.vset ?_ | with_reducible refine Mem.cdrew ?_ | with_reducible refine Mem.calloc _ ?_ | with_reducible refine Mem.bdrew ?_ | with_reducible refine Mem.cbelow ‹_› ?_ | with_reducible refine Mem.zdrew ?_ | with_reducible refine Mem.zalloc _ ?_ ?_ | with_reducible refine Mem.zbelow ‹_› ?_ ?_ | with_reducible refine Mem.zset ?_ | (with_reducible refine Mem.cset ?_ ?_; rotate_left; focus (first | (simp; done) | (simp; omega))) | (with_reducible refine Mem.balloc ?_ ?_ _; rotate_left; focus (first | (simp; done) | (simp; omega))) | (with_reducible refine Mem.bset ?_ ?_ _; rotate_left; focus (first | (simp; done) | (simp; omega))) | (with_reducible refine Mem.bbelow ?_ ?_ ‹_›; rotate_left; focus (first | (simp; done) | (simp; omega))))); done) | (simp [go_sem]; done) | (with_reducible refine Mem.cbelow ‹_› ?_; simp [go_sem, *]; done) | (with_reducible refine Mem.vbelow ‹_› (Mem.vof ?_); simp [go_sem]; done) | ((with_reducible refine Mem.zbelow ‹_› (Mem.vof ?_) ?_) <;> (simp [go_sem]; done))))
        (first | (go_at_call 25; ((with_reducible refine (put_8 _ _ _ _ _).mono ?_); rintro e w' ⟨rfl, hbb⟩)) | (go_at_call 25; ((with_reducible refine (put_n _ _ _ _ _).mono ?_); rintro e w' ⟨rfl, hbb⟩)) | (go_at_call 13; ((with_reducible refine (of_0 _).mono ?_); rintro e w' ⟨rfl, hbb⟩)) | (go_at_call 13; ((with_reducible refine (of_255 _).mono ?_); rintro e w' ⟨rfl, hbb⟩)) | (go_at_call 18; ((with_reducible refine (xor_0 _ _ _).mono ?_); rintro e w' ⟨rfl, hbb⟩)) | (go_at_call 17; ((with_reducible refine (or_0 _ _ _).mono ?_); rintro e w' ⟨rfl, hbb⟩)) | (go_at_call 16; ((with_reducible refine (and_0 _ _ _).mono ?_); rintro e w' ⟨rfl, hbb⟩)) | (go_at_call 16; ((with_reducible refine (and_255 _ _ _).mono ?_); rintro e w' ⟨rfl, hbb⟩)) | (go_at_call 14; ((with_reducible refine (awake_any _).mono ?_); rintro e w' ⟨rfl, hbb⟩)))
      go_wp2
      go_split_ands
      go_ret
      exact ⟨rfl, by assumption⟩
end Go.Proofs.Ytncebifekimoiaa
