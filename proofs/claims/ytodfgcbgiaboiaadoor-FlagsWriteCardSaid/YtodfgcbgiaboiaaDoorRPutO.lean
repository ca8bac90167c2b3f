/-
  Walks: what cochinealref01.Put returns, at every place of a byte, and beyond it.
-/
-- KEEP2
import Derived.Test.YtodfgcbgiaboiaaDoorRPut
namespace Go.Proofs.YtodfgcbgiaboiaaDoor
open Go Go.RowKit

theorem rput_any (v t : BitVec 8) (n : Nat) (hn : n < 8) (b s : Bool) (w : World) : Calls Tryd.prog 21 #[.agg #[.int .u8 (v.toNat : Int), .int .u8 (t.toNat : Int)], .int .i64 (n : Int), .agg #[.bool b, .bool s]] w fun e w' =>
    e = .returned (.agg #[.int .u8 ((U8.putB v n b).toNat : Int), .int .u8 ((U8.putB t n s).toNat : Int)]) ∧ Below w.heap.size w w' := by
  rcases (by omega : n = 0 ∨ n = 1 ∨ n = 2 ∨ n = 3 ∨ n = 4 ∨ n = 5 ∨ n = 6 ∨ n = 7) with rfl | rfl | rfl | rfl | rfl | rfl | rfl | rfl
  · exact rput_0 v t b s w
  · exact rput_1 v t b s w
  · exact rput_2 v t b s w
  · exact rput_3 v t b s w
  · exact rput_4 v t b s w
  · exact rput_5 v t b s w
  · exact rput_6 v t b s w
  · exact rput_7 v t b s w

theorem made_bits (v t : BitVec 8) (w : World) : Calls Tryd.prog 32 #[.agg #[.bool (U8.bitB v 0), .bool (U8.bitB t 0), .bool (U8.bitB v 1), .bool (U8.bitB t 1), .bool (U8.bitB v 2), .bool (U8.bitB t 2), .bool (U8.bitB v 3), .bool (U8.bitB t 3), .bool (U8.bitB v 4), .bool (U8.bitB t 4), .bool (U8.bitB v 5), .bool (U8.bitB t 5), .bool (U8.bitB v 6), .bool (U8.bitB t 6), .bool (U8.bitB v 7), .bool (U8.bitB t 7)]] w fun e w' =>
    e = .returned (.agg #[.int .u8 (v.toNat : Int), .int .u8 (t.toNat : Int)]) ∧ Below w.heap.size w w' := by
  refine (made_any _ _ _ _ _ _ _ _ _ _ _ _ _ _ _ _ w).mono fun e w' ⟨he, hb⟩ => ⟨?_, hb⟩
  rw [he, U8.mk_bits, U8.mk_bits]

set_option maxRecDepth 100000 in
set_option maxHeartbeats 4000000 in
theorem rput_out (v t : BitVec 8) (i : Int) (hi : i < 0 ∨ 7 < i) (b s : Bool) (w : World) : Calls Tryd.prog 21 #[.agg #[.int .u8 (v.toNat : Int), .int .u8 (t.toNat : Int)], .int .i64 i, .agg #[.bool b, .bool s]] w fun e w' =>
    e = .returned (.agg #[.int .u8 (v.toNat : Int), .int .u8 (t.toNat : Int)]) ∧ Below w.heap.size w w' := by
  by_cases h0 : i < 0
  · have h1 : ¬ 0 ≤ i := by omega
    go_enter Tryd.func21, Tryd.ntmps21
    go_wp2_with fail
    refine (rbits_any _ _ _).mono ?_
    rintro e w1 ⟨rfl, hb1⟩
    have hS : w1.cell? ⟨w.heap.size + 1, 0, none⟩ = some (.bool b) ∧ w1.cell? ⟨w.heap.size + 1, 1, none⟩ = some (.bool s) ∧ w1.cell? ⟨w.heap.size + 1 + 1, 0, none⟩ = some (Mem.val w1 ⟨w.heap.size + 1 + 1, 0, none⟩) ∧ w1.cell? ⟨w.heap.size + 1 + 1, 1, none⟩ = some (Mem.val w1 ⟨w.heap.size + 1 + 1, 1, none⟩) ∧ w1.frozen? ⟨w.heap.size + 1 + 1, 0, none⟩ = false ∧ w1.frozen? ⟨w.heap.size + 1 + 1, 1, none⟩ = false ∧ Below w.heap.size w w1 := by
      (repeat' with_reducible apply And.intro) <;> first | with_reducible assumption | ((repeat (first | with_reducible assumption | with_reducible exact Below.refl _ _ | ((with_reducible refine Mem.vnew ?_ ?_) <;> first | rfl | (simp; done)) | ((with_reducible refine Mem.cnew ?_ ?_) <;> first | rfl | (simp; done)) | ((with_reducible refine Mem.znew ?_) <;> first | rfl | (simp; done)) | with_reducible refine Mem.vdrew ?_ | with_reducible refine Mem.valloc _ ?_ | with_reducible refine Mem.vbelow ‹_› ?_ | with_reducible refine Mem.vset ?_ | with_reducible refine Mem.cdrew ?_ | with_reducible refine Mem.calloc _ ?_ | with_reducible refine Mem.bdrew ?_ | with_reducible refine Mem.cbelow ‹_› ?_ | with_reducible refine Mem.zdrew ?_ | with_reducible refine Mem.zalloc _ ?_ ?_ | with_reducible refine Mem.zbelow ‹_› ?_ ?_ | with_reducible refine Mem.zset ?_ | (with_reducible refine Mem.cset ?_ ?_; rotate_left; focus (first | (simp; done) | (simp; omega))) | (with_reducible refine Mem.balloc ?_ ?_ _; rotate_left; focus (first | (simp; done) | (simp; omega))) | (with_reducible refine Mem.bset ?_ ?_ _; rotate_left; focus (first | (simp; done) | (simp; omega))) | (with_reducible refine Mem.bbelow ?_ ?_ ‹_›; rotate_left; focus (first | (simp; done) | (simp; omega))))); done) | (simp [go_sem]; done) | (with_reducible refine Mem.cbelow ‹_› ?_; simp [go_sem, *]; done) | (with_reducible refine Mem.vbelow ‹_› (Mem.vof ?_); simp [go_sem]; done) | ((with_reducible refine Mem.zbelow ‹_› (Mem.vof ?_) ?_) <;> (simp [go_sem]; done)) | (simp [go_sem, *]; done)
    go_split_ands
    have hzw10 : w.heap.size + 1 < w1.heap.size := Mem.clt (a := ⟨w.heap.size + 1, 0, none⟩) ‹_›
    have hzw11 : w.heap.size + 1 + 1 < w1.heap.size := Mem.clt (a := ⟨w.heap.size + 1 + 1, 0, none⟩) ‹_›
    clear hb1
    go_wp2_with fail
    refine (made_bits _ _ _).mono ?_
    rintro e w2 ⟨rfl, hb2⟩
    have hS : w2.cell? ⟨w.heap.size + 1 + 1, 0, none⟩ = some (Mem.val w2 ⟨w.heap.size + 1 + 1, 0, none⟩) ∧ w2.cell? ⟨w.heap.size + 1 + 1, 1, none⟩ = some (Mem.val w2 ⟨w.heap.size + 1 + 1, 1, none⟩) ∧ w2.frozen? ⟨w.heap.size + 1 + 1, 0, none⟩ = false ∧ w2.frozen? ⟨w.heap.size + 1 + 1, 1, none⟩ = false ∧ Below w.heap.size w w2 := by
      (repeat' with_reducible apply And.intro) <;> first | with_reducible assumption | ((repeat (first | with_reducible assumption | with_reducible exact Below.refl _ _ | ((with_reducible refine Mem.vnew ?_ ?_) <;> first | rfl | (simp; done)) | ((with_reducible refine Mem.cnew ?_ ?_) <;> first | rfl | (simp; done)) | ((with_reducible refine Mem.znew ?_) <;> first | rfl | (simp; done)) | with_reducible refine Mem.vdrew ?_ | with_reducible refine Mem.valloc _ ?_ | with_reducible refine Mem.vbelow ‹_› ?_ | with_reducible refine Mem.vset ?_ | with_reducible refine Mem.cdrew ?_ | with_reducible refine Mem.calloc _ ?_ | with_reducible refine Mem.bdrew ?_ | with_reducible refine Mem.cbelow ‹_› ?_ | with_reducible refine Mem.zdrew ?_ | with_reducible refine Mem.zalloc _ ?_ ?_ | with_reducible refine Mem.zbelow ‹_› ?_ ?_ | with_reducible refine Mem.zset ?_ | (with_reducible refine Mem.cset ?_ ?_; rotate_left; focus (first | (simp; done) | (simp; omega))) | (with_reducible refine Mem.balloc ?_ ?_ _; rotate_left; focus (first | (simp; done) | (simp; omega))) | (with_reducible refine Mem.bset ?_ ?_ _; rotate_left; focus (first | (simp; done) | (simp; omega))) | (with_reducible refine Mem.bbelow ?_ ?_ ‹_›; rotate_left; focus (first | (simp; done) | (simp; omega))))); done) | (simp [go_sem]; done) | (with_reducible refine Mem.cbelow ‹_› ?_; simp [go_sem, *]; done) | (with_reducible refine Mem.vbelow ‹_› (Mem.vof ?_); simp [go_sem]; done) | ((with_reducible refine Mem.zbelow ‹_› (Mem.vof ?_) ?_) <;> (simp [go_sem]; done)) | (simp [go_sem, *]; done)
    go_split_ands
    have hzw20 : w.heap.size + 1 + 1 < w2.heap.size := Mem.clt (a := ⟨w.heap.size + 1 + 1, 0, none⟩) ‹_›
    clear hb2
    go_wp2
    obtain ⟨g0, g1⟩ := Mem.two_set (W := w2) (g := w.heap.size + 1 + 1) (x := .int .u8 (v.toNat : Int)) (y := .int .u8 (t.toNat : Int)) (Mem.vis ‹_›) (Mem.vis ‹_›)
    refine bodyPost_ret (v := .agg #[.int .u8 (v.toNat : Int), .int .u8 (t.toNat : Int)]) (by simp [results, Tryd.results21, go_sem, g0, g1]) rfl ⟨rfl, ?_⟩
    (repeat (first | with_reducible assumption | with_reducible exact Below.refl _ _ | ((with_reducible refine Mem.vnew ?_ ?_) <;> first | rfl | (simp; done)) | ((with_reducible refine Mem.cnew ?_ ?_) <;> first | rfl | (simp; done)) | ((with_reducible refine Mem.znew ?_) <;> first | rfl | (simp; done)) | with_reducible refine Mem.vdrew ?_ | with_reducible refine Mem.valloc _ ?_ | with_reducible refine Mem.vbelow ‹_› ?_ | with_reducible refine Mem.vset ?_ | with_reducible refine Mem.cdrew ?_ | with_reducible refine Mem.calloc _ ?_ | with_reducible refine Mem.bdrew ?_ | with_reducible refine Mem.cbelow ‹_› ?_ | with_reducible refine Mem.zdrew ?_ | with_reducible refine Mem.zalloc _ ?_ ?_ | with_reducible refine Mem.zbelow ‹_› ?_ ?_ | with_reducible refine Mem.zset ?_ | (with_reducible refine Mem.cset ?_ ?_; rotate_left; focus (first | (simp; done) | (simp; omega))) | (with_reducible refine Mem.balloc ?_ ?_ _; rotate_left; focus (first | (simp; done) | (simp; omega))) | (with_reducible refine Mem.bset ?_ ?_ _; rotate_left; focus (first | (simp; done) | (simp; omega))) | (with_reducible refine Mem.bbelow ?_ ?_ ‹_›; rotate_left; focus (first | (simp; done) | (simp; omega)))))
  · have h1 : 0 ≤ i := by omega
    have h2 : ¬ i < 8 := by omega
    go_enter Tryd.func21, Tryd.ntmps21
    go_wp2_with fail
    refine (rbits_any _ _ _).mono ?_
    rintro e w1 ⟨rfl, hb1⟩
    have hS : w1.cell? ⟨w.heap.size + 1, 0, none⟩ = some (.bool b) ∧ w1.cell? ⟨w.heap.size + 1, 1, none⟩ = some (.bool s) ∧ w1.cell? ⟨w.heap.size + 1 + 1, 0, none⟩ = some (Mem.val w1 ⟨w.heap.size + 1 + 1, 0, none⟩) ∧ w1.cell? ⟨w.heap.size + 1 + 1, 1, none⟩ = some (Mem.val w1 ⟨w.heap.size + 1 + 1, 1, none⟩) ∧ w1.frozen? ⟨w.heap.size + 1 + 1, 0, none⟩ = false ∧ w1.frozen? ⟨w.heap.size + 1 + 1, 1, none⟩ = false ∧ Below w.heap.size w w1 := by
      (repeat' with_reducible apply And.intro) <;> first | with_reducible assumption | ((repeat (first | with_reducible assumption | with_reducible exact Below.refl _ _ | ((with_reducible refine Mem.vnew ?_ ?_) <;> first | rfl | (simp; done)) | ((with_reducible refine Mem.cnew ?_ ?_) <;> first | rfl | (simp; done)) | ((with_reducible refine Mem.znew ?_) <;> first | rfl | (simp; done)) | with_reducible refine Mem.vdrew ?_ | with_reducible refine Mem.valloc _ ?_ | with_reducible refine Mem.vbelow ‹_› ?_ | with_reducible refine Mem.vset ?_ | with_reducible refine Mem.cdrew ?_ | with_reducible refine Mem.calloc _ ?_ | with_reducible refine Mem.bdrew ?_ | with_reducible refine Mem.cbelow ‹_› ?_ | with_reducible refine Mem.zdrew ?_ | with_reducible refine Mem.zalloc _ ?_ ?_ | with_reducible refine Mem.zbelow ‹_› ?_ ?_ | with_reducible refine Mem.zset ?_ | (with_reducible refine Mem.cset ?_ ?_; rotate_left; focus (first | (simp; done) | (simp; omega))) | (with_reducible refine Mem.balloc ?_ ?_ _; rotate_left; focus (first | (simp; done) | (simp; omega))) | (with_reducible refine Mem.bset ?_ ?_ _; rotate_left; focus (first | (simp; done) | (simp; omega))) | (with_reducible refine Mem.bbelow ?_ ?_ ‹_›; rotate_left; focus (first | (simp; done) | (simp; omega))))); done) | (simp [go_sem]; done) | (with_reducible refine Mem.cbelow ‹_› ?_; simp [go_sem, *]; done) | (with_reducible refine Mem.vbelow ‹_› (Mem.vof ?_); simp [go_sem]; done) | ((with_reducible refine Mem.zbelow ‹_› (Mem.vof ?_) ?_) <;> (simp [go_sem]; done)) | (simp [go_sem, *]; done)
    go_split_ands
    have hzw10 : w.heap.size + 1 < w1.heap.size := Mem.clt (a := ⟨w.heap.size + 1, 0, none⟩) ‹_›
    have hzw11 : w.heap.size + 1 + 1 < w1.heap.size := Mem.clt (a := ⟨w.heap.size + 1 + 1, 0, none⟩) ‹_›
    clear hb1
    go_wp2_with fail
    refine (made_bits _ _ _).mono ?_
    rintro e w2 ⟨rfl, hb2⟩
    have hS : w2.cell? ⟨w.heap.size + 1 + 1, 0, none⟩ = some (Mem.val w2 ⟨w.heap.size + 1 + 1, 0, none⟩) ∧ w2.cell? ⟨w.heap.size + 1 + 1, 1, none⟩ = some (Mem.val w2 ⟨w.heap.size + 1 + 1, 1, none⟩) ∧ w2.frozen? ⟨w.heap.size + 1 + 1, 0, none⟩ = false ∧ w2.frozen? ⟨w.heap.size + 1 + 1, 1, none⟩ = false ∧ Below w.heap.size w w2 := by
      (repeat' with_reducible apply And.intro) <;> first | with_reducible assumption | ((repeat (first | with_reducible assumption | with_reducible exact Below.refl _ _ | ((with_reducible refine Mem.vnew ?_ ?_) <;> first | rfl | (simp; done)) | ((with_reducible refine Mem.cnew ?_ ?_) <;> first | rfl | (simp; done)) | ((with_reducible refine Mem.znew ?_) <;> first | rfl | (simp; done)) | with_reducible refine Mem.vdrew ?_ | with_reducible refine Mem.valloc _ ?_ | with_reducible refine Mem.vbelow ‹_› ?_ | with_reducible refine Mem.vset ?_ | with_reducible refine Mem.cdrew ?_ | with_reducible refine Mem.calloc _ ?_ | with_reducible refine Mem.bdrew ?_ | with_reducible refine Mem.cbelow ‹_› ?_ | with_reducible refine Mem.zdrew ?_ | with_reducible refine Mem.zalloc _ ?_ ?_ | with_reducible refine Mem.zbelow ‹_› ?_ ?_ | with_reducible refine Mem.zset ?_ | (with_reducible refine Mem.cset ?_ ?_; rotate_left; focus (first | (simp; done) | (simp; omega))) | (with_reducible refine Mem.balloc ?_ ?_ _; rotate_left; focus (first | (simp; done) | (simp; omega))) | (with_reducible refine Mem.bset ?_ ?_ _; rotate_left; focus (first | (simp; done) | (simp; omega))) | (with_reducible refine Mem.bbelow ?_ ?_ ‹_›; rotate_left; focus (first | (simp; done) | (simp; omega))))); done) | (simp [go_sem]; done) | (with_reducible refine Mem.cbelow ‹_› ?_; simp [go_sem, *]; done) | (with_reducible refine Mem.vbelow ‹_› (Mem.vof ?_); simp [go_sem]; done) | ((with_reducible refine Mem.zbelow ‹_› (Mem.vof ?_) ?_) <;> (simp [go_sem]; done)) | (simp [go_sem, *]; done)
    go_split_ands
    have hzw20 : w.heap.size + 1 + 1 < w2.heap.size := Mem.clt (a := ⟨w.heap.size + 1 + 1, 0, none⟩) ‹_›
    clear hb2
    go_wp2
    obtain ⟨g0, g1⟩ := Mem.two_set (W := w2) (g := w.heap.size + 1 + 1) (x := .int .u8 (v.toNat : Int)) (y := .int .u8 (t.toNat : Int)) (Mem.vis ‹_›) (Mem.vis ‹_›)
    refine bodyPost_ret (v := .agg #[.int .u8 (v.toNat : Int), .int .u8 (t.toNat : Int)]) (by simp [results, Tryd.results21, go_sem, g0, g1]) rfl ⟨rfl, ?_⟩
    (repeat (first | with_reducible assumption | with_reducible exact Below.refl _ _ | ((with_reducible refine Mem.vnew ?_ ?_) <;> first | rfl | (simp; done)) | ((with_reducible refine Mem.cnew ?_ ?_) <;> first | rfl | (simp; done)) | ((with_reducible refine Mem.znew ?_) <;> first | rfl | (simp; done)) | with_reducible refine Mem.vdrew ?_ | with_reducible refine Mem.valloc _ ?_ | with_reducible refine Mem.vbelow ‹_› ?_ | with_reducible refine Mem.vset ?_ | with_reducible refine Mem.cdrew ?_ | with_reducible refine Mem.calloc _ ?_ | with_reducible refine Mem.bdrew ?_ | with_reducible refine Mem.cbelow ‹_› ?_ | with_reducible refine Mem.zdrew ?_ | with_reducible refine Mem.zalloc _ ?_ ?_ | with_reducible refine Mem.zbelow ‹_› ?_ ?_ | with_reducible refine Mem.zset ?_ | (with_reducible refine Mem.cset ?_ ?_; rotate_left; focus (first | (simp; done) | (simp; omega))) | (with_reducible refine Mem.balloc ?_ ?_ _; rotate_left; focus (first | (simp; done) | (simp; omega))) | (with_reducible refine Mem.bset ?_ ?_ _; rotate_left; focus (first | (simp; done) | (simp; omega))) | (with_reducible refine Mem.bbelow ?_ ?_ ‹_›; rotate_left; focus (first | (simp; done) | (simp; omega)))))
end Go.Proofs.YtodfgcbgiaboiaaDoor
