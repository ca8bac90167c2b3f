/-
  Walks: the document's answer for flags (cochinealref03): Pushed.
-/
-- KEEP3
import Derived.Test.YtodfgcbgiaboiaaDoorFAll
import Derived.Test.YtodfgcbgiaboiaaDoorRBits
import Derived.Test.YtodfgcbgiaboiaaDoorMem12
namespace Go.Proofs.YtodfgcbgiaboiaaDoor
open Go Go.RowKit

set_option maxHeartbeats 2000000 in
theorem rpushed_any (v t : BitVec 8) (b : Bool) (w : World) : Calls Tryd.prog 23 #[.agg #[.int .u8 (v.toNat : Int), .int .u8 (t.toNat : Int)], .bool b] w fun e w' => e = .returned (.agg #[.int .u8 ((U8.putB (U8.putB (v) 5 true) 4 b).toNat : Int), .int .u8 ((U8.putB (U8.putB (t) 5 false) 4 false).toNat : Int)]) ∧ Below w.heap.size w w' := by
  go_enter Tryd.func23, Tryd.ntmps23
  go_wp2_with fail
  refine (rput_5 v t true false _).mono ?_
  rintro e w1 ⟨rfl, b1⟩
  have hS : w1.cell? ⟨w.heap.size, 0, none⟩ = some (Mem.val w1 ⟨w.heap.size, 0, none⟩) ∧ w1.cell? ⟨w.heap.size, 1, none⟩ = some (Mem.val w1 ⟨w.heap.size, 1, none⟩) ∧ w1.frozen? ⟨w.heap.size, 0, none⟩ = false ∧ w1.frozen? ⟨w.heap.size, 1, none⟩ = false ∧ w1.cell? ⟨w.heap.size + 1, 0, none⟩ = some (Mem.val w1 ⟨w.heap.size + 1, 0, none⟩) ∧ w1.cell? ⟨w.heap.size + 1, 1, none⟩ = some (Mem.val w1 ⟨w.heap.size + 1, 1, none⟩) ∧ w1.frozen? ⟨w.heap.size + 1, 0, none⟩ = false ∧ w1.frozen? ⟨w.heap.size + 1, 1, none⟩ = false ∧ Below w.heap.size w w1 := by
    (repeat' with_reducible apply And.intro) <;> first | with_reducible assumption | ((repeat (first | with_reducible assumption | with_reducible exact Below.refl _ _ | with_reducible exact Mem.vsome ‹_› | ((with_reducible refine Mem.vnew ?_ ?_) <;> first | rfl | (simp; done)) | ((with_reducible refine Mem.cnew ?_ ?_) <;> first | rfl | (simp; done)) | ((with_reducible refine Mem.znew ?_) <;> first | rfl | (simp; done)) | with_reducible refine Mem.vdrew ?_ | with_reducible refine Mem.valloc _ ?_ | with_reducible refine Mem.vbelow ‹_› ?_ | with_reducible refine Mem.vset ?_ | with_reducible refine Mem.cdrew ?_ | with_reducible refine Mem.calloc _ ?_ | with_reducible refine Mem.bdrew ?_ | with_reducible refine Mem.cbelow ‹_› ?_ | with_reducible refine Mem.zdrew ?_ | with_reducible refine Mem.zalloc _ ?_ ?_ | with_reducible refine Mem.zbelow ‹_› ?_ ?_ | with_reducible refine Mem.zset ?_ | (with_reducible refine Mem.cset ?_ ?_; rotate_left; focus (first | (simp; done) | (simp; omega))) | (with_reducible refine Mem.balloc ?_ ?_ _; rotate_left; focus (first | (simp; done) | (simp; omega))) | (with_reducible refine Mem.bset ?_ ?_ _; rotate_left; focus (first | (simp; done) | (simp; omega))) | (with_reducible refine Mem.bbelow ?_ ?_ ‹_›; rotate_left; focus (first | (simp; done) | (simp; omega))))); done) | (simp [go_sem]; done) | (with_reducible refine Mem.cbelow ‹_› ?_; simp [go_sem, *]; done) | (with_reducible refine Mem.vbelow ‹_› (Mem.vof ?_); simp [go_sem]; done) | ((with_reducible refine Mem.zbelow ‹_› (Mem.vof ?_) ?_) <;> (simp [go_sem]; done)) | (simp [go_sem, *]; done)
  go_split_ands
  have hzw10 : w.heap.size < w1.heap.size := Mem.clt (a := ⟨w.heap.size, 0, none⟩) ‹_›
  have hzw11 : w.heap.size + 1 < w1.heap.size := Mem.clt (a := ⟨w.heap.size + 1, 0, none⟩) ‹_›
  clear b1
  go_wp2_with fail
  refine (rput_4 _ _ b false _).mono ?_
  rintro e w2 ⟨rfl, b2⟩
  have hS : w2.cell? ⟨w.heap.size + 1, 0, none⟩ = some (Mem.val w2 ⟨w.heap.size + 1, 0, none⟩) ∧ w2.cell? ⟨w.heap.size + 1, 1, none⟩ = some (Mem.val w2 ⟨w.heap.size + 1, 1, none⟩) ∧ w2.frozen? ⟨w.heap.size + 1, 0, none⟩ = false ∧ w2.frozen? ⟨w.heap.size + 1, 1, none⟩ = false ∧ Below w.heap.size w w2 := by
    (repeat' with_reducible apply And.intro) <;> first | with_reducible assumption | ((repeat (first | with_reducible assumption | with_reducible exact Below.refl _ _ | with_reducible exact Mem.vsome ‹_› | ((with_reducible refine Mem.vnew ?_ ?_) <;> first | rfl | (simp; done)) | ((with_reducible refine Mem.cnew ?_ ?_) <;> first | rfl | (simp; done)) | ((with_reducible refine Mem.znew ?_) <;> first | rfl | (simp; done)) | with_reducible refine Mem.vdrew ?_ | with_reducible refine Mem.valloc _ ?_ | with_reducible refine Mem.vbelow ‹_› ?_ | with_reducible refine Mem.vset ?_ | with_reducible refine Mem.cdrew ?_ | with_reducible refine Mem.calloc _ ?_ | with_reducible refine Mem.bdrew ?_ | with_reducible refine Mem.cbelow ‹_› ?_ | with_reducible refine Mem.zdrew ?_ | with_reducible refine Mem.zalloc _ ?_ ?_ | with_reducible refine Mem.zbelow ‹_› ?_ ?_ | with_reducible refine Mem.zset ?_ | (with_reducible refine Mem.cset ?_ ?_; rotate_left; focus (first | (simp; done) | (simp; omega))) | (with_reducible refine Mem.balloc ?_ ?_ _; rotate_left; focus (first | (simp; done) | (simp; omega))) | (with_reducible refine Mem.bset ?_ ?_ _; rotate_left; focus (first | (simp; done) | (simp; omega))) | (with_reducible refine Mem.bbelow ?_ ?_ ‹_›; rotate_left; focus (first | (simp; done) | (simp; omega))))); done) | (simp [go_sem]; done) | (with_reducible refine Mem.cbelow ‹_› ?_; simp [go_sem, *]; done) | (with_reducible refine Mem.vbelow ‹_› (Mem.vof ?_); simp [go_sem]; done) | ((with_reducible refine Mem.zbelow ‹_› (Mem.vof ?_) ?_) <;> (simp [go_sem]; done)) | (simp [go_sem, *]; done)
  go_split_ands
  have hzw20 : w.heap.size + 1 < w2.heap.size := Mem.clt (a := ⟨w.heap.size + 1, 0, none⟩) ‹_›
  clear b2
  go_wp2_with fail
  refine Mem.gate (fun W => Below w.heap.size w W ∧ W.cell? ⟨w.heap.size + 1, 0, none⟩ = some (.int .u8 ((U8.putB (U8.putB (v) 5 true) 4 b).toNat : Int)) ∧ W.cell? ⟨w.heap.size + 1, 1, none⟩ = some (.int .u8 ((U8.putB (U8.putB (t) 5 false) 4 false).toNat : Int))) ?_ ?_
  · refine ⟨?_, Mem.two_new rfl ?_ ?_⟩
    all_goals ((repeat' with_reducible apply And.intro) <;> first | with_reducible assumption | ((repeat (first | with_reducible assumption | with_reducible exact Below.refl _ _ | with_reducible exact Mem.vsome ‹_› | ((with_reducible refine Mem.vnew ?_ ?_) <;> first | rfl | (simp; done)) | ((with_reducible refine Mem.cnew ?_ ?_) <;> first | rfl | (simp; done)) | ((with_reducible refine Mem.znew ?_) <;> first | rfl | (simp; done)) | with_reducible refine Mem.vdrew ?_ | with_reducible refine Mem.valloc _ ?_ | with_reducible refine Mem.vbelow ‹_› ?_ | with_reducible refine Mem.vset ?_ | with_reducible refine Mem.cdrew ?_ | with_reducible refine Mem.calloc _ ?_ | with_reducible refine Mem.bdrew ?_ | with_reducible refine Mem.cbelow ‹_› ?_ | with_reducible refine Mem.zdrew ?_ | with_reducible refine Mem.zalloc _ ?_ ?_ | with_reducible refine Mem.zbelow ‹_› ?_ ?_ | with_reducible refine Mem.zset ?_ | (with_reducible refine Mem.cset ?_ ?_; rotate_left; focus (first | (simp; done) | (simp; omega))) | (with_reducible refine Mem.balloc ?_ ?_ _; rotate_left; focus (first | (simp; done) | (simp; omega))) | (with_reducible refine Mem.bset ?_ ?_ _; rotate_left; focus (first | (simp; done) | (simp; omega))) | (with_reducible refine Mem.bbelow ?_ ?_ ‹_›; rotate_left; focus (first | (simp; done) | (simp; omega))))); done) | (simp [go_sem]; done) | (with_reducible refine Mem.cbelow ‹_› ?_; simp [go_sem, *]; done) | (with_reducible refine Mem.vbelow ‹_› (Mem.vof ?_); simp [go_sem]; done) | ((with_reducible refine Mem.zbelow ‹_› (Mem.vof ?_) ?_) <;> (simp [go_sem]; done)) | (simp [go_sem, *]; done))
  · rintro wz ⟨hB, g0, g1⟩
    refine bodyPost_ret (v := .agg #[.int .u8 ((U8.putB (U8.putB (v) 5 true) 4 b).toNat : Int), .int .u8 ((U8.putB (U8.putB (t) 5 false) 4 false).toNat : Int)]) (by simp [results, Tryd.results23, go_sem, g0, g1]) rfl ⟨rfl, ?_⟩
    exact hB
end Go.Proofs.YtodfgcbgiaboiaaDoor
