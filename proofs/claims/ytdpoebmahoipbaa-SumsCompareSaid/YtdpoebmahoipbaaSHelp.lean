/-
  Walks: the chapter's examples hold (cochineallaw02.awake), and what yes, alike return.
-/
-- KEEP3
import Derived.Test.YtdpoebmahoipbaaSAll
import Derived.Test.YtdpoebmahoipbaaTaint
namespace Go.Proofs.Ytdpoebmahoipbaa
open Go Go.RowKit

theorem yes_any (w : World) : Calls Try.prog 18 #[] w fun e w' => e = .returned (.agg #[.bool true, .bool false]) ∧ Below w.heap.size w w' := by
  go_enter Try.func18, Try.ntmps18
  go_wp2
  refine bodyPost_ret (v := .agg #[.bool true, .bool false]) (by simp [results, Try.results18, go_sem]) rfl ⟨rfl, ?_⟩
  (repeat (first | with_reducible assumption | with_reducible exact Below.refl _ _ | with_reducible exact Mem.vsome ‹_› | ((with_reducible refine Mem.vnew ?_ ?_) <;> first | rfl | (simp; done)) | ((with_reducible refine Mem.cnew ?_ ?_) <;> first | rfl | (simp; done)) | ((with_reducible refine Mem.znew ?_) <;> first | rfl | (simp; done)) | with_reducible refine Mem.vdrew ?_ | with_reducible refine Mem.valloc _ ?_ | with_reducible refine Mem.vbelow ‹_› ?_ | with_reducible refine Mem.vset ?_ | with_reducible refine Mem.cdrew ?_ | with_reducible refine Mem.calloc _ ?_ | with_reducible refine Mem.bdrew ?_ | with_reducible refine Mem.cbelow ‹_› ?_ | with_reducible refine Mem.zdrew ?_ | with_reducible refine Mem.zalloc _ ?_ ?_ | with_reducible refine Mem.zbelow ‹_› ?_ ?_ | with_reducible refine Mem.zset ?_ | (with_reducible refine Mem.cset ?_ ?_; rotate_left; focus (first | (simp; done) | (simp; omega))) | (with_reducible refine Mem.balloc ?_ ?_ _; rotate_left; focus (first | (simp; done) | (simp; omega))) | (with_reducible refine Mem.bset ?_ ?_ _; rotate_left; focus (first | (simp; done) | (simp; omega))) | (with_reducible refine Mem.bbelow ?_ ?_ ‹_›; rotate_left; focus (first | (simp; done) | (simp; omega)))))
theorem of_37 (w : World) : Calls Try.prog 17 #[.int .i64 37] w fun e w' => e = .returned (.agg #[.int .u8 37, .int .u8 0]) ∧ Below w.heap.size w w' := of_any 37 w
theorem of_72 (w : World) : Calls Try.prog 17 #[.int .i64 72] w fun e w' => e = .returned (.agg #[.int .u8 72, .int .u8 0]) ∧ Below w.heap.size w w' := of_any 72 w
theorem of_88 (w : World) : Calls Try.prog 17 #[.int .i64 88] w fun e w' => e = .returned (.agg #[.int .u8 88, .int .u8 0]) ∧ Below w.heap.size w w' := of_any 88 w
theorem of_70 (w : World) : Calls Try.prog 17 #[.int .i64 70] w fun e w' => e = .returned (.agg #[.int .u8 70, .int .u8 0]) ∧ Below w.heap.size w w' := of_any 70 w
theorem sum_1 : U8.addS 37#8 0#8 72#8 0#8 false false true false = ⟨115#8, 0#8, false, false, false, false, false, false, false, false⟩ := by kernel_rfl
theorem sum_2 : U8.addS 88#8 0#8 70#8 0#8 true false true false = ⟨5#8, 0#8, true, false, true, false, false, false, true, false⟩ := by kernel_rfl
theorem add_1 (w : World) : Calls Try.prog 12 #[.agg #[.int .u8 37, .int .u8 0], .agg #[.int .u8 72, .int .u8 0], .agg #[.bool false, .bool false], .agg #[.bool true, .bool false]] w fun e w' =>
    e = .returned (.agg #[.int .u8 115, .int .u8 0, .bool false, .bool false, .bool false, .bool false, .bool false, .bool false, .bool false, .bool false]) ∧ Below w.heap.size w w' := by
  have h := add_any 37#8 0#8 72#8 0#8 false false true false w
  rw [sum_1] at h
  exact h
theorem add_2 (w : World) : Calls Try.prog 12 #[.agg #[.int .u8 88, .int .u8 0], .agg #[.int .u8 70, .int .u8 0], .agg #[.bool true, .bool false], .agg #[.bool true, .bool false]] w fun e w' =>
    e = .returned (.agg #[.int .u8 5, .int .u8 0, .bool true, .bool false, .bool true, .bool false, .bool false, .bool false, .bool true, .bool false]) ∧ Below w.heap.size w w' := by
  have h := add_any 88#8 0#8 70#8 0#8 true false true false w
  rw [sum_2] at h
  exact h

set_option maxHeartbeats 2000000 in
theorem awake_any (w : World) : Calls Try.prog 14 #[] w fun e w' => e = .returned (.bool true) ∧ Below w.heap.size w w' := by
  go_enter Try.func14, Try.ntmps14
  go_wp2_with fail
  refine (of_37 _).mono ?_
  rintro e w1 ⟨rfl, h1⟩
  go_wp2_with fail
  refine (of_72 _).mono ?_
  rintro e w2 ⟨rfl, h2⟩
  go_wp2_with fail
  refine (yes_any _).mono ?_
  rintro e w3 ⟨rfl, h3⟩
  go_wp2_with fail
  refine (add_1 _).mono ?_
  rintro e w4 ⟨rfl, h4⟩
  go_wp2_with fail
  refine (of_88 _).mono ?_
  rintro e w5 ⟨rfl, h5⟩
  have hS : w5.cell? ⟨w4.heap.size, 0, none⟩ = some (.int .u8 115) ∧ w5.cell? ⟨w4.heap.size, 1, none⟩ = some (.int .u8 0) ∧ w5.cell? ⟨w4.heap.size, 2, none⟩ = some (.bool false) ∧ w5.cell? ⟨w4.heap.size, 3, none⟩ = some (.bool false) ∧ w5.cell? ⟨w4.heap.size, 4, none⟩ = some (.bool false) ∧ w5.cell? ⟨w4.heap.size, 5, none⟩ = some (.bool false) ∧ w5.cell? ⟨w4.heap.size, 6, none⟩ = some (.bool false) ∧ w5.cell? ⟨w4.heap.size, 7, none⟩ = some (.bool false) ∧ w5.cell? ⟨w4.heap.size, 8, none⟩ = some (.bool false) ∧ w5.cell? ⟨w4.heap.size, 9, none⟩ = some (.bool false) ∧ Below w.heap.size w w5 := by
    (repeat' with_reducible apply And.intro) <;> first | with_reducible assumption | ((repeat (first | with_reducible assumption | with_reducible exact Below.refl _ _ | with_reducible exact Mem.vsome ‹_› | ((with_reducible refine Mem.vnew ?_ ?_) <;> first | rfl | (simp; done)) | ((with_reducible refine Mem.cnew ?_ ?_) <;> first | rfl | (simp; done)) | ((with_reducible refine Mem.znew ?_) <;> first | rfl | (simp; done)) | with_reducible refine Mem.vdrew ?_ | with_reducible refine Mem.valloc _ ?_ | with_reducible refine Mem.vbelow ‹_› ?_ | with_reducible refine Mem.vset ?_ | with_reducible refine Mem.cdrew ?_ | with_reducible refine Mem.calloc _ ?_ | with_reducible refine Mem.bdrew ?_ | with_reducible refine Mem.cbelow ‹_› ?_ | with_reducible refine Mem.zdrew ?_ | with_reducible refine Mem.zalloc _ ?_ ?_ | with_reducible refine Mem.zbelow ‹_› ?_ ?_ | with_reducible refine Mem.zset ?_ | (with_reducible refine Mem.cset ?_ ?_; rotate_left; focus (first | (simp; done) | (simp; omega))) | (with_reducible refine Mem.balloc ?_ ?_ _; rotate_left; focus (first | (simp; done) | (simp; omega))) | (with_reducible refine Mem.bset ?_ ?_ _; rotate_left; focus (first | (simp; done) | (simp; omega))) | (with_reducible refine Mem.bbelow ?_ ?_ ‹_›; rotate_left; focus (first | (simp; done) | (simp; omega))))); done) | (simp [go_sem]; done) | (with_reducible refine Mem.cbelow ‹_› ?_; simp [go_sem, *]; done) | (with_reducible refine Mem.vbelow ‹_› (Mem.vof ?_); simp [go_sem]; done) | ((with_reducible refine Mem.zbelow ‹_› (Mem.vof ?_) ?_) <;> (simp [go_sem]; done)) | (simp [go_sem, *]; done)
  go_split_ands
  have hzw50 : w4.heap.size < w5.heap.size := Mem.clt (a := ⟨w4.heap.size, 0, none⟩) ‹_›
  clear h5
  go_wp2_with fail
  refine (of_70 _).mono ?_
  rintro e w6 ⟨rfl, h6⟩
  have hS : w6.cell? ⟨w4.heap.size, 0, none⟩ = some (.int .u8 115) ∧ w6.cell? ⟨w4.heap.size, 1, none⟩ = some (.int .u8 0) ∧ w6.cell? ⟨w4.heap.size, 2, none⟩ = some (.bool false) ∧ w6.cell? ⟨w4.heap.size, 3, none⟩ = some (.bool false) ∧ w6.cell? ⟨w4.heap.size, 4, none⟩ = some (.bool false) ∧ w6.cell? ⟨w4.heap.size, 5, none⟩ = some (.bool false) ∧ w6.cell? ⟨w4.heap.size, 6, none⟩ = some (.bool false) ∧ w6.cell? ⟨w4.heap.size, 7, none⟩ = some (.bool false) ∧ w6.cell? ⟨w4.heap.size, 8, none⟩ = some (.bool false) ∧ w6.cell? ⟨w4.heap.size, 9, none⟩ = some (.bool false) ∧ Below w.heap.size w w6 := by
    (repeat' with_reducible apply And.intro) <;> first | with_reducible assumption | ((repeat (first | with_reducible assumption | with_reducible exact Below.refl _ _ | with_reducible exact Mem.vsome ‹_› | ((with_reducible refine Mem.vnew ?_ ?_) <;> first | rfl | (simp; done)) | ((with_reducible refine Mem.cnew ?_ ?_) <;> first | rfl | (simp; done)) | ((with_reducible refine Mem.znew ?_) <;> first | rfl | (simp; done)) | with_reducible refine Mem.vdrew ?_ | with_reducible refine Mem.valloc _ ?_ | with_reducible refine Mem.vbelow ‹_› ?_ | with_reducible refine Mem.vset ?_ | with_reducible refine Mem.cdrew ?_ | with_reducible refine Mem.calloc _ ?_ | with_reducible refine Mem.bdrew ?_ | with_reducible refine Mem.cbelow ‹_› ?_ | with_reducible refine Mem.zdrew ?_ | with_reducible refine Mem.zalloc _ ?_ ?_ | with_reducible refine Mem.zbelow ‹_› ?_ ?_ | with_reducible refine Mem.zset ?_ | (with_reducible refine Mem.cset ?_ ?_; rotate_left; focus (first | (simp; done) | (simp; omega))) | (with_reducible refine Mem.balloc ?_ ?_ _; rotate_left; focus (first | (simp; done) | (simp; omega))) | (with_reducible refine Mem.bset ?_ ?_ _; rotate_left; focus (first | (simp; done) | (simp; omega))) | (with_reducible refine Mem.bbelow ?_ ?_ ‹_›; rotate_left; focus (first | (simp; done) | (simp; omega))))); done) | (simp [go_sem]; done) | (with_reducible refine Mem.cbelow ‹_› ?_; simp [go_sem, *]; done) | (with_reducible refine Mem.vbelow ‹_› (Mem.vof ?_); simp [go_sem]; done) | ((with_reducible refine Mem.zbelow ‹_› (Mem.vof ?_) ?_) <;> (simp [go_sem]; done)) | (simp [go_sem, *]; done)
  go_split_ands
  have hzw60 : w4.heap.size < w6.heap.size := Mem.clt (a := ⟨w4.heap.size, 0, none⟩) ‹_›
  clear h6
  go_wp2_with fail
  refine (yes_any _).mono ?_
  rintro e w7 ⟨rfl, h7⟩
  have hS : w7.cell? ⟨w4.heap.size, 0, none⟩ = some (.int .u8 115) ∧ w7.cell? ⟨w4.heap.size, 1, none⟩ = some (.int .u8 0) ∧ w7.cell? ⟨w4.heap.size, 2, none⟩ = some (.bool false) ∧ w7.cell? ⟨w4.heap.size, 3, none⟩ = some (.bool false) ∧ w7.cell? ⟨w4.heap.size, 4, none⟩ = some (.bool false) ∧ w7.cell? ⟨w4.heap.size, 5, none⟩ = some (.bool false) ∧ w7.cell? ⟨w4.heap.size, 6, none⟩ = some (.bool false) ∧ w7.cell? ⟨w4.heap.size, 7, none⟩ = some (.bool false) ∧ w7.cell? ⟨w4.heap.size, 8, none⟩ = some (.bool false) ∧ w7.cell? ⟨w4.heap.size, 9, none⟩ = some (.bool false) ∧ Below w.heap.size w w7 := by
    (repeat' with_reducible apply And.intro) <;> first | with_reducible assumption | ((repeat (first | with_reducible assumption | with_reducible exact Below.refl _ _ | with_reducible exact Mem.vsome ‹_› | ((with_reducible refine Mem.vnew ?_ ?_) <;> first | rfl | (simp; done)) | ((with_reducible refine Mem.cnew ?_ ?_) <;> first | rfl | (simp; done)) | ((with_reducible refine Mem.znew ?_) <;> first | rfl | (simp; done)) | with_reducible refine Mem.vdrew ?_ | with_reducible refine Mem.valloc _ ?_ | with_reducible refine Mem.vbelow ‹_› ?_ | with_reducible refine Mem.vset ?_ | with_reducible refine Mem.cdrew ?_ | with_reducible refine Mem.calloc _ ?_ | with_reducible refine Mem.bdrew ?_ | with_reducible refine Mem.cbelow ‹_› ?_ | with_reducible refine Mem.zdrew ?_ | with_reducible refine Mem.zalloc _ ?_ ?_ | with_reducible refine Mem.zbelow ‹_› ?_ ?_ | with_reducible refine Mem.zset ?_ | (with_reducible refine Mem.cset ?_ ?_; rotate_left; focus (first | (simp; done) | (simp; omega))) | (with_reducible refine Mem.balloc ?_ ?_ _; rotate_left; focus (first | (simp; done) | (simp; omega))) | (with_reducible refine Mem.bset ?_ ?_ _; rotate_left; focus (first | (simp; done) | (simp; omega))) | (with_reducible refine Mem.bbelow ?_ ?_ ‹_›; rotate_left; focus (first | (simp; done) | (simp; omega))))); done) | (simp [go_sem]; done) | (with_reducible refine Mem.cbelow ‹_› ?_; simp [go_sem, *]; done) | (with_reducible refine Mem.vbelow ‹_› (Mem.vof ?_); simp [go_sem]; done) | ((with_reducible refine Mem.zbelow ‹_› (Mem.vof ?_) ?_) <;> (simp [go_sem]; done)) | (simp [go_sem, *]; done)
  go_split_ands
  have hzw70 : w4.heap.size < w7.heap.size := Mem.clt (a := ⟨w4.heap.size, 0, none⟩) ‹_›
  clear h7
  go_wp2_with fail
  refine (yes_any _).mono ?_
  rintro e w8 ⟨rfl, h8⟩
  have hS : w8.cell? ⟨w4.heap.size, 0, none⟩ = some (.int .u8 115) ∧ w8.cell? ⟨w4.heap.size, 1, none⟩ = some (.int .u8 0) ∧ w8.cell? ⟨w4.heap.size, 2, none⟩ = some (.bool false) ∧ w8.cell? ⟨w4.heap.size, 3, none⟩ = some (.bool false) ∧ w8.cell? ⟨w4.heap.size, 4, none⟩ = some (.bool false) ∧ w8.cell? ⟨w4.heap.size, 5, none⟩ = some (.bool false) ∧ w8.cell? ⟨w4.heap.size, 6, none⟩ = some (.bool false) ∧ w8.cell? ⟨w4.heap.size, 7, none⟩ = some (.bool false) ∧ w8.cell? ⟨w4.heap.size, 8, none⟩ = some (.bool false) ∧ w8.cell? ⟨w4.heap.size, 9, none⟩ = some (.bool false) ∧ Below w.heap.size w w8 := by
    (repeat' with_reducible apply And.intro) <;> first | with_reducible assumption | ((repeat (first | with_reducible assumption | with_reducible exact Below.refl _ _ | with_reducible exact Mem.vsome ‹_› | ((with_reducible refine Mem.vnew ?_ ?_) <;> first | rfl | (simp; done)) | ((with_reducible refine Mem.cnew ?_ ?_) <;> first | rfl | (simp; done)) | ((with_reducible refine Mem.znew ?_) <;> first | rfl | (simp; done)) | with_reducible refine Mem.vdrew ?_ | with_reducible refine Mem.valloc _ ?_ | with_reducible refine Mem.vbelow ‹_› ?_ | with_reducible refine Mem.vset ?_ | with_reducible refine Mem.cdrew ?_ | with_reducible refine Mem.calloc _ ?_ | with_reducible refine Mem.bdrew ?_ | with_reducible refine Mem.cbelow ‹_› ?_ | with_reducible refine Mem.zdrew ?_ | with_reducible refine Mem.zalloc _ ?_ ?_ | with_reducible refine Mem.zbelow ‹_› ?_ ?_ | with_reducible refine Mem.zset ?_ | (with_reducible refine Mem.cset ?_ ?_; rotate_left; focus (first | (simp; done) | (simp; omega))) | (with_reducible refine Mem.balloc ?_ ?_ _; rotate_left; focus (first | (simp; done) | (simp; omega))) | (with_reducible refine Mem.bset ?_ ?_ _; rotate_left; focus (first | (simp; done) | (simp; omega))) | (with_reducible refine Mem.bbelow ?_ ?_ ‹_›; rotate_left; focus (first | (simp; done) | (simp; omega))))); done) | (simp [go_sem]; done) | (with_reducible refine Mem.cbelow ‹_› ?_; simp [go_sem, *]; done) | (with_reducible refine Mem.vbelow ‹_› (Mem.vof ?_); simp [go_sem]; done) | ((with_reducible refine Mem.zbelow ‹_› (Mem.vof ?_) ?_) <;> (simp [go_sem]; done)) | (simp [go_sem, *]; done)
  go_split_ands
  have hzw80 : w4.heap.size < w8.heap.size := Mem.clt (a := ⟨w4.heap.size, 0, none⟩) ‹_›
  clear h8
  go_wp2_with fail
  refine (add_2 _).mono ?_
  rintro e w9 ⟨rfl, h9⟩
  have hS : w9.cell? ⟨w4.heap.size, 0, none⟩ = some (.int .u8 115) ∧ w9.cell? ⟨w4.heap.size, 1, none⟩ = some (.int .u8 0) ∧ w9.cell? ⟨w4.heap.size, 2, none⟩ = some (.bool false) ∧ w9.cell? ⟨w4.heap.size, 3, none⟩ = some (.bool false) ∧ w9.cell? ⟨w4.heap.size, 4, none⟩ = some (.bool false) ∧ w9.cell? ⟨w4.heap.size, 5, none⟩ = some (.bool false) ∧ w9.cell? ⟨w4.heap.size, 6, none⟩ = some (.bool false) ∧ w9.cell? ⟨w4.heap.size, 7, none⟩ = some (.bool false) ∧ w9.cell? ⟨w4.heap.size, 8, none⟩ = some (.bool false) ∧ w9.cell? ⟨w4.heap.size, 9, none⟩ = some (.bool false) ∧ Below w.heap.size w w9 := by
    (repeat' with_reducible apply And.intro) <;> first | with_reducible assumption | ((repeat (first | with_reducible assumption | with_reducible exact Below.refl _ _ | with_reducible exact Mem.vsome ‹_› | ((with_reducible refine Mem.vnew ?_ ?_) <;> first | rfl | (simp; done)) | ((with_reducible refine Mem.cnew ?_ ?_) <;> first | rfl | (simp; done)) | ((with_reducible refine Mem.znew ?_) <;> first | rfl | (simp; done)) | with_reducible refine Mem.vdrew ?_ | with_reducible refine Mem.valloc _ ?_ | with_reducible refine Mem.vbelow ‹_› ?_ | with_reducible refine Mem.vset ?_ | with_reducible refine Mem.cdrew ?_ | with_reducible refine Mem.calloc _ ?_ | with_reducible refine Mem.bdrew ?_ | with_reducible refine Mem.cbelow ‹_› ?_ | with_reducible refine Mem.zdrew ?_ | with_reducible refine Mem.zalloc _ ?_ ?_ | with_reducible refine Mem.zbelow ‹_› ?_ ?_ | with_reducible refine Mem.zset ?_ | (with_reducible refine Mem.cset ?_ ?_; rotate_left; focus (first | (simp; done) | (simp; omega))) | (with_reducible refine Mem.balloc ?_ ?_ _; rotate_left; focus (first | (simp; done) | (simp; omega))) | (with_reducible refine Mem.bset ?_ ?_ _; rotate_left; focus (first | (simp; done) | (simp; omega))) | (with_reducible refine Mem.bbelow ?_ ?_ ‹_›; rotate_left; focus (first | (simp; done) | (simp; omega))))); done) | (simp [go_sem]; done) | (with_reducible refine Mem.cbelow ‹_› ?_; simp [go_sem, *]; done) | (with_reducible refine Mem.vbelow ‹_› (Mem.vof ?_); simp [go_sem]; done) | ((with_reducible refine Mem.zbelow ‹_› (Mem.vof ?_) ?_) <;> (simp [go_sem]; done)) | (simp [go_sem, *]; done)
  go_split_ands
  have hzw90 : w4.heap.size < w9.heap.size := Mem.clt (a := ⟨w4.heap.size, 0, none⟩) ‹_›
  clear h9
  go_wp2
  go_ret
  exact ⟨rfl, by (repeat (first | with_reducible assumption | with_reducible exact Below.refl _ _ | with_reducible exact Mem.vsome ‹_› | ((with_reducible refine Mem.vnew ?_ ?_) <;> first | rfl | (simp; done)) | ((with_reducible refine Mem.cnew ?_ ?_) <;> first | rfl | (simp; done)) | ((with_reducible refine Mem.znew ?_) <;> first | rfl | (simp; done)) | with_reducible refine Mem.vdrew ?_ | with_reducible refine Mem.valloc _ ?_ | with_reducible refine Mem.vbelow ‹_› ?_ | with_reducible refine Mem.vset ?_ | with_reducible refine Mem.cdrew ?_ | with_reducible refine Mem.calloc _ ?_ | with_reducible refine Mem.bdrew ?_ | with_reducible refine Mem.cbelow ‹_› ?_ | with_reducible refine Mem.zdrew ?_ | with_reducible refine Mem.zalloc _ ?_ ?_ | with_reducible refine Mem.zbelow ‹_› ?_ ?_ | with_reducible refine Mem.zset ?_ | (with_reducible refine Mem.cset ?_ ?_; rotate_left; focus (first | (simp; done) | (simp; omega))) | (with_reducible refine Mem.balloc ?_ ?_ _; rotate_left; focus (first | (simp; done) | (simp; omega))) | (with_reducible refine Mem.bset ?_ ?_ _; rotate_left; focus (first | (simp; done) | (simp; omega))) | (with_reducible refine Mem.bbelow ?_ ?_ ‹_›; rotate_left; focus (first | (simp; done) | (simp; omega)))))⟩
end Go.Proofs.Ytdpoebmahoipbaa
