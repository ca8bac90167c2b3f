/-
  Walks: cochineallaw02.SumsKeep returns true, whatever the two bytes, the two bits, and by what their secrets are turned.
-/
-- KEEP3
import Derived.Test.YtdpoebmahoipbaaSHelp2
namespace Go.Proofs.Ytdpoebmahoipbaa
open Go Go.RowKit

set_option maxRecDepth 100000 in
set_option maxHeartbeats 40000000 in
theorem lkeep (va ta vb tb : BitVec 8) (b s d e0 : Bool) (i j k m : BitVec 8) (w : World) : Calls Try.prog 10 #[.agg #[.int .u8 (va.toNat : Int), .int .u8 (ta.toNat : Int), .int .u8 (vb.toNat : Int), .int .u8 (tb.toNat : Int), .bool b, .bool s, .bool d, .bool e0, .int .u8 (i.toNat : Int), .int .u8 (j.toNat : Int), .int .u8 (k.toNat : Int), .int .u8 (m.toNat : Int)]] w fun e w' =>
    e = .returned (.bool true) ∧ Below w.heap.size w w' := by
  obtain ⟨v1, hv1⟩ : ∃ x, x = U8.othV va ta i := ⟨_, rfl⟩
  obtain ⟨u1, hu1⟩ : ∃ x, x = U8.othV vb tb j := ⟨_, rfl⟩
  obtain ⟨b1, hb1⟩ : ∃ x, x = U8.othB b s k := ⟨_, rfl⟩
  obtain ⟨d1, hd1⟩ : ∃ x, x = U8.othB d e0 m := ⟨_, rfl⟩
  have lv : U8.Like va v1 ta := by rw [hv1]; exact U8.oth_like va ta i
  have lu : U8.Like vb u1 tb := by rw [hu1]; exact U8.oth_like vb tb j
  have lb : s = true ∨ b = b1 := by rw [hb1]; exact U8.oth_ways b s k
  have ld : e0 = true ∨ d = d1 := by rw [hd1]; exact U8.oth_ways d e0 m
  obtain ⟨r1, hr1⟩ : ∃ x, x = U8.addS va ta vb tb b s d e0 := ⟨_, rfl⟩
  obtain ⟨r2, hr2⟩ : ∃ x, x = U8.addS v1 ta u1 tb b1 s d1 e0 := ⟨_, rfl⟩
  obtain ⟨r3, hr3⟩ : ∃ x, x = U8.subS va ta vb tb b s d e0 := ⟨_, rfl⟩
  obtain ⟨r4, hr4⟩ : ∃ x, x = U8.subS v1 ta u1 tb b1 s d1 e0 := ⟨_, rfl⟩
  obtain ⟨r5, hr5⟩ : ∃ x, x = U8.cmpS va ta vb tb := ⟨_, rfl⟩
  obtain ⟨r6, hr6⟩ : ∃ x, x = U8.cmpS v1 ta u1 tb := ⟨_, rfl⟩
  have K1 : U8.KeepS r1 r2 := by rw [hr1, hr2]; exact U8.keep_add lv lu lb ld
  have K2 : U8.KeepS r3 r4 := by rw [hr3, hr4]; exact U8.keep_sub lv lu lb ld
  have K3 : U8.KeepS r5 r6 := by rw [hr5, hr6]; exact U8.keep_cmp lv lu
  have f4 := U8.keep_step lv
  clear lv lu lb ld
  have Hv1 := Mem.hide hv1
  have Hu1 := Mem.hide hu1
  have Hb1 := Mem.hide hb1
  have Hd1 := Mem.hide hd1
  have Hr1 := Mem.hide hr1
  have Hr2 := Mem.hide hr2
  have Hr3 := Mem.hide hr3
  have Hr4 := Mem.hide hr4
  have Hr5 := Mem.hide hr5
  have Hr6 := Mem.hide hr6
  clear hv1 hu1 hb1 hd1 hr1 hr2 hr3 hr4 hr5 hr6
  go_enter Try.func10, Try.ntmps10
  go_wp2_with fail
  refine (other_any va ta i _).mono ?_
  rw [← Hv1.out]
  rintro e w1 ⟨rfl, hb1⟩
  have hS : w1.cell? ⟨w.heap.size, 0, none⟩ = some (.int .u8 (va.toNat : Int)) ∧ w1.cell? ⟨w.heap.size, 1, none⟩ = some (.int .u8 (ta.toNat : Int)) ∧ w1.cell? ⟨w.heap.size, 2, none⟩ = some (.int .u8 (vb.toNat : Int)) ∧ w1.cell? ⟨w.heap.size, 3, none⟩ = some (.int .u8 (tb.toNat : Int)) ∧ w1.cell? ⟨w.heap.size, 4, none⟩ = some (.bool b) ∧ w1.cell? ⟨w.heap.size, 5, none⟩ = some (.bool s) ∧ w1.cell? ⟨w.heap.size, 6, none⟩ = some (.bool d) ∧ w1.cell? ⟨w.heap.size, 7, none⟩ = some (.bool e0) ∧ w1.cell? ⟨w.heap.size, 8, none⟩ = some (.int .u8 (i.toNat : Int)) ∧ w1.cell? ⟨w.heap.size, 9, none⟩ = some (.int .u8 (j.toNat : Int)) ∧ w1.cell? ⟨w.heap.size, 10, none⟩ = some (.int .u8 (k.toNat : Int)) ∧ w1.cell? ⟨w.heap.size, 11, none⟩ = some (.int .u8 (m.toNat : Int)) ∧ Below w.heap.size w w1 := by
    (repeat' with_reducible apply And.intro) <;> first | with_reducible assumption | ((repeat (first | with_reducible assumption | with_reducible exact Below.refl _ _ | with_reducible exact Mem.vsome ‹_› | ((with_reducible refine Mem.vnew ?_ ?_) <;> first | rfl | (simp; done)) | ((with_reducible refine Mem.cnew ?_ ?_) <;> first | rfl | (simp; done)) | ((with_reducible refine Mem.znew ?_) <;> first | rfl | (simp; done)) | with_reducible refine Mem.vdrew ?_ | with_reducible refine Mem.valloc _ ?_ | with_reducible refine Mem.vbelow ‹_› ?_ | with_reducible refine Mem.vset ?_ | with_reducible refine Mem.cdrew ?_ | with_reducible refine Mem.calloc _ ?_ | with_reducible refine Mem.bdrew ?_ | with_reducible refine Mem.cbelow ‹_› ?_ | with_reducible refine Mem.zdrew ?_ | with_reducible refine Mem.zalloc _ ?_ ?_ | with_reducible refine Mem.zbelow ‹_› ?_ ?_ | with_reducible refine Mem.zset ?_ | (with_reducible refine Mem.cset ?_ ?_; rotate_left; focus (first | (simp; done) | (simp; omega))) | (with_reducible refine Mem.balloc ?_ ?_ _; rotate_left; focus (first | (simp; done) | (simp; omega))) | (with_reducible refine Mem.bset ?_ ?_ _; rotate_left; focus (first | (simp; done) | (simp; omega))) | (with_reducible refine Mem.bbelow ?_ ?_ ‹_›; rotate_left; focus (first | (simp; done) | (simp; omega))))); done) | (simp [go_sem]; done) | (with_reducible refine Mem.cbelow ‹_› ?_; simp [go_sem, *]; done) | (with_reducible refine Mem.vbelow ‹_› (Mem.vof ?_); simp [go_sem]; done) | ((with_reducible refine Mem.zbelow ‹_› (Mem.vof ?_) ?_) <;> (simp [go_sem]; done)) | (simp [go_sem, *]; done)
  go_split_ands
  have hzw10 : w.heap.size < w1.heap.size := Mem.clt (a := ⟨w.heap.size, 0, none⟩) ‹_›
  clear hb1
  go_wp2_with fail
  refine (other_any vb tb j _).mono ?_
  rw [← Hu1.out]
  rintro e w2 ⟨rfl, hb2⟩
  have hS : w2.cell? ⟨w.heap.size, 0, none⟩ = some (.int .u8 (va.toNat : Int)) ∧ w2.cell? ⟨w.heap.size, 1, none⟩ = some (.int .u8 (ta.toNat : Int)) ∧ w2.cell? ⟨w.heap.size, 2, none⟩ = some (.int .u8 (vb.toNat : Int)) ∧ w2.cell? ⟨w.heap.size, 3, none⟩ = some (.int .u8 (tb.toNat : Int)) ∧ w2.cell? ⟨w.heap.size, 4, none⟩ = some (.bool b) ∧ w2.cell? ⟨w.heap.size, 5, none⟩ = some (.bool s) ∧ w2.cell? ⟨w.heap.size, 6, none⟩ = some (.bool d) ∧ w2.cell? ⟨w.heap.size, 7, none⟩ = some (.bool e0) ∧ w2.cell? ⟨w.heap.size, 8, none⟩ = some (.int .u8 (i.toNat : Int)) ∧ w2.cell? ⟨w.heap.size, 9, none⟩ = some (.int .u8 (j.toNat : Int)) ∧ w2.cell? ⟨w.heap.size, 10, none⟩ = some (.int .u8 (k.toNat : Int)) ∧ w2.cell? ⟨w.heap.size, 11, none⟩ = some (.int .u8 (m.toNat : Int)) ∧ w2.cell? ⟨w1.heap.size, 0, none⟩ = some (.int .u8 (v1.toNat : Int)) ∧ w2.cell? ⟨w1.heap.size, 1, none⟩ = some (.int .u8 (ta.toNat : Int)) ∧ Below w.heap.size w w2 := by
    (repeat' with_reducible apply And.intro) <;> first | with_reducible assumption | ((repeat (first | with_reducible assumption | with_reducible exact Below.refl _ _ | with_reducible exact Mem.vsome ‹_› | ((with_reducible refine Mem.vnew ?_ ?_) <;> first | rfl | (simp; done)) | ((with_reducible refine Mem.cnew ?_ ?_) <;> first | rfl | (simp; done)) | ((with_reducible refine Mem.znew ?_) <;> first | rfl | (simp; done)) | with_reducible refine Mem.vdrew ?_ | with_reducible refine Mem.valloc _ ?_ | with_reducible refine Mem.vbelow ‹_› ?_ | with_reducible refine Mem.vset ?_ | with_reducible refine Mem.cdrew ?_ | with_reducible refine Mem.calloc _ ?_ | with_reducible refine Mem.bdrew ?_ | with_reducible refine Mem.cbelow ‹_› ?_ | with_reducible refine Mem.zdrew ?_ | with_reducible refine Mem.zalloc _ ?_ ?_ | with_reducible refine Mem.zbelow ‹_› ?_ ?_ | with_reducible refine Mem.zset ?_ | (with_reducible refine Mem.cset ?_ ?_; rotate_left; focus (first | (simp; done) | (simp; omega))) | (with_reducible refine Mem.balloc ?_ ?_ _; rotate_left; focus (first | (simp; done) | (simp; omega))) | (with_reducible refine Mem.bset ?_ ?_ _; rotate_left; focus (first | (simp; done) | (simp; omega))) | (with_reducible refine Mem.bbelow ?_ ?_ ‹_›; rotate_left; focus (first | (simp; done) | (simp; omega))))); done) | (simp [go_sem]; done) | (with_reducible refine Mem.cbelow ‹_› ?_; simp [go_sem, *]; done) | (with_reducible refine Mem.vbelow ‹_› (Mem.vof ?_); simp [go_sem]; done) | ((with_reducible refine Mem.zbelow ‹_› (Mem.vof ?_) ?_) <;> (simp [go_sem]; done)) | (simp [go_sem, *]; done)
  go_split_ands
  have hzw20 : w.heap.size < w2.heap.size := Mem.clt (a := ⟨w.heap.size, 0, none⟩) ‹_›
  have hzw21 : w1.heap.size < w2.heap.size := Mem.clt (a := ⟨w1.heap.size, 0, none⟩) ‹_›
  clear hb2
  go_wp2_with fail
  refine (bit2_any b s k _).mono ?_
  rw [← Hb1.out]
  rintro e w3 ⟨rfl, hb3⟩
  have hS : w3.cell? ⟨w.heap.size, 0, none⟩ = some (.int .u8 (va.toNat : Int)) ∧ w3.cell? ⟨w.heap.size, 1, none⟩ = some (.int .u8 (ta.toNat : Int)) ∧ w3.cell? ⟨w.heap.size, 2, none⟩ = some (.int .u8 (vb.toNat : Int)) ∧ w3.cell? ⟨w.heap.size, 3, none⟩ = some (.int .u8 (tb.toNat : Int)) ∧ w3.cell? ⟨w.heap.size, 4, none⟩ = some (.bool b) ∧ w3.cell? ⟨w.heap.size, 5, none⟩ = some (.bool s) ∧ w3.cell? ⟨w.heap.size, 6, none⟩ = some (.bool d) ∧ w3.cell? ⟨w.heap.size, 7, none⟩ = some (.bool e0) ∧ w3.cell? ⟨w.heap.size, 8, none⟩ = some (.int .u8 (i.toNat : Int)) ∧ w3.cell? ⟨w.heap.size, 9, none⟩ = some (.int .u8 (j.toNat : Int)) ∧ w3.cell? ⟨w.heap.size, 10, none⟩ = some (.int .u8 (k.toNat : Int)) ∧ w3.cell? ⟨w.heap.size, 11, none⟩ = some (.int .u8 (m.toNat : Int)) ∧ w3.cell? ⟨w1.heap.size, 0, none⟩ = some (.int .u8 (v1.toNat : Int)) ∧ w3.cell? ⟨w1.heap.size, 1, none⟩ = some (.int .u8 (ta.toNat : Int)) ∧ w3.cell? ⟨w2.heap.size, 0, none⟩ = some (.int .u8 (u1.toNat : Int)) ∧ w3.cell? ⟨w2.heap.size, 1, none⟩ = some (.int .u8 (tb.toNat : Int)) ∧ Below w.heap.size w w3 := by
    (repeat' with_reducible apply And.intro) <;> first | with_reducible assumption | ((repeat (first | with_reducible assumption | with_reducible exact Below.refl _ _ | with_reducible exact Mem.vsome ‹_› | ((with_reducible refine Mem.vnew ?_ ?_) <;> first | rfl | (simp; done)) | ((with_reducible refine Mem.cnew ?_ ?_) <;> first | rfl | (simp; done)) | ((with_reducible refine Mem.znew ?_) <;> first | rfl | (simp; done)) | with_reducible refine Mem.vdrew ?_ | with_reducible refine Mem.valloc _ ?_ | with_reducible refine Mem.vbelow ‹_› ?_ | with_reducible refine Mem.vset ?_ | with_reducible refine Mem.cdrew ?_ | with_reducible refine Mem.calloc _ ?_ | with_reducible refine Mem.bdrew ?_ | with_reducible refine Mem.cbelow ‹_› ?_ | with_reducible refine Mem.zdrew ?_ | with_reducible refine Mem.zalloc _ ?_ ?_ | with_reducible refine Mem.zbelow ‹_› ?_ ?_ | with_reducible refine Mem.zset ?_ | (with_reducible refine Mem.cset ?_ ?_; rotate_left; focus (first | (simp; done) | (simp; omega))) | (with_reducible refine Mem.balloc ?_ ?_ _; rotate_left; focus (first | (simp; done) | (simp; omega))) | (with_reducible refine Mem.bset ?_ ?_ _; rotate_left; focus (first | (simp; done) | (simp; omega))) | (with_reducible refine Mem.bbelow ?_ ?_ ‹_›; rotate_left; focus (first | (simp; done) | (simp; omega))))); done) | (simp [go_sem]; done) | (with_reducible refine Mem.cbelow ‹_› ?_; simp [go_sem, *]; done) | (with_reducible refine Mem.vbelow ‹_› (Mem.vof ?_); simp [go_sem]; done) | ((with_reducible refine Mem.zbelow ‹_› (Mem.vof ?_) ?_) <;> (simp [go_sem]; done)) | (simp [go_sem, *]; done)
  go_split_ands
  have hzw30 : w.heap.size < w3.heap.size := Mem.clt (a := ⟨w.heap.size, 0, none⟩) ‹_›
  have hzw31 : w1.heap.size < w3.heap.size := Mem.clt (a := ⟨w1.heap.size, 0, none⟩) ‹_›
  have hzw32 : w2.heap.size < w3.heap.size := Mem.clt (a := ⟨w2.heap.size, 0, none⟩) ‹_›
  clear hb3
  go_wp2_with fail
  refine (bit2_any d e0 m _).mono ?_
  rw [← Hd1.out]
  rintro e w4 ⟨rfl, hb4⟩
  have hS : w4.cell? ⟨w.heap.size, 0, none⟩ = some (.int .u8 (va.toNat : Int)) ∧ w4.cell? ⟨w.heap.size, 1, none⟩ = some (.int .u8 (ta.toNat : Int)) ∧ w4.cell? ⟨w.heap.size, 2, none⟩ = some (.int .u8 (vb.toNat : Int)) ∧ w4.cell? ⟨w.heap.size, 3, none⟩ = some (.int .u8 (tb.toNat : Int)) ∧ w4.cell? ⟨w.heap.size, 4, none⟩ = some (.bool b) ∧ w4.cell? ⟨w.heap.size, 5, none⟩ = some (.bool s) ∧ w4.cell? ⟨w.heap.size, 6, none⟩ = some (.bool d) ∧ w4.cell? ⟨w.heap.size, 7, none⟩ = some (.bool e0) ∧ w4.cell? ⟨w.heap.size, 8, none⟩ = some (.int .u8 (i.toNat : Int)) ∧ w4.cell? ⟨w.heap.size, 9, none⟩ = some (.int .u8 (j.toNat : Int)) ∧ w4.cell? ⟨w.heap.size, 10, none⟩ = some (.int .u8 (k.toNat : Int)) ∧ w4.cell? ⟨w.heap.size, 11, none⟩ = some (.int .u8 (m.toNat : Int)) ∧ w4.cell? ⟨w1.heap.size, 0, none⟩ = some (.int .u8 (v1.toNat : Int)) ∧ w4.cell? ⟨w1.heap.size, 1, none⟩ = some (.int .u8 (ta.toNat : Int)) ∧ w4.cell? ⟨w2.heap.size, 0, none⟩ = some (.int .u8 (u1.toNat : Int)) ∧ w4.cell? ⟨w2.heap.size, 1, none⟩ = some (.int .u8 (tb.toNat : Int)) ∧ w4.cell? ⟨w3.heap.size, 0, none⟩ = some (.bool b1) ∧ w4.cell? ⟨w3.heap.size, 1, none⟩ = some (.bool s) ∧ Below w.heap.size w w4 := by
    (repeat' with_reducible apply And.intro) <;> first | with_reducible assumption | ((repeat (first | with_reducible assumption | with_reducible exact Below.refl _ _ | with_reducible exact Mem.vsome ‹_› | ((with_reducible refine Mem.vnew ?_ ?_) <;> first | rfl | (simp; done)) | ((with_reducible refine Mem.cnew ?_ ?_) <;> first | rfl | (simp; done)) | ((with_reducible refine Mem.znew ?_) <;> first | rfl | (simp; done)) | with_reducible refine Mem.vdrew ?_ | with_reducible refine Mem.valloc _ ?_ | with_reducible refine Mem.vbelow ‹_› ?_ | with_reducible refine Mem.vset ?_ | with_reducible refine Mem.cdrew ?_ | with_reducible refine Mem.calloc _ ?_ | with_reducible refine Mem.bdrew ?_ | with_reducible refine Mem.cbelow ‹_› ?_ | with_reducible refine Mem.zdrew ?_ | with_reducible refine Mem.zalloc _ ?_ ?_ | with_reducible refine Mem.zbelow ‹_› ?_ ?_ | with_reducible refine Mem.zset ?_ | (with_reducible refine Mem.cset ?_ ?_; rotate_left; focus (first | (simp; done) | (simp; omega))) | (with_reducible refine Mem.balloc ?_ ?_ _; rotate_left; focus (first | (simp; done) | (simp; omega))) | (with_reducible refine Mem.bset ?_ ?_ _; rotate_left; focus (first | (simp; done) | (simp; omega))) | (with_reducible refine Mem.bbelow ?_ ?_ ‹_›; rotate_left; focus (first | (simp; done) | (simp; omega))))); done) | (simp [go_sem]; done) | (with_reducible refine Mem.cbelow ‹_› ?_; simp [go_sem, *]; done) | (with_reducible refine Mem.vbelow ‹_› (Mem.vof ?_); simp [go_sem]; done) | ((with_reducible refine Mem.zbelow ‹_› (Mem.vof ?_) ?_) <;> (simp [go_sem]; done)) | (simp [go_sem, *]; done)
  go_split_ands
  have hzw40 : w.heap.size < w4.heap.size := Mem.clt (a := ⟨w.heap.size, 0, none⟩) ‹_›
  have hzw41 : w1.heap.size < w4.heap.size := Mem.clt (a := ⟨w1.heap.size, 0, none⟩) ‹_›
  have hzw42 : w2.heap.size < w4.heap.size := Mem.clt (a := ⟨w2.heap.size, 0, none⟩) ‹_›
  have hzw43 : w3.heap.size < w4.heap.size := Mem.clt (a := ⟨w3.heap.size, 0, none⟩) ‹_›
  clear hb4
  go_wp2_with fail
  go_region_held3 (fun w' => w'.cell? ⟨w.heap.size, 0, none⟩ = some (.int .u8 (va.toNat : Int)) ∧ w'.cell? ⟨w.heap.size, 1, none⟩ = some (.int .u8 (ta.toNat : Int)) ∧ w'.cell? ⟨w.heap.size, 2, none⟩ = some (.int .u8 (vb.toNat : Int)) ∧ w'.cell? ⟨w.heap.size, 3, none⟩ = some (.int .u8 (tb.toNat : Int)) ∧ w'.cell? ⟨w.heap.size, 4, none⟩ = some (.bool b) ∧ w'.cell? ⟨w.heap.size, 5, none⟩ = some (.bool s) ∧ w'.cell? ⟨w.heap.size, 6, none⟩ = some (.bool d) ∧ w'.cell? ⟨w.heap.size, 7, none⟩ = some (.bool e0) ∧ w'.cell? ⟨w.heap.size, 8, none⟩ = some (.int .u8 (i.toNat : Int)) ∧ w'.cell? ⟨w.heap.size, 9, none⟩ = some (.int .u8 (j.toNat : Int)) ∧ w'.cell? ⟨w.heap.size, 10, none⟩ = some (.int .u8 (k.toNat : Int)) ∧ w'.cell? ⟨w.heap.size, 11, none⟩ = some (.int .u8 (m.toNat : Int)) ∧ w'.cell? ⟨w1.heap.size, 0, none⟩ = some (.int .u8 (v1.toNat : Int)) ∧ w'.cell? ⟨w1.heap.size, 1, none⟩ = some (.int .u8 (ta.toNat : Int)) ∧ w'.cell? ⟨w2.heap.size, 0, none⟩ = some (.int .u8 (u1.toNat : Int)) ∧ w'.cell? ⟨w2.heap.size, 1, none⟩ = some (.int .u8 (tb.toNat : Int)) ∧ w'.cell? ⟨w3.heap.size, 0, none⟩ = some (.bool b1) ∧ w'.cell? ⟨w3.heap.size, 1, none⟩ = some (.bool s) ∧ w'.cell? ⟨w4.heap.size, 0, none⟩ = some (.bool d1) ∧ w'.cell? ⟨w4.heap.size, 1, none⟩ = some (.bool e0) ∧ Below w.heap.size w w') ((go_split_ands; (repeat' with_reducible apply And.intro) <;> first | with_reducible assumption | ((repeat (first | with_reducible assumption | with_reducible exact Below.refl _ _ | with_reducible exact Mem.vsome ‹_› | ((with_reducible refine Mem.vnew ?_ ?_) <;> first | rfl | (simp; done)) | ((with_reducible refine Mem.cnew ?_ ?_) <;> first | rfl | (simp; done)) | ((with_reducible refine Mem.znew ?_) <;> first | rfl | (simp; done)) | with_reducible refine Mem.vdrew ?_ | with_reducible refine Mem.valloc _ ?_ | with_reducible refine Mem.vbelow ‹_› ?_ | with_reducible refine Mem.vset ?_ | with_reducible refine Mem.cdrew ?_ | with_reducible refine Mem.calloc _ ?_ | with_reducible refine Mem.bdrew ?_ | with_reducible refine Mem.cbelow ‹_› ?_ | with_reducible refine Mem.zdrew ?_ | with_reducible refine Mem.zalloc _ ?_ ?_ | with_reducible refine Mem.zbelow ‹_› ?_ ?_ | with_reducible refine Mem.zset ?_ | (with_reducible refine Mem.cset ?_ ?_; rotate_left; focus (first | (simp; done) | (simp; omega))) | (with_reducible refine Mem.balloc ?_ ?_ _; rotate_left; focus (first | (simp; done) | (simp; omega))) | (with_reducible refine Mem.bset ?_ ?_ _; rotate_left; focus (first | (simp; done) | (simp; omega))) | (with_reducible refine Mem.bbelow ?_ ?_ ‹_›; rotate_left; focus (first | (simp; done) | (simp; omega))))); done) | (simp [go_sem]; done) | (with_reducible refine Mem.cbelow ‹_› ?_; simp [go_sem, *]; done) | (with_reducible refine Mem.vbelow ‹_› (Mem.vof ?_); simp [go_sem]; done) | ((with_reducible refine Mem.zbelow ‹_› (Mem.vof ?_) ?_) <;> (simp [go_sem]; done)) | (simp [go_sem, *]; done)))
    (first | (go_at_call 12; first | ((with_reducible refine (add_any va ta vb tb b s d e0 _).mono ?_); rw [← Hr1.out]; rintro e w' ⟨rfl, hbb⟩) | ((with_reducible refine (add_any v1 ta u1 tb b1 s d1 e0 _).mono ?_); rw [← Hr2.out]; rintro e w' ⟨rfl, hbb⟩)) | (go_at_call 15; first | ((with_reducible refine (sub_any va ta vb tb b s d e0 _).mono ?_); rw [← Hr3.out]; rintro e w' ⟨rfl, hbb⟩) | ((with_reducible refine (sub_any v1 ta u1 tb b1 s d1 e0 _).mono ?_); rw [← Hr4.out]; rintro e w' ⟨rfl, hbb⟩)) | (go_at_call 20; first | ((with_reducible refine (cmp_any va ta vb tb _).mono ?_); rw [← Hr5.out]; rintro e w' ⟨rfl, hbb⟩) | ((with_reducible refine (cmp_any v1 ta u1 tb _).mono ?_); rw [← Hr6.out]; rintro e w' ⟨rfl, hbb⟩)) | (go_at_call 26; first | ((with_reducible refine (keeps_any r1 r2 K1 _).mono ?_); rintro e w' ⟨rfl, hbb⟩) | ((with_reducible refine (keeps_any r3 r4 K2 _).mono ?_); rintro e w' ⟨rfl, hbb⟩) | ((with_reducible refine (keeps_any r5 r6 K3 _).mono ?_); rintro e w' ⟨rfl, hbb⟩)) | (go_at_call 22; first | ((with_reducible refine (step_any va ta 1 _).mono ?_); rintro e w' ⟨rfl, hbb⟩) | ((with_reducible refine (step_any v1 ta 1 _).mono ?_); rintro e w' ⟨rfl, hbb⟩)) | (go_at_call 27; first | ((with_reducible refine (same_any _ _ _ _ _).mono ?_); rintro e w' ⟨rfl, hbb⟩)) | (go_at_call 14; first | ((with_reducible refine (awake_any _).mono ?_); rintro e w' ⟨rfl, hbb⟩)))
  go_split_ands
  go_wp2
  go_ret
  exact ⟨rfl, by assumption⟩
end Go.Proofs.Ytdpoebmahoipbaa
