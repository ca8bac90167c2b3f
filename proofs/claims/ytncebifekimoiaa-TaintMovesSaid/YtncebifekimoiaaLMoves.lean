/-
  Walks: cochineallaw01.TaintMoves returns true, whatever the byte and the bit.
-/
-- KEEP2
import Derived.Test.YtncebifekimoiaaAwake
import Derived.Test.YtncebifekimoiaaMoves
import Derived.Test.YtncebifekimoiaaRMoves
import Derived.Test.YtncebifekimoiaaMem4
namespace Go.Proofs.Ytncebifekimoiaa
open Go Go.RowKit

set_option maxRecDepth 100000 in
set_option maxHeartbeats 4000000 in
theorem lmoves (v t : BitVec 8) (b s : Bool) (w : World) : Calls Try.prog 6 #[.agg #[.int .u8 (v.toNat : Int), .int .u8 (t.toNat : Int)], .agg #[.bool b, .bool s]] w fun e w' =>
    e = .returned (.bool true) ∧ Below w.heap.size w w' := by
  go_enter Try.func6, Try.ntmps6
  go_wp2_with fail
  refine (left_any _ _ _ _ _).mono ?_
  rintro e w1 ⟨rfl, h1⟩
  have hS : w1.cell? ⟨w.heap.size, 0, none⟩ = some (.int .u8 (v.toNat : Int)) ∧ w1.cell? ⟨w.heap.size, 1, none⟩ = some (.int .u8 (t.toNat : Int)) ∧ w1.cell? ⟨w.heap.size + 1, 0, none⟩ = some (.bool b) ∧ w1.cell? ⟨w.heap.size + 1, 1, none⟩ = some (.bool s) ∧ Below w.heap.size w w1 := by
    (repeat' with_reducible apply And.intro) <;> first | with_reducible assumption | ((repeat (first | with_reducible assumption | with_reducible exact Below.refl _ _ | ((with_reducible refine Mem.vnew ?_ ?_) <;> first | rfl | (simp; done)) | ((with_reducible refine Mem.cnew ?_ ?_) <;> first | rfl | (simp; done)) | ((with_reducible refine Mem.znew ?_) <;> first | rfl | (simp; done)) | with_reducible refine Mem.vdrew ?_ | with_reducible refine Mem.valloc _ ?_ | with_reducible refine Mem.vbelow ‹_› ?_ | with_reducible refine Mem.vset ?_ | with_reducible refine Mem.cdrew ?_ | with_reducible refine Mem.calloc _ ?_ | with_reducible refine Mem.bdrew ?_ | with_reducible refine Mem.cbelow ‹_› ?_ | with_reducible refine Mem.zdrew ?_ | with_reducible refine Mem.zalloc _ ?_ ?_ | with_reducible refine Mem.zbelow ‹_› ?_ ?_ | with_reducible refine Mem.zset ?_ | (with_reducible refine Mem.cset ?_ ?_; rotate_left; focus (first | (simp; done) | (simp; omega))) | (with_reducible refine Mem.balloc ?_ ?_ _; rotate_left; focus (first | (simp; done) | (simp; omega))) | (with_reducible refine Mem.bset ?_ ?_ _; rotate_left; focus (first | (simp; done) | (simp; omega))) | (with_reducible refine Mem.bbelow ?_ ?_ ‹_›; rotate_left; focus (first | (simp; done) | (simp; omega))))); done) | (simp [go_sem]; done) | (with_reducible refine Mem.cbelow ‹_› ?_; simp [go_sem, *]; done) | (with_reducible refine Mem.vbelow ‹_› (Mem.vof ?_); simp [go_sem]; done) | ((with_reducible refine Mem.zbelow ‹_› (Mem.vof ?_) ?_) <;> (simp [go_sem]; done))
  go_split_ands
  have hzw10 : w.heap.size < w1.heap.size := Mem.clt (a := ⟨w.heap.size, 0, none⟩) ‹_›
  have hzw11 : w.heap.size + 1 < w1.heap.size := Mem.clt (a := ⟨w.heap.size + 1, 0, none⟩) ‹_›
  clear h1
  go_wp2_with fail
  refine (right_any _ _ _ _ _).mono ?_
  rintro e w2 ⟨rfl, h2⟩
  have hS : w2.cell? ⟨w.heap.size, 0, none⟩ = some (.int .u8 (v.toNat : Int)) ∧ w2.cell? ⟨w.heap.size, 1, none⟩ = some (.int .u8 (t.toNat : Int)) ∧ w2.cell? ⟨w.heap.size + 1, 0, none⟩ = some (.bool b) ∧ w2.cell? ⟨w.heap.size + 1, 1, none⟩ = some (.bool s) ∧ w2.cell? ⟨w1.heap.size, 0, none⟩ = some (.int .u8 ((U8.leftB v b).toNat : Int)) ∧ w2.cell? ⟨w1.heap.size, 1, none⟩ = some (.int .u8 ((U8.leftB t s).toNat : Int)) ∧ w2.cell? ⟨w1.heap.size + 1, 0, none⟩ = some (.bool (U8.bitB v 7)) ∧ w2.cell? ⟨w1.heap.size + 1, 1, none⟩ = some (.bool (U8.bitB t 7)) ∧ Below w.heap.size w w2 := by
    (repeat' with_reducible apply And.intro) <;> first | with_reducible assumption | ((repeat (first | with_reducible assumption | with_reducible exact Below.refl _ _ | ((with_reducible refine Mem.vnew ?_ ?_) <;> first | rfl | (simp; done)) | ((with_reducible refine Mem.cnew ?_ ?_) <;> first | rfl | (simp; done)) | ((with_reducible refine Mem.znew ?_) <;> first | rfl | (simp; done)) | with_reducible refine Mem.vdrew ?_ | with_reducible refine Mem.valloc _ ?_ | with_reducible refine Mem.vbelow ‹_› ?_ | with_reducible refine Mem.vset ?_ | with_reducible refine Mem.cdrew ?_ | with_reducible refine Mem.calloc _ ?_ | with_reducible refine Mem.bdrew ?_ | with_reducible refine Mem.cbelow ‹_› ?_ | with_reducible refine Mem.zdrew ?_ | with_reducible refine Mem.zalloc _ ?_ ?_ | with_reducible refine Mem.zbelow ‹_› ?_ ?_ | with_reducible refine Mem.zset ?_ | (with_reducible refine Mem.cset ?_ ?_; rotate_left; focus (first | (simp; done) | (simp; omega))) | (with_reducible refine Mem.balloc ?_ ?_ _; rotate_left; focus (first | (simp; done) | (simp; omega))) | (with_reducible refine Mem.bset ?_ ?_ _; rotate_left; focus (first | (simp; done) | (simp; omega))) | (with_reducible refine Mem.bbelow ?_ ?_ ‹_›; rotate_left; focus (first | (simp; done) | (simp; omega))))); done) | (simp [go_sem]; done) | (with_reducible refine Mem.cbelow ‹_› ?_; simp [go_sem, *]; done) | (with_reducible refine Mem.vbelow ‹_› (Mem.vof ?_); simp [go_sem]; done) | ((with_reducible refine Mem.zbelow ‹_› (Mem.vof ?_) ?_) <;> (simp [go_sem]; done))
  go_split_ands
  have hzw20 : w.heap.size < w2.heap.size := Mem.clt (a := ⟨w.heap.size, 0, none⟩) ‹_›
  have hzw21 : w.heap.size + 1 < w2.heap.size := Mem.clt (a := ⟨w.heap.size + 1, 0, none⟩) ‹_›
  have hzw22 : w1.heap.size < w2.heap.size := Mem.clt (a := ⟨w1.heap.size, 0, none⟩) ‹_›
  have hzw23 : w1.heap.size + 1 < w2.heap.size := Mem.clt (a := ⟨w1.heap.size + 1, 0, none⟩) ‹_›
  clear h2
  go_wp2_with fail
  refine (rleft_any _ _ _ _ _).mono ?_
  rintro e w3 ⟨rfl, h3⟩
  have hS : w3.cell? ⟨w.heap.size, 0, none⟩ = some (.int .u8 (v.toNat : Int)) ∧ w3.cell? ⟨w.heap.size, 1, none⟩ = some (.int .u8 (t.toNat : Int)) ∧ w3.cell? ⟨w.heap.size + 1, 0, none⟩ = some (.bool b) ∧ w3.cell? ⟨w.heap.size + 1, 1, none⟩ = some (.bool s) ∧ w3.cell? ⟨w1.heap.size, 0, none⟩ = some (.int .u8 ((U8.leftB v b).toNat : Int)) ∧ w3.cell? ⟨w1.heap.size, 1, none⟩ = some (.int .u8 ((U8.leftB t s).toNat : Int)) ∧ w3.cell? ⟨w1.heap.size + 1, 0, none⟩ = some (.bool (U8.bitB v 7)) ∧ w3.cell? ⟨w1.heap.size + 1, 1, none⟩ = some (.bool (U8.bitB t 7)) ∧ w3.cell? ⟨w2.heap.size, 0, none⟩ = some (.int .u8 ((U8.rightB v b).toNat : Int)) ∧ w3.cell? ⟨w2.heap.size, 1, none⟩ = some (.int .u8 ((U8.rightB t s).toNat : Int)) ∧ w3.cell? ⟨w2.heap.size + 1, 0, none⟩ = some (.bool (U8.bitB v 0)) ∧ w3.cell? ⟨w2.heap.size + 1, 1, none⟩ = some (.bool (U8.bitB t 0)) ∧ Below w.heap.size w w3 := by
    (repeat' with_reducible apply And.intro) <;> first | with_reducible assumption | ((repeat (first | with_reducible assumption | with_reducible exact Below.refl _ _ | ((with_reducible refine Mem.vnew ?_ ?_) <;> first | rfl | (simp; done)) | ((with_reducible refine Mem.cnew ?_ ?_) <;> first | rfl | (simp; done)) | ((with_reducible refine Mem.znew ?_) <;> first | rfl | (simp; done)) | with_reducible refine Mem.vdrew ?_ | with_reducible refine Mem.valloc _ ?_ | with_reducible refine Mem.vbelow ‹_› ?_ | with_reducible refine Mem.vset ?_ | with_reducible refine Mem.cdrew ?_ | with_reducible refine Mem.calloc _ ?_ | with_reducible refine Mem.bdrew ?_ | with_reducible refine Mem.cbelow ‹_› ?_ | with_reducible refine Mem.zdrew ?_ | with_reducible refine Mem.zalloc _ ?_ ?_ | with_reducible refine Mem.zbelow ‹_› ?_ ?_ | with_reducible refine Mem.zset ?_ | (with_reducible refine Mem.cset ?_ ?_; rotate_left; focus (first | (simp; done) | (simp; omega))) | (with_reducible refine Mem.balloc ?_ ?_ _; rotate_left; focus (first | (simp; done) | (simp; omega))) | (with_reducible refine Mem.bset ?_ ?_ _; rotate_left; focus (first | (simp; done) | (simp; omega))) | (with_reducible refine Mem.bbelow ?_ ?_ ‹_›; rotate_left; focus (first | (simp; done) | (simp; omega))))); done) | (simp [go_sem]; done) | (with_reducible refine Mem.cbelow ‹_› ?_; simp [go_sem, *]; done) | (with_reducible refine Mem.vbelow ‹_› (Mem.vof ?_); simp [go_sem]; done) | ((with_reducible refine Mem.zbelow ‹_› (Mem.vof ?_) ?_) <;> (simp [go_sem]; done))
  go_split_ands
  have hzw30 : w.heap.size < w3.heap.size := Mem.clt (a := ⟨w.heap.size, 0, none⟩) ‹_›
  have hzw31 : w.heap.size + 1 < w3.heap.size := Mem.clt (a := ⟨w.heap.size + 1, 0, none⟩) ‹_›
  have hzw32 : w1.heap.size < w3.heap.size := Mem.clt (a := ⟨w1.heap.size, 0, none⟩) ‹_›
  have hzw33 : w1.heap.size + 1 < w3.heap.size := Mem.clt (a := ⟨w1.heap.size + 1, 0, none⟩) ‹_›
  have hzw34 : w2.heap.size < w3.heap.size := Mem.clt (a := ⟨w2.heap.size, 0, none⟩) ‹_›
  have hzw35 : w2.heap.size + 1 < w3.heap.size := Mem.clt (a := ⟨w2.heap.size + 1, 0, none⟩) ‹_›
  clear h3
  go_wp2_with fail
  refine (rright_any _ _ _ _ _).mono ?_
  rintro e w4 ⟨rfl, h4⟩
  have hS : w4.cell? ⟨w.heap.size, 0, none⟩ = some (.int .u8 (v.toNat : Int)) ∧ w4.cell? ⟨w.heap.size, 1, none⟩ = some (.int .u8 (t.toNat : Int)) ∧ w4.cell? ⟨w.heap.size + 1, 0, none⟩ = some (.bool b) ∧ w4.cell? ⟨w.heap.size + 1, 1, none⟩ = some (.bool s) ∧ w4.cell? ⟨w1.heap.size, 0, none⟩ = some (.int .u8 ((U8.leftB v b).toNat : Int)) ∧ w4.cell? ⟨w1.heap.size, 1, none⟩ = some (.int .u8 ((U8.leftB t s).toNat : Int)) ∧ w4.cell? ⟨w1.heap.size + 1, 0, none⟩ = some (.bool (U8.bitB v 7)) ∧ w4.cell? ⟨w1.heap.size + 1, 1, none⟩ = some (.bool (U8.bitB t 7)) ∧ w4.cell? ⟨w2.heap.size, 0, none⟩ = some (.int .u8 ((U8.rightB v b).toNat : Int)) ∧ w4.cell? ⟨w2.heap.size, 1, none⟩ = some (.int .u8 ((U8.rightB t s).toNat : Int)) ∧ w4.cell? ⟨w2.heap.size + 1, 0, none⟩ = some (.bool (U8.bitB v 0)) ∧ w4.cell? ⟨w2.heap.size + 1, 1, none⟩ = some (.bool (U8.bitB t 0)) ∧ w4.cell? ⟨w3.heap.size, 0, none⟩ = some (.int .u8 ((U8.leftB v b).toNat : Int)) ∧ w4.cell? ⟨w3.heap.size, 1, none⟩ = some (.int .u8 ((U8.leftB t s).toNat : Int)) ∧ w4.cell? ⟨w3.heap.size + 1, 0, none⟩ = some (.bool (U8.bitB v 7)) ∧ w4.cell? ⟨w3.heap.size + 1, 1, none⟩ = some (.bool (U8.bitB t 7)) ∧ Below w.heap.size w w4 := by
    (repeat' with_reducible apply And.intro) <;> first | with_reducible assumption | ((repeat (first | with_reducible assumption | with_reducible exact Below.refl _ _ | ((with_reducible refine Mem.vnew ?_ ?_) <;> first | rfl | (simp; done)) | ((with_reducible refine Mem.cnew ?_ ?_) <;> first | rfl | (simp; done)) | ((with_reducible refine Mem.znew ?_) <;> first | rfl | (simp; done)) | with_reducible refine Mem.vdrew ?_ | with_reducible refine Mem.valloc _ ?_ | with_reducible refine Mem.vbelow ‹_› ?_ | with_reducible refine Mem.vset ?_ | with_reducible refine Mem.cdrew ?_ | with_reducible refine Mem.calloc _ ?_ | with_reducible refine Mem.bdrew ?_ | with_reducible refine Mem.cbelow ‹_› ?_ | with_reducible refine Mem.zdrew ?_ | with_reducible refine Mem.zalloc _ ?_ ?_ | with_reducible refine Mem.zbelow ‹_› ?_ ?_ | with_reducible refine Mem.zset ?_ | (with_reducible refine Mem.cset ?_ ?_; rotate_left; focus (first | (simp; done) | (simp; omega))) | (with_reducible refine Mem.balloc ?_ ?_ _; rotate_left; focus (first | (simp; done) | (simp; omega))) | (with_reducible refine Mem.bset ?_ ?_ _; rotate_left; focus (first | (simp; done) | (simp; omega))) | (with_reducible refine Mem.bbelow ?_ ?_ ‹_›; rotate_left; focus (first | (simp; done) | (simp; omega))))); done) | (simp [go_sem]; done) | (with_reducible refine Mem.cbelow ‹_› ?_; simp [go_sem, *]; done) | (with_reducible refine Mem.vbelow ‹_› (Mem.vof ?_); simp [go_sem]; done) | ((with_reducible refine Mem.zbelow ‹_› (Mem.vof ?_) ?_) <;> (simp [go_sem]; done))
  go_split_ands
  have hzw40 : w.heap.size < w4.heap.size := Mem.clt (a := ⟨w.heap.size, 0, none⟩) ‹_›
  have hzw41 : w.heap.size + 1 < w4.heap.size := Mem.clt (a := ⟨w.heap.size + 1, 0, none⟩) ‹_›
  have hzw42 : w1.heap.size < w4.heap.size := Mem.clt (a := ⟨w1.heap.size, 0, none⟩) ‹_›
  have hzw43 : w1.heap.size + 1 < w4.heap.size := Mem.clt (a := ⟨w1.heap.size + 1, 0, none⟩) ‹_›
  have hzw44 : w2.heap.size < w4.heap.size := Mem.clt (a := ⟨w2.heap.size, 0, none⟩) ‹_›
  have hzw45 : w2.heap.size + 1 < w4.heap.size := Mem.clt (a := ⟨w2.heap.size + 1, 0, none⟩) ‹_›
  have hzw46 : w3.heap.size < w4.heap.size := Mem.clt (a := ⟨w3.heap.size, 0, none⟩) ‹_›
  have hzw47 : w3.heap.size + 1 < w4.heap.size := Mem.clt (a := ⟨w3.heap.size + 1, 0, none⟩) ‹_›
  clear h4
  go_wp2_with (go_at_call 14; refine (awake_any _).mono ?_; rintro e w' ⟨rfl, hbb⟩)
  go_tidy
  go_outline
  go_ret
  refine ⟨rfl, ?_⟩
  (repeat (first | with_reducible assumption | with_reducible exact Below.refl _ _ | ((with_reducible refine Mem.vnew ?_ ?_) <;> first | rfl | (simp; done)) | ((with_reducible refine Mem.cnew ?_ ?_) <;> first | rfl | (simp; done)) | ((with_reducible refine Mem.znew ?_) <;> first | rfl | (simp; done)) | with_reducible refine Mem.vdrew ?_ | with_reducible refine Mem.valloc _ ?_ | with_reducible refine Mem.vbelow ‹_› ?_ | with_reducible refine Mem.vset ?_ | with_reducible refine Mem.cdrew ?_ | with_reducible refine Mem.calloc _ ?_ | with_reducible refine Mem.bdrew ?_ | with_reducible refine Mem.cbelow ‹_› ?_ | with_reducible refine Mem.zdrew ?_ | with_reducible refine Mem.zalloc _ ?_ ?_ | with_reducible refine Mem.zbelow ‹_› ?_ ?_ | with_reducible refine Mem.zset ?_ | (with_reducible refine Mem.cset ?_ ?_; rotate_left; focus (first | (simp; done) | (simp; omega))) | (with_reducible refine Mem.balloc ?_ ?_ _; rotate_left; focus (first | (simp; done) | (simp; omega))) | (with_reducible refine Mem.bset ?_ ?_ _; rotate_left; focus (first | (simp; done) | (simp; omega))) | (with_reducible refine Mem.bbelow ?_ ?_ ‹_›; rotate_left; focus (first | (simp; done) | (simp; omega)))))
end Go.Proofs.Ytncebifekimoiaa
