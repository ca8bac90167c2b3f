/-
  Walks: cochineallaw03.FlagsWrite returns true, whatever the register and the text.
-/
-- KEEP3
import Derived.Test.YtodfgcbgiaboiaaDoorPrs2
import Derived.Test.YtodfgcbgiaboiaaDoorPrs3
import Derived.Test.YtodfgcbgiaboiaaDoorRText
import Derived.Test.YtodfgcbgiaboiaaDoorFHelp
import Derived.Test.YtodfgcbgiaboiaaDoorMem12
namespace Go.Proofs.YtodfgcbgiaboiaaDoor
open Go Go.RowKit

set_option maxRecDepth 100000 in
set_option maxHeartbeats 40000000 in
theorem lwrite (v t : BitVec 8) (s : ByteArray) (_h : s.size ≤ maxLen) (w : World) : Calls Tryd.prog 3 #[.agg #[.int .u8 (v.toNat : Int), .int .u8 (t.toNat : Int)], .string s] w fun e w' =>
    e = .returned (.bool true) ∧ Below w.heap.size w w' := by
  clear _h
  by_cases hl : s.size ≤ 30
  · have hI : (s.size : Int) ≤ 30 := by omega
    rcases (by cases e : U8.prsOk (U8.byAt s) <;> by_cases e' : s.size = 8 <;> simp [e'] : (s.size = 8 ∧ U8.prsOk (U8.byAt s) = true) ∨ (s.size ≠ 8 ∨ U8.prsOk (U8.byAt s) = false)) with ⟨h8, hok⟩ | hno
    · have A := parse_yes s h8 hok
      have B := rparse_yes s h8 hok
      clear h8 hok
      generalize U8.prsV (U8.byAt s) 8 = pv at *
      generalize U8.prsT (U8.byAt s) 8 = pt at *
      go_enter Tryd.func3, Tryd.ntmps3
      go_wp2_with fail
      refine (A _).mono ?_
      rintro e w1 ⟨rfl, k1⟩
      have hS : w1.cell? ⟨w.heap.size, 0, none⟩ = some (.int .u8 (v.toNat : Int)) ∧ w1.cell? ⟨w.heap.size, 1, none⟩ = some (.int .u8 (t.toNat : Int)) ∧ Below w.heap.size w w1 := by
        (repeat' with_reducible apply And.intro) <;> first | with_reducible assumption | ((repeat (first | with_reducible assumption | with_reducible exact Below.refl _ _ | with_reducible exact Mem.vsome ‹_› | ((with_reducible refine Mem.vnew ?_ ?_) <;> first | rfl | (simp; done)) | ((with_reducible refine Mem.cnew ?_ ?_) <;> first | rfl | (simp; done)) | ((with_reducible refine Mem.znew ?_) <;> first | rfl | (simp; done)) | with_reducible refine Mem.vdrew ?_ | with_reducible refine Mem.valloc _ ?_ | with_reducible refine Mem.vbelow ‹_› ?_ | with_reducible refine Mem.vset ?_ | with_reducible refine Mem.cdrew ?_ | with_reducible refine Mem.calloc _ ?_ | with_reducible refine Mem.bdrew ?_ | with_reducible refine Mem.cbelow ‹_› ?_ | with_reducible refine Mem.zdrew ?_ | with_reducible refine Mem.zalloc _ ?_ ?_ | with_reducible refine Mem.zbelow ‹_› ?_ ?_ | with_reducible refine Mem.zset ?_ | (with_reducible refine Mem.cset ?_ ?_; rotate_left; focus (first | (simp; done) | (simp; omega))) | (with_reducible refine Mem.balloc ?_ ?_ _; rotate_left; focus (first | (simp; done) | (simp; omega))) | (with_reducible refine Mem.bset ?_ ?_ _; rotate_left; focus (first | (simp; done) | (simp; omega))) | (with_reducible refine Mem.bbelow ?_ ?_ ‹_›; rotate_left; focus (first | (simp; done) | (simp; omega))))); done) | (simp [go_sem]; done) | (with_reducible refine Mem.cbelow ‹_› ?_; simp [go_sem, *]; done) | (with_reducible refine Mem.vbelow ‹_› (Mem.vof ?_); simp [go_sem]; done) | ((with_reducible refine Mem.zbelow ‹_› (Mem.vof ?_) ?_) <;> (simp [go_sem]; done)) | (simp [go_sem, *]; done)
      go_split_ands
      have hzw10 : w.heap.size < w1.heap.size := Mem.clt (a := ⟨w.heap.size, 0, none⟩) ‹_›
      clear k1
      go_wp2_with fail
      refine (B _).mono ?_
      rintro e w2 ⟨rfl, k2⟩
      have hS : w2.cell? ⟨w.heap.size, 0, none⟩ = some (.int .u8 (v.toNat : Int)) ∧ w2.cell? ⟨w.heap.size, 1, none⟩ = some (.int .u8 (t.toNat : Int)) ∧ w2.cell? ⟨w1.heap.size, 0, none⟩ = some (.int .u8 (pv.toNat : Int)) ∧ w2.cell? ⟨w1.heap.size, 1, none⟩ = some (.int .u8 (pt.toNat : Int)) ∧ Below w.heap.size w w2 := by
        (repeat' with_reducible apply And.intro) <;> first | with_reducible assumption | ((repeat (first | with_reducible assumption | with_reducible exact Below.refl _ _ | with_reducible exact Mem.vsome ‹_› | ((with_reducible refine Mem.vnew ?_ ?_) <;> first | rfl | (simp; done)) | ((with_reducible refine Mem.cnew ?_ ?_) <;> first | rfl | (simp; done)) | ((with_reducible refine Mem.znew ?_) <;> first | rfl | (simp; done)) | with_reducible refine Mem.vdrew ?_ | with_reducible refine Mem.valloc _ ?_ | with_reducible refine Mem.vbelow ‹_› ?_ | with_reducible refine Mem.vset ?_ | with_reducible refine Mem.cdrew ?_ | with_reducible refine Mem.calloc _ ?_ | with_reducible refine Mem.bdrew ?_ | with_reducible refine Mem.cbelow ‹_› ?_ | with_reducible refine Mem.zdrew ?_ | with_reducible refine Mem.zalloc _ ?_ ?_ | with_reducible refine Mem.zbelow ‹_› ?_ ?_ | with_reducible refine Mem.zset ?_ | (with_reducible refine Mem.cset ?_ ?_; rotate_left; focus (first | (simp; done) | (simp; omega))) | (with_reducible refine Mem.balloc ?_ ?_ _; rotate_left; focus (first | (simp; done) | (simp; omega))) | (with_reducible refine Mem.bset ?_ ?_ _; rotate_left; focus (first | (simp; done) | (simp; omega))) | (with_reducible refine Mem.bbelow ?_ ?_ ‹_›; rotate_left; focus (first | (simp; done) | (simp; omega))))); done) | (simp [go_sem]; done) | (with_reducible refine Mem.cbelow ‹_› ?_; simp [go_sem, *]; done) | (with_reducible refine Mem.vbelow ‹_› (Mem.vof ?_); simp [go_sem]; done) | ((with_reducible refine Mem.zbelow ‹_› (Mem.vof ?_) ?_) <;> (simp [go_sem]; done)) | (simp [go_sem, *]; done)
      go_split_ands
      have hzw20 : w.heap.size < w2.heap.size := Mem.clt (a := ⟨w.heap.size, 0, none⟩) ‹_›
      have hzw21 : w1.heap.size < w2.heap.size := Mem.clt (a := ⟨w1.heap.size, 0, none⟩) ‹_›
      clear k2
      go_wp2_with fail
      go_region_held3 (fun w' => w'.cell? ⟨w.heap.size, 0, none⟩ = some (.int .u8 (v.toNat : Int)) ∧ w'.cell? ⟨w.heap.size, 1, none⟩ = some (.int .u8 (t.toNat : Int)) ∧ w'.cell? ⟨w1.heap.size, 0, none⟩ = some (.int .u8 (pv.toNat : Int)) ∧ w'.cell? ⟨w1.heap.size, 1, none⟩ = some (.int .u8 (pt.toNat : Int)) ∧ w'.cell? ⟨w2.heap.size, 0, none⟩ = some (.int .u8 (pv.toNat : Int)) ∧ w'.cell? ⟨w2.heap.size, 1, none⟩ = some (.int .u8 (pt.toNat : Int)) ∧ Below w.heap.size w w') ((go_split_ands; (repeat' with_reducible apply And.intro) <;> first | with_reducible assumption | ((repeat (first | with_reducible assumption | with_reducible exact Below.refl _ _ | with_reducible exact Mem.vsome ‹_› | ((with_reducible refine Mem.vnew ?_ ?_) <;> first | rfl | (simp; done)) | ((with_reducible refine Mem.cnew ?_ ?_) <;> first | rfl | (simp; done)) | ((with_reducible refine Mem.znew ?_) <;> first | rfl | (simp; done)) | with_reducible refine Mem.vdrew ?_ | with_reducible refine Mem.valloc _ ?_ | with_reducible refine Mem.vbelow ‹_› ?_ | with_reducible refine Mem.vset ?_ | with_reducible refine Mem.cdrew ?_ | with_reducible refine Mem.calloc _ ?_ | with_reducible refine Mem.bdrew ?_ | with_reducible refine Mem.cbelow ‹_› ?_ | with_reducible refine Mem.zdrew ?_ | with_reducible refine Mem.zalloc _ ?_ ?_ | with_reducible refine Mem.zbelow ‹_› ?_ ?_ | with_reducible refine Mem.zset ?_ | (with_reducible refine Mem.cset ?_ ?_; rotate_left; focus (first | (simp; done) | (simp; omega))) | (with_reducible refine Mem.balloc ?_ ?_ _; rotate_left; focus (first | (simp; done) | (simp; omega))) | (with_reducible refine Mem.bset ?_ ?_ _; rotate_left; focus (first | (simp; done) | (simp; omega))) | (with_reducible refine Mem.bbelow ?_ ?_ ‹_›; rotate_left; focus (first | (simp; done) | (simp; omega))))); done) | (simp [go_sem]; done) | (with_reducible refine Mem.cbelow ‹_› ?_; simp [go_sem, *]; done) | (with_reducible refine Mem.vbelow ‹_› (Mem.vof ?_); simp [go_sem]; done) | ((with_reducible refine Mem.zbelow ‹_› (Mem.vof ?_) ?_) <;> (simp [go_sem]; done)) | (simp [go_sem, *]; done)))
        (first | (go_at_call 11; ((with_reducible refine (text_any _ _ _).mono ?_); rintro e w' ⟨rfl, hbb⟩)) | (go_at_call 12; ((with_reducible refine (rtext_any _ _ _).mono ?_); rintro e w' ⟨rfl, hbb⟩)))
      go_split_ands
      go_wp2_with fail
      refine (awake_any _).mono ?_
      rintro e w4 ⟨rfl, k4⟩
      go_wp2
      go_ret
      exact ⟨rfl, by (repeat (first | with_reducible assumption | with_reducible exact Below.refl _ _ | with_reducible exact Mem.vsome ‹_› | ((with_reducible refine Mem.vnew ?_ ?_) <;> first | rfl | (simp; done)) | ((with_reducible refine Mem.cnew ?_ ?_) <;> first | rfl | (simp; done)) | ((with_reducible refine Mem.znew ?_) <;> first | rfl | (simp; done)) | with_reducible refine Mem.vdrew ?_ | with_reducible refine Mem.valloc _ ?_ | with_reducible refine Mem.vbelow ‹_› ?_ | with_reducible refine Mem.vset ?_ | with_reducible refine Mem.cdrew ?_ | with_reducible refine Mem.calloc _ ?_ | with_reducible refine Mem.bdrew ?_ | with_reducible refine Mem.cbelow ‹_› ?_ | with_reducible refine Mem.zdrew ?_ | with_reducible refine Mem.zalloc _ ?_ ?_ | with_reducible refine Mem.zbelow ‹_› ?_ ?_ | with_reducible refine Mem.zset ?_ | (with_reducible refine Mem.cset ?_ ?_; rotate_left; focus (first | (simp; done) | (simp; omega))) | (with_reducible refine Mem.balloc ?_ ?_ _; rotate_left; focus (first | (simp; done) | (simp; omega))) | (with_reducible refine Mem.bset ?_ ?_ _; rotate_left; focus (first | (simp; done) | (simp; omega))) | (with_reducible refine Mem.bbelow ?_ ?_ ‹_›; rotate_left; focus (first | (simp; done) | (simp; omega)))))⟩
    · have A := parse_no s hno
      have B := rparse_no s hno
      clear hno
      go_enter Tryd.func3, Tryd.ntmps3
      go_wp2_with fail
      refine (A _).mono ?_
      rintro e w1 ⟨rfl, k1⟩
      have hS : w1.cell? ⟨w.heap.size, 0, none⟩ = some (.int .u8 (v.toNat : Int)) ∧ w1.cell? ⟨w.heap.size, 1, none⟩ = some (.int .u8 (t.toNat : Int)) ∧ Below w.heap.size w w1 := by
        (repeat' with_reducible apply And.intro) <;> first | with_reducible assumption | ((repeat (first | with_reducible assumption | with_reducible exact Below.refl _ _ | with_reducible exact Mem.vsome ‹_› | ((with_reducible refine Mem.vnew ?_ ?_) <;> first | rfl | (simp; done)) | ((with_reducible refine Mem.cnew ?_ ?_) <;> first | rfl | (simp; done)) | ((with_reducible refine Mem.znew ?_) <;> first | rfl | (simp; done)) | with_reducible refine Mem.vdrew ?_ | with_reducible refine Mem.valloc _ ?_ | with_reducible refine Mem.vbelow ‹_› ?_ | with_reducible refine Mem.vset ?_ | with_reducible refine Mem.cdrew ?_ | with_reducible refine Mem.calloc _ ?_ | with_reducible refine Mem.bdrew ?_ | with_reducible refine Mem.cbelow ‹_› ?_ | with_reducible refine Mem.zdrew ?_ | with_reducible refine Mem.zalloc _ ?_ ?_ | with_reducible refine Mem.zbelow ‹_› ?_ ?_ | with_reducible refine Mem.zset ?_ | (with_reducible refine Mem.cset ?_ ?_; rotate_left; focus (first | (simp; done) | (simp; omega))) | (with_reducible refine Mem.balloc ?_ ?_ _; rotate_left; focus (first | (simp; done) | (simp; omega))) | (with_reducible refine Mem.bset ?_ ?_ _; rotate_left; focus (first | (simp; done) | (simp; omega))) | (with_reducible refine Mem.bbelow ?_ ?_ ‹_›; rotate_left; focus (first | (simp; done) | (simp; omega))))); done) | (simp [go_sem]; done) | (with_reducible refine Mem.cbelow ‹_› ?_; simp [go_sem, *]; done) | (with_reducible refine Mem.vbelow ‹_› (Mem.vof ?_); simp [go_sem]; done) | ((with_reducible refine Mem.zbelow ‹_› (Mem.vof ?_) ?_) <;> (simp [go_sem]; done)) | (simp [go_sem, *]; done)
      go_split_ands
      have hzw10 : w.heap.size < w1.heap.size := Mem.clt (a := ⟨w.heap.size, 0, none⟩) ‹_›
      clear k1
      go_wp2_with fail
      refine (B _).mono ?_
      rintro e w2 ⟨rfl, k2⟩
      have hS : w2.cell? ⟨w.heap.size, 0, none⟩ = some (.int .u8 (v.toNat : Int)) ∧ w2.cell? ⟨w.heap.size, 1, none⟩ = some (.int .u8 (t.toNat : Int)) ∧ w2.cell? ⟨w1.heap.size, 0, none⟩ = some (.int .u8 0) ∧ w2.cell? ⟨w1.heap.size, 1, none⟩ = some (.int .u8 0) ∧ Below w.heap.size w w2 := by
        (repeat' with_reducible apply And.intro) <;> first | with_reducible assumption | ((repeat (first | with_reducible assumption | with_reducible exact Below.refl _ _ | with_reducible exact Mem.vsome ‹_› | ((with_reducible refine Mem.vnew ?_ ?_) <;> first | rfl | (simp; done)) | ((with_reducible refine Mem.cnew ?_ ?_) <;> first | rfl | (simp; done)) | ((with_reducible refine Mem.znew ?_) <;> first | rfl | (simp; done)) | with_reducible refine Mem.vdrew ?_ | with_reducible refine Mem.valloc _ ?_ | with_reducible refine Mem.vbelow ‹_› ?_ | with_reducible refine Mem.vset ?_ | with_reducible refine Mem.cdrew ?_ | with_reducible refine Mem.calloc _ ?_ | with_reducible refine Mem.bdrew ?_ | with_reducible refine Mem.cbelow ‹_› ?_ | with_reducible refine Mem.zdrew ?_ | with_reducible refine Mem.zalloc _ ?_ ?_ | with_reducible refine Mem.zbelow ‹_› ?_ ?_ | with_reducible refine Mem.zset ?_ | (with_reducible refine Mem.cset ?_ ?_; rotate_left; focus (first | (simp; done) | (simp; omega))) | (with_reducible refine Mem.balloc ?_ ?_ _; rotate_left; focus (first | (simp; done) | (simp; omega))) | (with_reducible refine Mem.bset ?_ ?_ _; rotate_left; focus (first | (simp; done) | (simp; omega))) | (with_reducible refine Mem.bbelow ?_ ?_ ‹_›; rotate_left; focus (first | (simp; done) | (simp; omega))))); done) | (simp [go_sem]; done) | (with_reducible refine Mem.cbelow ‹_› ?_; simp [go_sem, *]; done) | (with_reducible refine Mem.vbelow ‹_› (Mem.vof ?_); simp [go_sem]; done) | ((with_reducible refine Mem.zbelow ‹_› (Mem.vof ?_) ?_) <;> (simp [go_sem]; done)) | (simp [go_sem, *]; done)
      go_split_ands
      have hzw20 : w.heap.size < w2.heap.size := Mem.clt (a := ⟨w.heap.size, 0, none⟩) ‹_›
      have hzw21 : w1.heap.size < w2.heap.size := Mem.clt (a := ⟨w1.heap.size, 0, none⟩) ‹_›
      clear k2
      go_wp2_with fail
      go_region_held3 (fun w' => w'.cell? ⟨w.heap.size, 0, none⟩ = some (.int .u8 (v.toNat : Int)) ∧ w'.cell? ⟨w.heap.size, 1, none⟩ = some (.int .u8 (t.toNat : Int)) ∧ w'.cell? ⟨w1.heap.size, 0, none⟩ = some (.int .u8 0) ∧ w'.cell? ⟨w1.heap.size, 1, none⟩ = some (.int .u8 0) ∧ w'.cell? ⟨w2.heap.size, 0, none⟩ = some (.int .u8 0) ∧ w'.cell? ⟨w2.heap.size, 1, none⟩ = some (.int .u8 0) ∧ Below w.heap.size w w') ((go_split_ands; (repeat' with_reducible apply And.intro) <;> first | with_reducible assumption | ((repeat (first | with_reducible assumption | with_reducible exact Below.refl _ _ | with_reducible exact Mem.vsome ‹_› | ((with_reducible refine Mem.vnew ?_ ?_) <;> first | rfl | (simp; done)) | ((with_reducible refine Mem.cnew ?_ ?_) <;> first | rfl | (simp; done)) | ((with_reducible refine Mem.znew ?_) <;> first | rfl | (simp; done)) | with_reducible refine Mem.vdrew ?_ | with_reducible refine Mem.valloc _ ?_ | with_reducible refine Mem.vbelow ‹_› ?_ | with_reducible refine Mem.vset ?_ | with_reducible refine Mem.cdrew ?_ | with_reducible refine Mem.calloc _ ?_ | with_reducible refine Mem.bdrew ?_ | with_reducible refine Mem.cbelow ‹_› ?_ | with_reducible refine Mem.zdrew ?_ | with_reducible refine Mem.zalloc _ ?_ ?_ | with_reducible refine Mem.zbelow ‹_› ?_ ?_ | with_reducible refine Mem.zset ?_ | (with_reducible refine Mem.cset ?_ ?_; rotate_left; focus (first | (simp; done) | (simp; omega))) | (with_reducible refine Mem.balloc ?_ ?_ _; rotate_left; focus (first | (simp; done) | (simp; omega))) | (with_reducible refine Mem.bset ?_ ?_ _; rotate_left; focus (first | (simp; done) | (simp; omega))) | (with_reducible refine Mem.bbelow ?_ ?_ ‹_›; rotate_left; focus (first | (simp; done) | (simp; omega))))); done) | (simp [go_sem]; done) | (with_reducible refine Mem.cbelow ‹_› ?_; simp [go_sem, *]; done) | (with_reducible refine Mem.vbelow ‹_› (Mem.vof ?_); simp [go_sem]; done) | ((with_reducible refine Mem.zbelow ‹_› (Mem.vof ?_) ?_) <;> (simp [go_sem]; done)) | (simp [go_sem, *]; done)))
        (first | (go_at_call 11; ((with_reducible refine (text_any _ _ _).mono ?_); rintro e w' ⟨rfl, hbb⟩)) | (go_at_call 12; ((with_reducible refine (rtext_any _ _ _).mono ?_); rintro e w' ⟨rfl, hbb⟩)))
      go_split_ands
      go_wp2_with fail
      refine (awake_any _).mono ?_
      rintro e w4 ⟨rfl, k4⟩
      go_wp2
      go_ret
      exact ⟨rfl, by (repeat (first | with_reducible assumption | with_reducible exact Below.refl _ _ | with_reducible exact Mem.vsome ‹_› | ((with_reducible refine Mem.vnew ?_ ?_) <;> first | rfl | (simp; done)) | ((with_reducible refine Mem.cnew ?_ ?_) <;> first | rfl | (simp; done)) | ((with_reducible refine Mem.znew ?_) <;> first | rfl | (simp; done)) | with_reducible refine Mem.vdrew ?_ | with_reducible refine Mem.valloc _ ?_ | with_reducible refine Mem.vbelow ‹_› ?_ | with_reducible refine Mem.vset ?_ | with_reducible refine Mem.cdrew ?_ | with_reducible refine Mem.calloc _ ?_ | with_reducible refine Mem.bdrew ?_ | with_reducible refine Mem.cbelow ‹_› ?_ | with_reducible refine Mem.zdrew ?_ | with_reducible refine Mem.zalloc _ ?_ ?_ | with_reducible refine Mem.zbelow ‹_› ?_ ?_ | with_reducible refine Mem.zset ?_ | (with_reducible refine Mem.cset ?_ ?_; rotate_left; focus (first | (simp; done) | (simp; omega))) | (with_reducible refine Mem.balloc ?_ ?_ _; rotate_left; focus (first | (simp; done) | (simp; omega))) | (with_reducible refine Mem.bset ?_ ?_ _; rotate_left; focus (first | (simp; done) | (simp; omega))) | (with_reducible refine Mem.bbelow ?_ ?_ ‹_›; rotate_left; focus (first | (simp; done) | (simp; omega)))))⟩
  · have hI : (30 : Int) < (s.size : Int) := by omega
    go_enter Tryd.func3, Tryd.ntmps3
    go_wp2_with fail
    refine (awake_any _).mono ?_
    rintro e w1 ⟨rfl, k1⟩
    go_wp2
    go_ret
    exact ⟨rfl, by (repeat (first | with_reducible assumption | with_reducible exact Below.refl _ _ | with_reducible exact Mem.vsome ‹_› | ((with_reducible refine Mem.vnew ?_ ?_) <;> first | rfl | (simp; done)) | ((with_reducible refine Mem.cnew ?_ ?_) <;> first | rfl | (simp; done)) | ((with_reducible refine Mem.znew ?_) <;> first | rfl | (simp; done)) | with_reducible refine Mem.vdrew ?_ | with_reducible refine Mem.valloc _ ?_ | with_reducible refine Mem.vbelow ‹_› ?_ | with_reducible refine Mem.vset ?_ | with_reducible refine Mem.cdrew ?_ | with_reducible refine Mem.calloc _ ?_ | with_reducible refine Mem.bdrew ?_ | with_reducible refine Mem.cbelow ‹_› ?_ | with_reducible refine Mem.zdrew ?_ | with_reducible refine Mem.zalloc _ ?_ ?_ | with_reducible refine Mem.zbelow ‹_› ?_ ?_ | with_reducible refine Mem.zset ?_ | (with_reducible refine Mem.cset ?_ ?_; rotate_left; focus (first | (simp; done) | (simp; omega))) | (with_reducible refine Mem.balloc ?_ ?_ _; rotate_left; focus (first | (simp; done) | (simp; omega))) | (with_reducible refine Mem.bset ?_ ?_ _; rotate_left; focus (first | (simp; done) | (simp; omega))) | (with_reducible refine Mem.bbelow ?_ ?_ ‹_›; rotate_left; focus (first | (simp; done) | (simp; omega)))))⟩
end Go.Proofs.YtodfgcbgiaboiaaDoor
