/-
  Walks: the helpers of cochineallaw02: other, bit, alike, keeps.
-/
-- KEEP3
import Derived.Test.YtdpoebmahoipbaaSHelp
import Derived.Test.YtdpoebmahoipbaaSKeep
namespace Go.Proofs.Ytdpoebmahoipbaa
open Go Go.RowKit

theorem oth_raw (v t x : BitVec 8) : bits .xor .u8 (v.toNat : Int) (bits .and .u8 (x.toNat : Int) (t.toNat : Int)) = ((U8.othV v t x).toNat : Int) := by
  rw [U8.and_, U8.xor_]; rfl
set_option maxHeartbeats 1000000 in
theorem other_any (v t x : BitVec 8) (w : World) : Calls Try.prog 24 #[.agg #[.int .u8 (v.toNat : Int), .int .u8 (t.toNat : Int)], .int .u8 (x.toNat : Int)] w fun e w' =>
    e = .returned (.agg #[.int .u8 ((U8.othV v t x).toNat : Int), .int .u8 (t.toNat : Int)]) ∧ Below w.heap.size w w' := by
  have e1 := oth_raw v t x
  go_enter Try.func24, Try.ntmps24
  go_wp2
  refine bodyPost_ret (v := .agg #[.int .u8 ((U8.othV v t x).toNat : Int), .int .u8 (t.toNat : Int)]) (by simp [results, Try.results24, go_sem]) rfl ⟨rfl, ?_⟩
  exact Mem.balloc (Mem.balloc (Below.refl _ _) (Nat.le_refl _) _) (Nat.le_refl _) _

namespace U8
/-- Is a number odd? -/
def oddB (x : BitVec 8) : Bool := (x.toNat : Int) % 2 == 1
def othB (b t : Bool) (x : BitVec 8) : Bool := b != (t && oddB x)
theorem oth_ways (b t : Bool) (x : BitVec 8) : t = true ∨ b = othB b t x := by cases t <;> simp [othB]
end U8
set_option maxHeartbeats 1000000 in
theorem bit2_any (b t : Bool) (x : BitVec 8) (w : World) : Calls Try.prog 25 #[.agg #[.bool b, .bool t], .int .u8 (x.toNat : Int)] w fun e w' =>
    e = .returned (.agg #[.bool (U8.othB b t x), .bool t]) ∧ Below w.heap.size w w' := by
  have e1 : ((x.toNat : Int) % 2 == 1) = U8.oddB x := rfl
  cases t
  · rw [show U8.othB b false x = b from by simp [U8.othB]]
    go_enter Try.func25, Try.ntmps25
    go_wp2
    refine bodyPost_ret (v := .agg #[.bool b, .bool false]) (by simp [results, Try.results25, go_sem]) rfl ⟨rfl, ?_⟩
    exact Mem.balloc (Mem.balloc (Below.refl _ _) (Nat.le_refl _) _) (Nat.le_refl _) _
  · rw [show U8.othB b true x = !(b == U8.oddB x) from by unfold U8.othB bne; rw [Bool.true_and]]
    go_enter Try.func25, Try.ntmps25
    go_wp2
    refine bodyPost_ret (v := .agg #[.bool (!(b == U8.oddB x)), .bool true]) (by simp [results, Try.results25, go_sem]) rfl ⟨rfl, ?_⟩
    exact Mem.balloc (Mem.balloc (Below.refl _ _) (Nat.le_refl _) _) (Nat.le_refl _) _

set_option maxHeartbeats 1000000 in
theorem alike_any (v t u s : Bool) (w : World) : Calls Try.prog 43 #[.agg #[.bool v, .bool t], .agg #[.bool u, .bool s]] w fun e w' =>
    e = .returned (.bool (U8.alikeB v t u s)) ∧ Below w.heap.size w w' := by
  cases v <;> cases t <;> cases u <;> cases s
  all_goals
    go_enter Try.func43, Try.ntmps43
    go_wp2
    go_ret
    exact ⟨rfl, by (repeat (first | with_reducible assumption | with_reducible exact Below.refl _ _ | with_reducible exact Mem.vsome ‹_› | ((with_reducible refine Mem.vnew ?_ ?_) <;> first | rfl | (simp; done)) | ((with_reducible refine Mem.cnew ?_ ?_) <;> first | rfl | (simp; done)) | ((with_reducible refine Mem.znew ?_) <;> first | rfl | (simp; done)) | with_reducible refine Mem.vdrew ?_ | with_reducible refine Mem.valloc _ ?_ | with_reducible refine Mem.vbelow ‹_› ?_ | with_reducible refine Mem.vset ?_ | with_reducible refine Mem.cdrew ?_ | with_reducible refine Mem.calloc _ ?_ | with_reducible refine Mem.bdrew ?_ | with_reducible refine Mem.cbelow ‹_› ?_ | with_reducible refine Mem.zdrew ?_ | with_reducible refine Mem.zalloc _ ?_ ?_ | with_reducible refine Mem.zbelow ‹_› ?_ ?_ | with_reducible refine Mem.zset ?_ | (with_reducible refine Mem.cset ?_ ?_; rotate_left; focus (first | (simp; done) | (simp; omega))) | (with_reducible refine Mem.balloc ?_ ?_ _; rotate_left; focus (first | (simp; done) | (simp; omega))) | (with_reducible refine Mem.bset ?_ ?_ _; rotate_left; focus (first | (simp; done) | (simp; omega))) | (with_reducible refine Mem.bbelow ?_ ?_ ‹_›; rotate_left; focus (first | (simp; done) | (simp; omega)))))⟩

set_option maxHeartbeats 4000000 in
theorem keeps_any (r q : U8.S10) (h : U8.KeepS r q) (w : World) : Calls Try.prog 26 #[.agg #[.int .u8 ((r.A).toNat : Int), .int .u8 ((r.T).toNat : Int), .bool r.n, .bool r.nt, .bool r.v, .bool r.vt, .bool r.z, .bool r.zt, .bool r.c, .bool r.ct], .agg #[.int .u8 ((q.A).toNat : Int), .int .u8 ((q.T).toNat : Int), .bool q.n, .bool q.nt, .bool q.v, .bool q.vt, .bool q.z, .bool q.zt, .bool q.c, .bool q.ct]] w fun e w' =>
    e = .returned (.bool true) ∧ Below w.heap.size w w' := by
  obtain ⟨h1, h2, h3, h4, h5⟩ := h
  go_enter Try.func26, Try.ntmps26
  go_wp2_with fail
  refine (same_any _ _ _ _ _).mono ?_
  rw [h1]
  rintro e w1 ⟨rfl, b1⟩
  have hS : w1.cell? ⟨w.heap.size, 0, none⟩ = some (.int .u8 ((r.A).toNat : Int)) ∧ w1.cell? ⟨w.heap.size, 1, none⟩ = some (.int .u8 ((r.T).toNat : Int)) ∧ w1.cell? ⟨w.heap.size, 2, none⟩ = some (.bool r.n) ∧ w1.cell? ⟨w.heap.size, 3, none⟩ = some (.bool r.nt) ∧ w1.cell? ⟨w.heap.size, 4, none⟩ = some (.bool r.v) ∧ w1.cell? ⟨w.heap.size, 5, none⟩ = some (.bool r.vt) ∧ w1.cell? ⟨w.heap.size, 6, none⟩ = some (.bool r.z) ∧ w1.cell? ⟨w.heap.size, 7, none⟩ = some (.bool r.zt) ∧ w1.cell? ⟨w.heap.size, 8, none⟩ = some (.bool r.c) ∧ w1.cell? ⟨w.heap.size, 9, none⟩ = some (.bool r.ct) ∧ w1.cell? ⟨w.heap.size + 1, 0, none⟩ = some (.int .u8 ((q.A).toNat : Int)) ∧ w1.cell? ⟨w.heap.size + 1, 1, none⟩ = some (.int .u8 ((q.T).toNat : Int)) ∧ w1.cell? ⟨w.heap.size + 1, 2, none⟩ = some (.bool q.n) ∧ w1.cell? ⟨w.heap.size + 1, 3, none⟩ = some (.bool q.nt) ∧ w1.cell? ⟨w.heap.size + 1, 4, none⟩ = some (.bool q.v) ∧ w1.cell? ⟨w.heap.size + 1, 5, none⟩ = some (.bool q.vt) ∧ w1.cell? ⟨w.heap.size + 1, 6, none⟩ = some (.bool q.z) ∧ w1.cell? ⟨w.heap.size + 1, 7, none⟩ = some (.bool q.zt) ∧ w1.cell? ⟨w.heap.size + 1, 8, none⟩ = some (.bool q.c) ∧ w1.cell? ⟨w.heap.size + 1, 9, none⟩ = some (.bool q.ct) ∧ Below w.heap.size w w1 := by
    (repeat' with_reducible apply And.intro) <;> first | with_reducible assumption | ((repeat (first | with_reducible assumption | with_reducible exact Below.refl _ _ | with_reducible exact Mem.vsome ‹_› | ((with_reducible refine Mem.vnew ?_ ?_) <;> first | rfl | (simp; done)) | ((with_reducible refine Mem.cnew ?_ ?_) <;> first | rfl | (simp; done)) | ((with_reducible refine Mem.znew ?_) <;> first | rfl | (simp; done)) | with_reducible refine Mem.vdrew ?_ | with_reducible refine Mem.valloc _ ?_ | with_reducible refine Mem.vbelow ‹_› ?_ | with_reducible refine Mem.vset ?_ | with_reducible refine Mem.cdrew ?_ | with_reducible refine Mem.calloc _ ?_ | with_reducible refine Mem.bdrew ?_ | with_reducible refine Mem.cbelow ‹_› ?_ | with_reducible refine Mem.zdrew ?_ | with_reducible refine Mem.zalloc _ ?_ ?_ | with_reducible refine Mem.zbelow ‹_› ?_ ?_ | with_reducible refine Mem.zset ?_ | (with_reducible refine Mem.cset ?_ ?_; rotate_left; focus (first | (simp; done) | (simp; omega))) | (with_reducible refine Mem.balloc ?_ ?_ _; rotate_left; focus (first | (simp; done) | (simp; omega))) | (with_reducible refine Mem.bset ?_ ?_ _; rotate_left; focus (first | (simp; done) | (simp; omega))) | (with_reducible refine Mem.bbelow ?_ ?_ ‹_›; rotate_left; focus (first | (simp; done) | (simp; omega))))); done) | (simp [go_sem]; done) | (with_reducible refine Mem.cbelow ‹_› ?_; simp [go_sem, *]; done) | (with_reducible refine Mem.vbelow ‹_› (Mem.vof ?_); simp [go_sem]; done) | ((with_reducible refine Mem.zbelow ‹_› (Mem.vof ?_) ?_) <;> (simp [go_sem]; done)) | (simp [go_sem, *]; done)
  go_split_ands
  have hzw10 : w.heap.size < w1.heap.size := Mem.clt (a := ⟨w.heap.size, 0, none⟩) ‹_›
  have hzw11 : w.heap.size + 1 < w1.heap.size := Mem.clt (a := ⟨w.heap.size + 1, 0, none⟩) ‹_›
  clear b1
  go_wp2_with fail
  refine (alike_any _ _ _ _ _).mono ?_
  rw [h2]
  rintro e w2 ⟨rfl, b2⟩
  have hS : w2.cell? ⟨w.heap.size, 0, none⟩ = some (.int .u8 ((r.A).toNat : Int)) ∧ w2.cell? ⟨w.heap.size, 1, none⟩ = some (.int .u8 ((r.T).toNat : Int)) ∧ w2.cell? ⟨w.heap.size, 2, none⟩ = some (.bool r.n) ∧ w2.cell? ⟨w.heap.size, 3, none⟩ = some (.bool r.nt) ∧ w2.cell? ⟨w.heap.size, 4, none⟩ = some (.bool r.v) ∧ w2.cell? ⟨w.heap.size, 5, none⟩ = some (.bool r.vt) ∧ w2.cell? ⟨w.heap.size, 6, none⟩ = some (.bool r.z) ∧ w2.cell? ⟨w.heap.size, 7, none⟩ = some (.bool r.zt) ∧ w2.cell? ⟨w.heap.size, 8, none⟩ = some (.bool r.c) ∧ w2.cell? ⟨w.heap.size, 9, none⟩ = some (.bool r.ct) ∧ w2.cell? ⟨w.heap.size + 1, 0, none⟩ = some (.int .u8 ((q.A).toNat : Int)) ∧ w2.cell? ⟨w.heap.size + 1, 1, none⟩ = some (.int .u8 ((q.T).toNat : Int)) ∧ w2.cell? ⟨w.heap.size + 1, 2, none⟩ = some (.bool q.n) ∧ w2.cell? ⟨w.heap.size + 1, 3, none⟩ = some (.bool q.nt) ∧ w2.cell? ⟨w.heap.size + 1, 4, none⟩ = some (.bool q.v) ∧ w2.cell? ⟨w.heap.size + 1, 5, none⟩ = some (.bool q.vt) ∧ w2.cell? ⟨w.heap.size + 1, 6, none⟩ = some (.bool q.z) ∧ w2.cell? ⟨w.heap.size + 1, 7, none⟩ = some (.bool q.zt) ∧ w2.cell? ⟨w.heap.size + 1, 8, none⟩ = some (.bool q.c) ∧ w2.cell? ⟨w.heap.size + 1, 9, none⟩ = some (.bool q.ct) ∧ Below w.heap.size w w2 := by
    (repeat' with_reducible apply And.intro) <;> first | with_reducible assumption | ((repeat (first | with_reducible assumption | with_reducible exact Below.refl _ _ | with_reducible exact Mem.vsome ‹_› | ((with_reducible refine Mem.vnew ?_ ?_) <;> first | rfl | (simp; done)) | ((with_reducible refine Mem.cnew ?_ ?_) <;> first | rfl | (simp; done)) | ((with_reducible refine Mem.znew ?_) <;> first | rfl | (simp; done)) | with_reducible refine Mem.vdrew ?_ | with_reducible refine Mem.valloc _ ?_ | with_reducible refine Mem.vbelow ‹_› ?_ | with_reducible refine Mem.vset ?_ | with_reducible refine Mem.cdrew ?_ | with_reducible refine Mem.calloc _ ?_ | with_reducible refine Mem.bdrew ?_ | with_reducible refine Mem.cbelow ‹_› ?_ | with_reducible refine Mem.zdrew ?_ | with_reducible refine Mem.zalloc _ ?_ ?_ | with_reducible refine Mem.zbelow ‹_› ?_ ?_ | with_reducible refine Mem.zset ?_ | (with_reducible refine Mem.cset ?_ ?_; rotate_left; focus (first | (simp; done) | (simp; omega))) | (with_reducible refine Mem.balloc ?_ ?_ _; rotate_left; focus (first | (simp; done) | (simp; omega))) | (with_reducible refine Mem.bset ?_ ?_ _; rotate_left; focus (first | (simp; done) | (simp; omega))) | (with_reducible refine Mem.bbelow ?_ ?_ ‹_›; rotate_left; focus (first | (simp; done) | (simp; omega))))); done) | (simp [go_sem]; done) | (with_reducible refine Mem.cbelow ‹_› ?_; simp [go_sem, *]; done) | (with_reducible refine Mem.vbelow ‹_› (Mem.vof ?_); simp [go_sem]; done) | ((with_reducible refine Mem.zbelow ‹_› (Mem.vof ?_) ?_) <;> (simp [go_sem]; done)) | (simp [go_sem, *]; done)
  go_split_ands
  have hzw20 : w.heap.size < w2.heap.size := Mem.clt (a := ⟨w.heap.size, 0, none⟩) ‹_›
  have hzw21 : w.heap.size + 1 < w2.heap.size := Mem.clt (a := ⟨w.heap.size + 1, 0, none⟩) ‹_›
  clear b2
  go_wp2_with fail
  refine (alike_any _ _ _ _ _).mono ?_
  rw [h3]
  rintro e w3 ⟨rfl, b3⟩
  have hS : w3.cell? ⟨w.heap.size, 0, none⟩ = some (.int .u8 ((r.A).toNat : Int)) ∧ w3.cell? ⟨w.heap.size, 1, none⟩ = some (.int .u8 ((r.T).toNat : Int)) ∧ w3.cell? ⟨w.heap.size, 2, none⟩ = some (.bool r.n) ∧ w3.cell? ⟨w.heap.size, 3, none⟩ = some (.bool r.nt) ∧ w3.cell? ⟨w.heap.size, 4, none⟩ = some (.bool r.v) ∧ w3.cell? ⟨w.heap.size, 5, none⟩ = some (.bool r.vt) ∧ w3.cell? ⟨w.heap.size, 6, none⟩ = some (.bool r.z) ∧ w3.cell? ⟨w.heap.size, 7, none⟩ = some (.bool r.zt) ∧ w3.cell? ⟨w.heap.size, 8, none⟩ = some (.bool r.c) ∧ w3.cell? ⟨w.heap.size, 9, none⟩ = some (.bool r.ct) ∧ w3.cell? ⟨w.heap.size + 1, 0, none⟩ = some (.int .u8 ((q.A).toNat : Int)) ∧ w3.cell? ⟨w.heap.size + 1, 1, none⟩ = some (.int .u8 ((q.T).toNat : Int)) ∧ w3.cell? ⟨w.heap.size + 1, 2, none⟩ = some (.bool q.n) ∧ w3.cell? ⟨w.heap.size + 1, 3, none⟩ = some (.bool q.nt) ∧ w3.cell? ⟨w.heap.size + 1, 4, none⟩ = some (.bool q.v) ∧ w3.cell? ⟨w.heap.size + 1, 5, none⟩ = some (.bool q.vt) ∧ w3.cell? ⟨w.heap.size + 1, 6, none⟩ = some (.bool q.z) ∧ w3.cell? ⟨w.heap.size + 1, 7, none⟩ = some (.bool q.zt) ∧ w3.cell? ⟨w.heap.size + 1, 8, none⟩ = some (.bool q.c) ∧ w3.cell? ⟨w.heap.size + 1, 9, none⟩ = some (.bool q.ct) ∧ Below w.heap.size w w3 := by
    (repeat' with_reducible apply And.intro) <;> first | with_reducible assumption | ((repeat (first | with_reducible assumption | with_reducible exact Below.refl _ _ | with_reducible exact Mem.vsome ‹_› | ((with_reducible refine Mem.vnew ?_ ?_) <;> first | rfl | (simp; done)) | ((with_reducible refine Mem.cnew ?_ ?_) <;> first | rfl | (simp; done)) | ((with_reducible refine Mem.znew ?_) <;> first | rfl | (simp; done)) | with_reducible refine Mem.vdrew ?_ | with_reducible refine Mem.valloc _ ?_ | with_reducible refine Mem.vbelow ‹_› ?_ | with_reducible refine Mem.vset ?_ | with_reducible refine Mem.cdrew ?_ | with_reducible refine Mem.calloc _ ?_ | with_reducible refine Mem.bdrew ?_ | with_reducible refine Mem.cbelow ‹_› ?_ | with_reducible refine Mem.zdrew ?_ | with_reducible refine Mem.zalloc _ ?_ ?_ | with_reducible refine Mem.zbelow ‹_› ?_ ?_ | with_reducible refine Mem.zset ?_ | (with_reducible refine Mem.cset ?_ ?_; rotate_left; focus (first | (simp; done) | (simp; omega))) | (with_reducible refine Mem.balloc ?_ ?_ _; rotate_left; focus (first | (simp; done) | (simp; omega))) | (with_reducible refine Mem.bset ?_ ?_ _; rotate_left; focus (first | (simp; done) | (simp; omega))) | (with_reducible refine Mem.bbelow ?_ ?_ ‹_›; rotate_left; focus (first | (simp; done) | (simp; omega))))); done) | (simp [go_sem]; done) | (with_reducible refine Mem.cbelow ‹_› ?_; simp [go_sem, *]; done) | (with_reducible refine Mem.vbelow ‹_› (Mem.vof ?_); simp [go_sem]; done) | ((with_reducible refine Mem.zbelow ‹_› (Mem.vof ?_) ?_) <;> (simp [go_sem]; done)) | (simp [go_sem, *]; done)
  go_split_ands
  have hzw30 : w.heap.size < w3.heap.size := Mem.clt (a := ⟨w.heap.size, 0, none⟩) ‹_›
  have hzw31 : w.heap.size + 1 < w3.heap.size := Mem.clt (a := ⟨w.heap.size + 1, 0, none⟩) ‹_›
  clear b3
  go_wp2_with fail
  refine (alike_any _ _ _ _ _).mono ?_
  rw [h4]
  rintro e w4 ⟨rfl, b4⟩
  have hS : w4.cell? ⟨w.heap.size, 0, none⟩ = some (.int .u8 ((r.A).toNat : Int)) ∧ w4.cell? ⟨w.heap.size, 1, none⟩ = some (.int .u8 ((r.T).toNat : Int)) ∧ w4.cell? ⟨w.heap.size, 2, none⟩ = some (.bool r.n) ∧ w4.cell? ⟨w.heap.size, 3, none⟩ = some (.bool r.nt) ∧ w4.cell? ⟨w.heap.size, 4, none⟩ = some (.bool r.v) ∧ w4.cell? ⟨w.heap.size, 5, none⟩ = some (.bool r.vt) ∧ w4.cell? ⟨w.heap.size, 6, none⟩ = some (.bool r.z) ∧ w4.cell? ⟨w.heap.size, 7, none⟩ = some (.bool r.zt) ∧ w4.cell? ⟨w.heap.size, 8, none⟩ = some (.bool r.c) ∧ w4.cell? ⟨w.heap.size, 9, none⟩ = some (.bool r.ct) ∧ w4.cell? ⟨w.heap.size + 1, 0, none⟩ = some (.int .u8 ((q.A).toNat : Int)) ∧ w4.cell? ⟨w.heap.size + 1, 1, none⟩ = some (.int .u8 ((q.T).toNat : Int)) ∧ w4.cell? ⟨w.heap.size + 1, 2, none⟩ = some (.bool q.n) ∧ w4.cell? ⟨w.heap.size + 1, 3, none⟩ = some (.bool q.nt) ∧ w4.cell? ⟨w.heap.size + 1, 4, none⟩ = some (.bool q.v) ∧ w4.cell? ⟨w.heap.size + 1, 5, none⟩ = some (.bool q.vt) ∧ w4.cell? ⟨w.heap.size + 1, 6, none⟩ = some (.bool q.z) ∧ w4.cell? ⟨w.heap.size + 1, 7, none⟩ = some (.bool q.zt) ∧ w4.cell? ⟨w.heap.size + 1, 8, none⟩ = some (.bool q.c) ∧ w4.cell? ⟨w.heap.size + 1, 9, none⟩ = some (.bool q.ct) ∧ Below w.heap.size w w4 := by
    (repeat' with_reducible apply And.intro) <;> first | with_reducible assumption | ((repeat (first | with_reducible assumption | with_reducible exact Below.refl _ _ | with_reducible exact Mem.vsome ‹_› | ((with_reducible refine Mem.vnew ?_ ?_) <;> first | rfl | (simp; done)) | ((with_reducible refine Mem.cnew ?_ ?_) <;> first | rfl | (simp; done)) | ((with_reducible refine Mem.znew ?_) <;> first | rfl | (simp; done)) | with_reducible refine Mem.vdrew ?_ | with_reducible refine Mem.valloc _ ?_ | with_reducible refine Mem.vbelow ‹_› ?_ | with_reducible refine Mem.vset ?_ | with_reducible refine Mem.cdrew ?_ | with_reducible refine Mem.calloc _ ?_ | with_reducible refine Mem.bdrew ?_ | with_reducible refine Mem.cbelow ‹_› ?_ | with_reducible refine Mem.zdrew ?_ | with_reducible refine Mem.zalloc _ ?_ ?_ | with_reducible refine Mem.zbelow ‹_› ?_ ?_ | with_reducible refine Mem.zset ?_ | (with_reducible refine Mem.cset ?_ ?_; rotate_left; focus (first | (simp; done) | (simp; omega))) | (with_reducible refine Mem.balloc ?_ ?_ _; rotate_left; focus (first | (simp; done) | (simp; omega))) | (with_reducible refine Mem.bset ?_ ?_ _; rotate_left; focus (first | (simp; done) | (simp; omega))) | (with_reducible refine Mem.bbelow ?_ ?_ ‹_›; rotate_left; focus (first | (simp; done) | (simp; omega))))); done) | (simp [go_sem]; done) | (with_reducible refine Mem.cbelow ‹_› ?_; simp [go_sem, *]; done) | (with_reducible refine Mem.vbelow ‹_› (Mem.vof ?_); simp [go_sem]; done) | ((with_reducible refine Mem.zbelow ‹_› (Mem.vof ?_) ?_) <;> (simp [go_sem]; done)) | (simp [go_sem, *]; done)
  go_split_ands
  have hzw40 : w.heap.size < w4.heap.size := Mem.clt (a := ⟨w.heap.size, 0, none⟩) ‹_›
  have hzw41 : w.heap.size + 1 < w4.heap.size := Mem.clt (a := ⟨w.heap.size + 1, 0, none⟩) ‹_›
  clear b4
  go_wp2_with fail
  refine (alike_any _ _ _ _ _).mono ?_
  rw [h5]
  rintro e w5 ⟨rfl, b5⟩
  go_wp2
  go_ret
  exact ⟨rfl, by (repeat (first | with_reducible assumption | with_reducible exact Below.refl _ _ | with_reducible exact Mem.vsome ‹_› | ((with_reducible refine Mem.vnew ?_ ?_) <;> first | rfl | (simp; done)) | ((with_reducible refine Mem.cnew ?_ ?_) <;> first | rfl | (simp; done)) | ((with_reducible refine Mem.znew ?_) <;> first | rfl | (simp; done)) | with_reducible refine Mem.vdrew ?_ | with_reducible refine Mem.valloc _ ?_ | with_reducible refine Mem.vbelow ‹_› ?_ | with_reducible refine Mem.vset ?_ | with_reducible refine Mem.cdrew ?_ | with_reducible refine Mem.calloc _ ?_ | with_reducible refine Mem.bdrew ?_ | with_reducible refine Mem.cbelow ‹_› ?_ | with_reducible refine Mem.zdrew ?_ | with_reducible refine Mem.zalloc _ ?_ ?_ | with_reducible refine Mem.zbelow ‹_› ?_ ?_ | with_reducible refine Mem.zset ?_ | (with_reducible refine Mem.cset ?_ ?_; rotate_left; focus (first | (simp; done) | (simp; omega))) | (with_reducible refine Mem.balloc ?_ ?_ _; rotate_left; focus (first | (simp; done) | (simp; omega))) | (with_reducible refine Mem.bset ?_ ?_ _; rotate_left; focus (first | (simp; done) | (simp; omega))) | (with_reducible refine Mem.bbelow ?_ ?_ ‹_›; rotate_left; focus (first | (simp; done) | (simp; omega)))))⟩
end Go.Proofs.Ytdpoebmahoipbaa
