/-
  Walks: the document's answer for sums (cochinealref02): one, signed, modulo, Beyond, binary.
-/
-- KEEP3
import Derived.Test.YtdpoebmahoipbaaSLaw
import Derived.Test.YtdpoebmahoipbaaSDecS
import Derived.Test.YtdpoebmahoipbaaMem10
namespace Go.Proofs.Ytdpoebmahoipbaa
open Go Go.RowKit

namespace U8
def sgnI (n : Int) : Int := if 128 ≤ n then n - 256 else n
def beyI (n : Int) : Bool := decide (n < -128) || decide (127 < n)
theorem tmod_ways (n m : Int) : (0 ≤ n ∧ n.tmod m = n % m) ∨ (n < 0 ∧ n.tmod m = -((-n) % m)) := by
  rcases Int.lt_or_le n 0 with h | h
  · right
    refine ⟨h, ?_⟩
    have := Int.neg_tmod (-n) m
    rw [Int.neg_neg] at this
    rw [this, Int.tmod_eq_emod_of_nonneg (by omega)]
  · left; exact ⟨h, Int.tmod_eq_emod_of_nonneg h⟩
theorem mod_16 (n : Int) : -16 < n.tmod 16 ∧ n.tmod 16 < 16 ∧ (n.tmod 16 + 16).tmod 16 = n % 16 := by
  have h : -16 < n.tmod 16 ∧ n.tmod 16 < 16 := by rcases tmod_ways n 16 with ⟨h1, h2⟩ | ⟨h1, h2⟩ <;> omega
  refine ⟨h.1, h.2, ?_⟩
  rw [Int.tmod_eq_emod_of_nonneg (by omega)]
  rcases tmod_ways n 16 with ⟨h1, h2⟩ | ⟨h1, h2⟩ <;> omega
theorem mod_256 (n : Int) : -256 < n.tmod 256 ∧ n.tmod 256 < 256 ∧ (n.tmod 256 + 256).tmod 256 = n % 256 := by
  have h : -256 < n.tmod 256 ∧ n.tmod 256 < 256 := by rcases tmod_ways n 256 with ⟨h1, h2⟩ | ⟨h1, h2⟩ <;> omega
  refine ⟨h.1, h.2, ?_⟩
  rw [Int.tmod_eq_emod_of_nonneg (by omega)]
  rcases tmod_ways n 256 with ⟨h1, h2⟩ | ⟨h1, h2⟩ <;> omega
theorem sgnI_of (v : BitVec 8) : sgnI (v.toNat : Int) = sgn v := by unfold sgnI sgn; split <;> split <;> omega
theorem sgn_bd (v : BitVec 8) : -128 ≤ sgn v ∧ sgn v ≤ 127 := by have := v.isLt; have := sgn_ways v; omega
theorem beyI_of (v u : BitVec 8) (b : Bool) : beyI (sgn v + sgn u + oneI b) = beyB v u (sumA v u b) := (bey_sum v u b).symm
theorem sumN_tmod (v u : BitVec 8) (b : Bool) : (sumN v u b).tmod 256 = ((sumA v u b).toNat : Int) := by
  rw [Int.tmod_eq_emod_of_nonneg (sumN_bd v u b).1]; exact sumN_mod v u b
end U8

set_option maxHeartbeats 1000000 in
theorem rone_any (b : Bool) (w : World) : Calls Try.prog 34 #[.bool b] w fun e w' => e = .returned (.int .i64 (U8.oneI b)) ∧ Below w.heap.size w w' := by
  cases b
  all_goals
    go_enter Try.func34, Try.ntmps34
    go_wp2
    go_ret
    exact ⟨rfl, by (repeat (first | with_reducible assumption | with_reducible exact Below.refl _ _ | with_reducible exact Mem.vsome ‹_› | ((with_reducible refine Mem.vnew ?_ ?_) <;> first | rfl | (simp; done)) | ((with_reducible refine Mem.cnew ?_ ?_) <;> first | rfl | (simp; done)) | ((with_reducible refine Mem.znew ?_) <;> first | rfl | (simp; done)) | with_reducible refine Mem.vdrew ?_ | with_reducible refine Mem.valloc _ ?_ | with_reducible refine Mem.vbelow ‹_› ?_ | with_reducible refine Mem.vset ?_ | with_reducible refine Mem.cdrew ?_ | with_reducible refine Mem.calloc _ ?_ | with_reducible refine Mem.bdrew ?_ | with_reducible refine Mem.cbelow ‹_› ?_ | with_reducible refine Mem.zdrew ?_ | with_reducible refine Mem.zalloc _ ?_ ?_ | with_reducible refine Mem.zbelow ‹_› ?_ ?_ | with_reducible refine Mem.zset ?_ | (with_reducible refine Mem.cset ?_ ?_; rotate_left; focus (first | (simp; done) | (simp; omega))) | (with_reducible refine Mem.balloc ?_ ?_ _; rotate_left; focus (first | (simp; done) | (simp; omega))) | (with_reducible refine Mem.bset ?_ ?_ _; rotate_left; focus (first | (simp; done) | (simp; omega))) | (with_reducible refine Mem.bbelow ?_ ?_ ‹_›; rotate_left; focus (first | (simp; done) | (simp; omega)))))⟩

set_option maxHeartbeats 1000000 in
theorem signed_any (n : Int) (h1 : -1000 ≤ n) (h2 : n ≤ 1000) (w : World) : Calls Try.prog 47 #[.int .i64 n] w fun e w' => e = .returned (.int .i64 (U8.sgnI n)) ∧ Below w.heap.size w w' := by
  have e1 : IntKind.i64.wrap (n - 256) = n - 256 := IntWalk.i64_in _ (by omega)
  clear h1 h2
  by_cases h : 128 ≤ n
  · rw [show U8.sgnI n = n - 256 from if_pos h]
    have d : decide (128 ≤ n) = true := decide_eq_true h
    clear h
    go_enter Try.func47, Try.ntmps47
    go_wp2
    go_ret
    exact ⟨rfl, by (repeat (first | with_reducible assumption | with_reducible exact Below.refl _ _ | with_reducible exact Mem.vsome ‹_› | ((with_reducible refine Mem.vnew ?_ ?_) <;> first | rfl | (simp; done)) | ((with_reducible refine Mem.cnew ?_ ?_) <;> first | rfl | (simp; done)) | ((with_reducible refine Mem.znew ?_) <;> first | rfl | (simp; done)) | with_reducible refine Mem.vdrew ?_ | with_reducible refine Mem.valloc _ ?_ | with_reducible refine Mem.vbelow ‹_› ?_ | with_reducible refine Mem.vset ?_ | with_reducible refine Mem.cdrew ?_ | with_reducible refine Mem.calloc _ ?_ | with_reducible refine Mem.bdrew ?_ | with_reducible refine Mem.cbelow ‹_› ?_ | with_reducible refine Mem.zdrew ?_ | with_reducible refine Mem.zalloc _ ?_ ?_ | with_reducible refine Mem.zbelow ‹_› ?_ ?_ | with_reducible refine Mem.zset ?_ | (with_reducible refine Mem.cset ?_ ?_; rotate_left; focus (first | (simp; done) | (simp; omega))) | (with_reducible refine Mem.balloc ?_ ?_ _; rotate_left; focus (first | (simp; done) | (simp; omega))) | (with_reducible refine Mem.bset ?_ ?_ _; rotate_left; focus (first | (simp; done) | (simp; omega))) | (with_reducible refine Mem.bbelow ?_ ?_ ‹_›; rotate_left; focus (first | (simp; done) | (simp; omega)))))⟩
  · rw [show U8.sgnI n = n from if_neg h]
    have d : decide (128 ≤ n) = false := decide_eq_false h
    clear h
    go_enter Try.func47, Try.ntmps47
    go_wp2
    go_ret
    exact ⟨rfl, by (repeat (first | with_reducible assumption | with_reducible exact Below.refl _ _ | with_reducible exact Mem.vsome ‹_› | ((with_reducible refine Mem.vnew ?_ ?_) <;> first | rfl | (simp; done)) | ((with_reducible refine Mem.cnew ?_ ?_) <;> first | rfl | (simp; done)) | ((with_reducible refine Mem.znew ?_) <;> first | rfl | (simp; done)) | with_reducible refine Mem.vdrew ?_ | with_reducible refine Mem.valloc _ ?_ | with_reducible refine Mem.vbelow ‹_› ?_ | with_reducible refine Mem.vset ?_ | with_reducible refine Mem.cdrew ?_ | with_reducible refine Mem.calloc _ ?_ | with_reducible refine Mem.bdrew ?_ | with_reducible refine Mem.cbelow ‹_› ?_ | with_reducible refine Mem.zdrew ?_ | with_reducible refine Mem.zalloc _ ?_ ?_ | with_reducible refine Mem.zbelow ‹_› ?_ ?_ | with_reducible refine Mem.zset ?_ | (with_reducible refine Mem.cset ?_ ?_; rotate_left; focus (first | (simp; done) | (simp; omega))) | (with_reducible refine Mem.balloc ?_ ?_ _; rotate_left; focus (first | (simp; done) | (simp; omega))) | (with_reducible refine Mem.bset ?_ ?_ _; rotate_left; focus (first | (simp; done) | (simp; omega))) | (with_reducible refine Mem.bbelow ?_ ?_ ‹_›; rotate_left; focus (first | (simp; done) | (simp; omega)))))⟩

set_option maxHeartbeats 1000000 in
theorem beyond_any (n : Int) (w : World) : Calls Try.prog 46 #[.int .i64 n] w fun e w' => e = .returned (.bool (U8.beyI n)) ∧ Below w.heap.size w w' := by
  by_cases h : n < -128
  · rw [show U8.beyI n = true from by unfold U8.beyI; rw [decide_eq_true h]; rfl]
    have d : decide (n < -128) = true := decide_eq_true h
    clear h
    go_enter Try.func46, Try.ntmps46
    go_wp2
    go_ret
    exact ⟨rfl, by (repeat (first | with_reducible assumption | with_reducible exact Below.refl _ _ | with_reducible exact Mem.vsome ‹_› | ((with_reducible refine Mem.vnew ?_ ?_) <;> first | rfl | (simp; done)) | ((with_reducible refine Mem.cnew ?_ ?_) <;> first | rfl | (simp; done)) | ((with_reducible refine Mem.znew ?_) <;> first | rfl | (simp; done)) | with_reducible refine Mem.vdrew ?_ | with_reducible refine Mem.valloc _ ?_ | with_reducible refine Mem.vbelow ‹_› ?_ | with_reducible refine Mem.vset ?_ | with_reducible refine Mem.cdrew ?_ | with_reducible refine Mem.calloc _ ?_ | with_reducible refine Mem.bdrew ?_ | with_reducible refine Mem.cbelow ‹_› ?_ | with_reducible refine Mem.zdrew ?_ | with_reducible refine Mem.zalloc _ ?_ ?_ | with_reducible refine Mem.zbelow ‹_› ?_ ?_ | with_reducible refine Mem.zset ?_ | (with_reducible refine Mem.cset ?_ ?_; rotate_left; focus (first | (simp; done) | (simp; omega))) | (with_reducible refine Mem.balloc ?_ ?_ _; rotate_left; focus (first | (simp; done) | (simp; omega))) | (with_reducible refine Mem.bset ?_ ?_ _; rotate_left; focus (first | (simp; done) | (simp; omega))) | (with_reducible refine Mem.bbelow ?_ ?_ ‹_›; rotate_left; focus (first | (simp; done) | (simp; omega)))))⟩
  · rw [show U8.beyI n = decide (127 < n) from by unfold U8.beyI; rw [decide_eq_false h]; rfl]
    have d : decide (n < -128) = false := decide_eq_false h
    clear h
    go_enter Try.func46, Try.ntmps46
    go_wp2
    go_ret
    exact ⟨rfl, by (repeat (first | with_reducible assumption | with_reducible exact Below.refl _ _ | with_reducible exact Mem.vsome ‹_› | ((with_reducible refine Mem.vnew ?_ ?_) <;> first | rfl | (simp; done)) | ((with_reducible refine Mem.cnew ?_ ?_) <;> first | rfl | (simp; done)) | ((with_reducible refine Mem.znew ?_) <;> first | rfl | (simp; done)) | with_reducible refine Mem.vdrew ?_ | with_reducible refine Mem.valloc _ ?_ | with_reducible refine Mem.vbelow ‹_› ?_ | with_reducible refine Mem.vset ?_ | with_reducible refine Mem.cdrew ?_ | with_reducible refine Mem.calloc _ ?_ | with_reducible refine Mem.bdrew ?_ | with_reducible refine Mem.cbelow ‹_› ?_ | with_reducible refine Mem.zdrew ?_ | with_reducible refine Mem.zalloc _ ?_ ?_ | with_reducible refine Mem.zbelow ‹_› ?_ ?_ | with_reducible refine Mem.zset ?_ | (with_reducible refine Mem.cset ?_ ?_; rotate_left; focus (first | (simp; done) | (simp; omega))) | (with_reducible refine Mem.balloc ?_ ?_ _; rotate_left; focus (first | (simp; done) | (simp; omega))) | (with_reducible refine Mem.bset ?_ ?_ _; rotate_left; focus (first | (simp; done) | (simp; omega))) | (with_reducible refine Mem.bbelow ?_ ?_ ‹_›; rotate_left; focus (first | (simp; done) | (simp; omega)))))⟩

set_option maxHeartbeats 1000000 in
theorem modulo_16 (n : Int) (w : World) : Calls Try.prog 41 #[.int .i64 n, .int .i64 16] w fun e w' => e = .returned (.int .i64 (n % 16)) ∧ Below w.heap.size w w' := by
  obtain ⟨h1, h2, e3⟩ := U8.mod_16 n
  have e0 : IntKind.i64.wrap (n.tmod 16) = n.tmod 16 := IntWalk.i64_in _ (by omega)
  have e1 : IntKind.i64.wrap (n.tmod 16 + 16) = n.tmod 16 + 16 := IntWalk.i64_in _ (by omega)
  have e2 : IntKind.i64.wrap (n % 16) = n % 16 := IntWalk.i64_in _ (by omega)
  clear h1 h2
  go_enter Try.func41, Try.ntmps41
  go_wp2
  go_ret
  exact ⟨rfl, by (repeat (first | with_reducible assumption | with_reducible exact Below.refl _ _ | with_reducible exact Mem.vsome ‹_› | ((with_reducible refine Mem.vnew ?_ ?_) <;> first | rfl | (simp; done)) | ((with_reducible refine Mem.cnew ?_ ?_) <;> first | rfl | (simp; done)) | ((with_reducible refine Mem.znew ?_) <;> first | rfl | (simp; done)) | with_reducible refine Mem.vdrew ?_ | with_reducible refine Mem.valloc _ ?_ | with_reducible refine Mem.vbelow ‹_› ?_ | with_reducible refine Mem.vset ?_ | with_reducible refine Mem.cdrew ?_ | with_reducible refine Mem.calloc _ ?_ | with_reducible refine Mem.bdrew ?_ | with_reducible refine Mem.cbelow ‹_› ?_ | with_reducible refine Mem.zdrew ?_ | with_reducible refine Mem.zalloc _ ?_ ?_ | with_reducible refine Mem.zbelow ‹_› ?_ ?_ | with_reducible refine Mem.zset ?_ | (with_reducible refine Mem.cset ?_ ?_; rotate_left; focus (first | (simp; done) | (simp; omega))) | (with_reducible refine Mem.balloc ?_ ?_ _; rotate_left; focus (first | (simp; done) | (simp; omega))) | (with_reducible refine Mem.bset ?_ ?_ _; rotate_left; focus (first | (simp; done) | (simp; omega))) | (with_reducible refine Mem.bbelow ?_ ?_ ‹_›; rotate_left; focus (first | (simp; done) | (simp; omega)))))⟩

set_option maxHeartbeats 1000000 in
theorem modulo_256 (n : Int) (w : World) : Calls Try.prog 41 #[.int .i64 n, .int .i64 256] w fun e w' => e = .returned (.int .i64 (n % 256)) ∧ Below w.heap.size w w' := by
  obtain ⟨h1, h2, e3⟩ := U8.mod_256 n
  have e0 : IntKind.i64.wrap (n.tmod 256) = n.tmod 256 := IntWalk.i64_in _ (by omega)
  have e1 : IntKind.i64.wrap (n.tmod 256 + 256) = n.tmod 256 + 256 := IntWalk.i64_in _ (by omega)
  have e2 : IntKind.i64.wrap (n % 256) = n % 256 := IntWalk.i64_in _ (by omega)
  clear h1 h2
  go_enter Try.func41, Try.ntmps41
  go_wp2
  go_ret
  exact ⟨rfl, by (repeat (first | with_reducible assumption | with_reducible exact Below.refl _ _ | with_reducible exact Mem.vsome ‹_› | ((with_reducible refine Mem.vnew ?_ ?_) <;> first | rfl | (simp; done)) | ((with_reducible refine Mem.cnew ?_ ?_) <;> first | rfl | (simp; done)) | ((with_reducible refine Mem.znew ?_) <;> first | rfl | (simp; done)) | with_reducible refine Mem.vdrew ?_ | with_reducible refine Mem.valloc _ ?_ | with_reducible refine Mem.vbelow ‹_› ?_ | with_reducible refine Mem.vset ?_ | with_reducible refine Mem.cdrew ?_ | with_reducible refine Mem.calloc _ ?_ | with_reducible refine Mem.bdrew ?_ | with_reducible refine Mem.cbelow ‹_› ?_ | with_reducible refine Mem.zdrew ?_ | with_reducible refine Mem.zalloc _ ?_ ?_ | with_reducible refine Mem.zbelow ‹_› ?_ ?_ | with_reducible refine Mem.zset ?_ | (with_reducible refine Mem.cset ?_ ?_; rotate_left; focus (first | (simp; done) | (simp; omega))) | (with_reducible refine Mem.balloc ?_ ?_ _; rotate_left; focus (first | (simp; done) | (simp; omega))) | (with_reducible refine Mem.bset ?_ ?_ _; rotate_left; focus (first | (simp; done) | (simp; omega))) | (with_reducible refine Mem.bbelow ?_ ?_ ‹_›; rotate_left; focus (first | (simp; done) | (simp; omega)))))⟩

set_option maxHeartbeats 4000000 in
theorem rbin_any (v u : BitVec 8) (b : Bool) (w : World) : Calls Try.prog 33 #[.int .i64 (v.toNat : Int), .int .i64 (u.toNat : Int), .int .i64 (U8.oneI b)] w fun e w' =>
    e = .returned (.agg #[.int .i64 ((U8.sumA v u b).toNat : Int), .bool (U8.bitB (U8.sumA v u b) 7), .bool (U8.beyB v u (U8.sumA v u b)), .bool (U8.zeroV (U8.sumA v u b)), .bool (U8.carB v u b)]) ∧ Below w.heap.size w w' := by
  have n0 : IntKind.i64.wrap ((v.toNat : Int) + (u.toNat : Int)) = (v.toNat : Int) + (u.toNat : Int) := IntWalk.i64_in _ (by have := v.isLt; have := u.isLt; omega)
  have n1 : IntKind.i64.wrap ((v.toNat : Int) + (u.toNat : Int) + U8.oneI b) = U8.sumN v u b := IntWalk.i64_in _ (by have := U8.sumN_bd v u b; unfold U8.sumN at this; omega)
  have t1 := U8.sumN_tmod v u b
  have t2 : IntKind.i64.wrap ((U8.sumA v u b).toNat : Int) = ((U8.sumA v u b).toNat : Int) := IntWalk.i64_in _ (by have := (U8.sumA v u b).isLt; omega)
  have q1 : decide (128 ≤ ((U8.sumA v u b).toNat : Int)) = U8.bitB (U8.sumA v u b) 7 := by rw [U8.bit7, decide_eq_decide]; omega
  have q2 : (((U8.sumA v u b).toNat : Int) == 0) = U8.zeroV (U8.sumA v u b) := by unfold U8.zeroV; rw [U8.lit0, U8.eq_]
  have q3 : decide (256 ≤ U8.sumN v u b) = U8.carB v u b := rfl
  have s1 : IntKind.i64.wrap (U8.sgn v + U8.sgn u) = U8.sgn v + U8.sgn u := IntWalk.i64_in _ (by have := U8.sgn_bd v; have := U8.sgn_bd u; omega)
  have s2 : IntKind.i64.wrap (U8.sgn v + U8.sgn u + U8.oneI b) = U8.sgn v + U8.sgn u + U8.oneI b := IntWalk.i64_in _ (by have := U8.sgn_bd v; have := U8.sgn_bd u; have := U8.oneI_bd b; omega)
  go_enter Try.func33, Try.ntmps33
  go_wp2_with fail
  refine (signed_any (v.toNat : Int) (by have := v.isLt; omega) (by have := v.isLt; omega) _).mono ?_
  rw [U8.sgnI_of]
  rintro e w1 ⟨rfl, b1⟩
  have hS : w1.cell? ⟨w.heap.size, 0, none⟩ = some (Mem.val w1 ⟨w.heap.size, 0, none⟩) ∧ w1.cell? ⟨w.heap.size, 1, none⟩ = some (Mem.val w1 ⟨w.heap.size, 1, none⟩) ∧ w1.cell? ⟨w.heap.size, 2, none⟩ = some (Mem.val w1 ⟨w.heap.size, 2, none⟩) ∧ w1.cell? ⟨w.heap.size, 3, none⟩ = some (Mem.val w1 ⟨w.heap.size, 3, none⟩) ∧ w1.cell? ⟨w.heap.size, 4, none⟩ = some (Mem.val w1 ⟨w.heap.size, 4, none⟩) ∧ w1.frozen? ⟨w.heap.size, 0, none⟩ = false ∧ w1.frozen? ⟨w.heap.size, 1, none⟩ = false ∧ w1.frozen? ⟨w.heap.size, 2, none⟩ = false ∧ w1.frozen? ⟨w.heap.size, 3, none⟩ = false ∧ w1.frozen? ⟨w.heap.size, 4, none⟩ = false ∧ Below w.heap.size w w1 := by
    (repeat' with_reducible apply And.intro) <;> first | with_reducible assumption | ((repeat (first | with_reducible assumption | with_reducible exact Below.refl _ _ | with_reducible exact Mem.vsome ‹_› | ((with_reducible refine Mem.vnew ?_ ?_) <;> first | rfl | (simp; done)) | ((with_reducible refine Mem.cnew ?_ ?_) <;> first | rfl | (simp; done)) | ((with_reducible refine Mem.znew ?_) <;> first | rfl | (simp; done)) | with_reducible refine Mem.vdrew ?_ | with_reducible refine Mem.valloc _ ?_ | with_reducible refine Mem.vbelow ‹_› ?_ | with_reducible refine Mem.vset ?_ | with_reducible refine Mem.cdrew ?_ | with_reducible refine Mem.calloc _ ?_ | with_reducible refine Mem.bdrew ?_ | with_reducible refine Mem.cbelow ‹_› ?_ | with_reducible refine Mem.zdrew ?_ | with_reducible refine Mem.zalloc _ ?_ ?_ | with_reducible refine Mem.zbelow ‹_› ?_ ?_ | with_reducible refine Mem.zset ?_ | (with_reducible refine Mem.cset ?_ ?_; rotate_left; focus (first | (simp; done) | (simp; omega))) | (with_reducible refine Mem.balloc ?_ ?_ _; rotate_left; focus (first | (simp; done) | (simp; omega))) | (with_reducible refine Mem.bset ?_ ?_ _; rotate_left; focus (first | (simp; done) | (simp; omega))) | (with_reducible refine Mem.bbelow ?_ ?_ ‹_›; rotate_left; focus (first | (simp; done) | (simp; omega))))); done) | (simp [go_sem]; done) | (with_reducible refine Mem.cbelow ‹_› ?_; simp [go_sem, *]; done) | (with_reducible refine Mem.vbelow ‹_› (Mem.vof ?_); simp [go_sem]; done) | ((with_reducible refine Mem.zbelow ‹_› (Mem.vof ?_) ?_) <;> (simp [go_sem]; done)) | (simp [go_sem, *]; done)
  go_split_ands
  have hzw10 : w.heap.size < w1.heap.size := Mem.clt (a := ⟨w.heap.size, 0, none⟩) ‹_›
  clear b1
  go_wp2_with fail
  refine (signed_any (u.toNat : Int) (by have := u.isLt; omega) (by have := u.isLt; omega) _).mono ?_
  rw [U8.sgnI_of]
  rintro e w2 ⟨rfl, b2⟩
  have hS : w2.cell? ⟨w.heap.size, 0, none⟩ = some (Mem.val w2 ⟨w.heap.size, 0, none⟩) ∧ w2.cell? ⟨w.heap.size, 1, none⟩ = some (Mem.val w2 ⟨w.heap.size, 1, none⟩) ∧ w2.cell? ⟨w.heap.size, 2, none⟩ = some (Mem.val w2 ⟨w.heap.size, 2, none⟩) ∧ w2.cell? ⟨w.heap.size, 3, none⟩ = some (Mem.val w2 ⟨w.heap.size, 3, none⟩) ∧ w2.cell? ⟨w.heap.size, 4, none⟩ = some (Mem.val w2 ⟨w.heap.size, 4, none⟩) ∧ w2.frozen? ⟨w.heap.size, 0, none⟩ = false ∧ w2.frozen? ⟨w.heap.size, 1, none⟩ = false ∧ w2.frozen? ⟨w.heap.size, 2, none⟩ = false ∧ w2.frozen? ⟨w.heap.size, 3, none⟩ = false ∧ w2.frozen? ⟨w.heap.size, 4, none⟩ = false ∧ Below w.heap.size w w2 := by
    (repeat' with_reducible apply And.intro) <;> first | with_reducible assumption | ((repeat (first | with_reducible assumption | with_reducible exact Below.refl _ _ | with_reducible exact Mem.vsome ‹_› | ((with_reducible refine Mem.vnew ?_ ?_) <;> first | rfl | (simp; done)) | ((with_reducible refine Mem.cnew ?_ ?_) <;> first | rfl | (simp; done)) | ((with_reducible refine Mem.znew ?_) <;> first | rfl | (simp; done)) | with_reducible refine Mem.vdrew ?_ | with_reducible refine Mem.valloc _ ?_ | with_reducible refine Mem.vbelow ‹_› ?_ | with_reducible refine Mem.vset ?_ | with_reducible refine Mem.cdrew ?_ | with_reducible refine Mem.calloc _ ?_ | with_reducible refine Mem.bdrew ?_ | with_reducible refine Mem.cbelow ‹_› ?_ | with_reducible refine Mem.zdrew ?_ | with_reducible refine Mem.zalloc _ ?_ ?_ | with_reducible refine Mem.zbelow ‹_› ?_ ?_ | with_reducible refine Mem.zset ?_ | (with_reducible refine Mem.cset ?_ ?_; rotate_left; focus (first | (simp; done) | (simp; omega))) | (with_reducible refine Mem.balloc ?_ ?_ _; rotate_left; focus (first | (simp; done) | (simp; omega))) | (with_reducible refine Mem.bset ?_ ?_ _; rotate_left; focus (first | (simp; done) | (simp; omega))) | (with_reducible refine Mem.bbelow ?_ ?_ ‹_›; rotate_left; focus (first | (simp; done) | (simp; omega))))); done) | (simp [go_sem]; done) | (with_reducible refine Mem.cbelow ‹_› ?_; simp [go_sem, *]; done) | (with_reducible refine Mem.vbelow ‹_› (Mem.vof ?_); simp [go_sem]; done) | ((with_reducible refine Mem.zbelow ‹_› (Mem.vof ?_) ?_) <;> (simp [go_sem]; done)) | (simp [go_sem, *]; done)
  go_split_ands
  have hzw20 : w.heap.size < w2.heap.size := Mem.clt (a := ⟨w.heap.size, 0, none⟩) ‹_›
  clear b2
  go_wp2_with fail
  refine (beyond_any _ _).mono ?_
  rw [U8.beyI_of]
  rintro e w3 ⟨rfl, b3⟩
  have hS : w3.cell? ⟨w.heap.size, 0, none⟩ = some (Mem.val w3 ⟨w.heap.size, 0, none⟩) ∧ w3.cell? ⟨w.heap.size, 1, none⟩ = some (Mem.val w3 ⟨w.heap.size, 1, none⟩) ∧ w3.cell? ⟨w.heap.size, 2, none⟩ = some (Mem.val w3 ⟨w.heap.size, 2, none⟩) ∧ w3.cell? ⟨w.heap.size, 3, none⟩ = some (Mem.val w3 ⟨w.heap.size, 3, none⟩) ∧ w3.cell? ⟨w.heap.size, 4, none⟩ = some (Mem.val w3 ⟨w.heap.size, 4, none⟩) ∧ w3.frozen? ⟨w.heap.size, 0, none⟩ = false ∧ w3.frozen? ⟨w.heap.size, 1, none⟩ = false ∧ w3.frozen? ⟨w.heap.size, 2, none⟩ = false ∧ w3.frozen? ⟨w.heap.size, 3, none⟩ = false ∧ w3.frozen? ⟨w.heap.size, 4, none⟩ = false ∧ Below w.heap.size w w3 := by
    (repeat' with_reducible apply And.intro) <;> first | with_reducible assumption | ((repeat (first | with_reducible assumption | with_reducible exact Below.refl _ _ | with_reducible exact Mem.vsome ‹_› | ((with_reducible refine Mem.vnew ?_ ?_) <;> first | rfl | (simp; done)) | ((with_reducible refine Mem.cnew ?_ ?_) <;> first | rfl | (simp; done)) | ((with_reducible refine Mem.znew ?_) <;> first | rfl | (simp; done)) | with_reducible refine Mem.vdrew ?_ | with_reducible refine Mem.valloc _ ?_ | with_reducible refine Mem.vbelow ‹_› ?_ | with_reducible refine Mem.vset ?_ | with_reducible refine Mem.cdrew ?_ | with_reducible refine Mem.calloc _ ?_ | with_reducible refine Mem.bdrew ?_ | with_reducible refine Mem.cbelow ‹_› ?_ | with_reducible refine Mem.zdrew ?_ | with_reducible refine Mem.zalloc _ ?_ ?_ | with_reducible refine Mem.zbelow ‹_› ?_ ?_ | with_reducible refine Mem.zset ?_ | (with_reducible refine Mem.cset ?_ ?_; rotate_left; focus (first | (simp; done) | (simp; omega))) | (with_reducible refine Mem.balloc ?_ ?_ _; rotate_left; focus (first | (simp; done) | (simp; omega))) | (with_reducible refine Mem.bset ?_ ?_ _; rotate_left; focus (first | (simp; done) | (simp; omega))) | (with_reducible refine Mem.bbelow ?_ ?_ ‹_›; rotate_left; focus (first | (simp; done) | (simp; omega))))); done) | (simp [go_sem]; done) | (with_reducible refine Mem.cbelow ‹_› ?_; simp [go_sem, *]; done) | (with_reducible refine Mem.vbelow ‹_› (Mem.vof ?_); simp [go_sem]; done) | ((with_reducible refine Mem.zbelow ‹_› (Mem.vof ?_) ?_) <;> (simp [go_sem]; done)) | (simp [go_sem, *]; done)
  go_split_ands
  have hzw30 : w.heap.size < w3.heap.size := Mem.clt (a := ⟨w.heap.size, 0, none⟩) ‹_›
  clear b3
  go_wp2_with fail
  refine Mem.gate (fun W => Below w.heap.size w W ∧ W.cell? ⟨w.heap.size, 0, none⟩ = some (.int .i64 ((U8.sumA v u b).toNat : Int)) ∧ W.cell? ⟨w.heap.size, 1, none⟩ = some (.bool (U8.bitB (U8.sumA v u b) 7)) ∧ W.cell? ⟨w.heap.size, 2, none⟩ = some (.bool (U8.beyB v u (U8.sumA v u b))) ∧ W.cell? ⟨w.heap.size, 3, none⟩ = some (.bool (U8.zeroV (U8.sumA v u b))) ∧ W.cell? ⟨w.heap.size, 4, none⟩ = some (.bool (U8.carB v u b))) ?_ ?_
  · refine ⟨?_, Mem.five rfl ?_ ?_ ?_ ?_ ?_⟩
    all_goals ((repeat' with_reducible apply And.intro) <;> first | with_reducible assumption | ((repeat (first | with_reducible assumption | with_reducible exact Below.refl _ _ | with_reducible exact Mem.vsome ‹_› | ((with_reducible refine Mem.vnew ?_ ?_) <;> first | rfl | (simp; done)) | ((with_reducible refine Mem.cnew ?_ ?_) <;> first | rfl | (simp; done)) | ((with_reducible refine Mem.znew ?_) <;> first | rfl | (simp; done)) | with_reducible refine Mem.vdrew ?_ | with_reducible refine Mem.valloc _ ?_ | with_reducible refine Mem.vbelow ‹_› ?_ | with_reducible refine Mem.vset ?_ | with_reducible refine Mem.cdrew ?_ | with_reducible refine Mem.calloc _ ?_ | with_reducible refine Mem.bdrew ?_ | with_reducible refine Mem.cbelow ‹_› ?_ | with_reducible refine Mem.zdrew ?_ | with_reducible refine Mem.zalloc _ ?_ ?_ | with_reducible refine Mem.zbelow ‹_› ?_ ?_ | with_reducible refine Mem.zset ?_ | (with_reducible refine Mem.cset ?_ ?_; rotate_left; focus (first | (simp; done) | (simp; omega))) | (with_reducible refine Mem.balloc ?_ ?_ _; rotate_left; focus (first | (simp; done) | (simp; omega))) | (with_reducible refine Mem.bset ?_ ?_ _; rotate_left; focus (first | (simp; done) | (simp; omega))) | (with_reducible refine Mem.bbelow ?_ ?_ ‹_›; rotate_left; focus (first | (simp; done) | (simp; omega))))); done) | (simp [go_sem]; done) | (with_reducible refine Mem.cbelow ‹_› ?_; simp [go_sem, *]; done) | (with_reducible refine Mem.vbelow ‹_› (Mem.vof ?_); simp [go_sem]; done) | ((with_reducible refine Mem.zbelow ‹_› (Mem.vof ?_) ?_) <;> (simp [go_sem]; done)) | (simp [go_sem, *]; done))
  · rintro w4 ⟨hB, g0, g1, g2, g3, g4⟩
    refine bodyPost_ret (v := .agg #[.int .i64 ((U8.sumA v u b).toNat : Int), .bool (U8.bitB (U8.sumA v u b) 7), .bool (U8.beyB v u (U8.sumA v u b)), .bool (U8.zeroV (U8.sumA v u b)), .bool (U8.carB v u b)]) (by simp [results, Try.results33, go_sem, g0, g1, g2, g3, g4]) rfl ⟨rfl, ?_⟩
    exact hB
end Go.Proofs.Ytdpoebmahoipbaa
