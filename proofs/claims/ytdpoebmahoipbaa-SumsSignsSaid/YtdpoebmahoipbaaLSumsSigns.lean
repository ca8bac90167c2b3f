/-
  Walks: cochineallaw02.SumsSigns returns true, whatever the two numbers and the bit.
-/
-- KEEP3
import Derived.Test.YtdpoebmahoipbaaSHelp
import Derived.Test.YtdpoebmahoipbaaSLaw
namespace Go.Proofs.Ytdpoebmahoipbaa
open Go Go.RowKit

theorem of_i8 (m : Int) (v : BitVec 8) (hv : v = BitVec.ofInt 8 m) (w : World) : Calls Try.prog 17 #[.int .i64 m] w fun e w' => e = .returned (.agg #[.int .u8 (v.toNat : Int), .int .u8 0]) ∧ Below w.heap.size w w' := by
  subst hv
  have h := of_any m w
  rw [show m % 256 = ((BitVec.ofInt 8 m).toNat : Int) from by rw [BitVec.toNat_ofInt]; omega] at h
  exact h
theorem add0_any (v u : BitVec 8) (b : Bool) (w : World) : Calls Try.prog 12 #[.agg #[.int .u8 (v.toNat : Int), .int .u8 0], .agg #[.int .u8 (u.toNat : Int), .int .u8 0], .agg #[.bool b, .bool false], .agg #[.bool false, .bool false]] w fun e w' =>
    e = .returned (.agg #[.int .u8 (((U8.addS v 0#8 u 0#8 b false false false).A).toNat : Int), .int .u8 (((U8.addS v 0#8 u 0#8 b false false false).T).toNat : Int), .bool (U8.addS v 0#8 u 0#8 b false false false).n, .bool (U8.addS v 0#8 u 0#8 b false false false).nt, .bool (U8.addS v 0#8 u 0#8 b false false false).v, .bool (U8.addS v 0#8 u 0#8 b false false false).vt, .bool (U8.addS v 0#8 u 0#8 b false false false).z, .bool (U8.addS v 0#8 u 0#8 b false false false).zt, .bool (U8.addS v 0#8 u 0#8 b false false false).c, .bool (U8.addS v 0#8 u 0#8 b false false false).ct]) ∧ Below w.heap.size w w' := add_any v 0#8 u 0#8 b false false false w
theorem sub0_any (v u : BitVec 8) (b : Bool) (w : World) : Calls Try.prog 15 #[.agg #[.int .u8 (v.toNat : Int), .int .u8 0], .agg #[.int .u8 (u.toNat : Int), .int .u8 0], .agg #[.bool b, .bool false], .agg #[.bool false, .bool false]] w fun e w' =>
    e = .returned (.agg #[.int .u8 (((U8.subS v 0#8 u 0#8 b false false false).A).toNat : Int), .int .u8 (((U8.subS v 0#8 u 0#8 b false false false).T).toNat : Int), .bool (U8.subS v 0#8 u 0#8 b false false false).n, .bool (U8.subS v 0#8 u 0#8 b false false false).nt, .bool (U8.subS v 0#8 u 0#8 b false false false).v, .bool (U8.subS v 0#8 u 0#8 b false false false).vt, .bool (U8.subS v 0#8 u 0#8 b false false false).z, .bool (U8.subS v 0#8 u 0#8 b false false false).zt, .bool (U8.subS v 0#8 u 0#8 b false false false).c, .bool (U8.subS v 0#8 u 0#8 b false false false).ct]) ∧ Below w.heap.size w w' := sub_any v 0#8 u 0#8 b false false false w

theorem taut : ∀ d e : Bool, ((d != e) == e) = !d := by decide

set_option maxRecDepth 100000 in
set_option maxHeartbeats 40000000 in
theorem lsigns_t (m n : Int) (h1 : -128 ≤ m) (h2 : m ≤ 127) (h3 : -128 ≤ n) (h4 : n ≤ 127) (w : World) : Calls Try.prog 7 #[.int .i64 m, .int .i64 n, .bool true] w fun e w' =>
    e = .returned (.bool true) ∧ Below w.heap.size w w' := by
  obtain ⟨v, hv⟩ : ∃ v, v = BitVec.ofInt 8 m := ⟨_, rfl⟩
  obtain ⟨u, hu⟩ : ∃ u, u = BitVec.ofInt 8 n := ⟨_, rfl⟩
  obtain ⟨r, hr⟩ : ∃ r, r = U8.addS (BitVec.ofInt 8 m) 0#8 (BitVec.ofInt 8 n) 0#8 true false false false := ⟨_, rfl⟩
  obtain ⟨q, hq⟩ : ∃ q, q = U8.subS (BitVec.ofInt 8 m) 0#8 (BitVec.ofInt 8 n) 0#8 true false false false := ⟨_, rfl⟩
  have rv := U8.sign_v true h1 h2 h3 h4
  have rn := U8.sign_n true h1 h2 h3 h4
  have qv := U8.sign_dv true h1 h2 h3 h4
  have qn := U8.sign_dn true h1 h2 h3 h4
  rw [← hr, show m + n + U8.oneI true = m + n + 1 from rfl] at rv rn
  rw [← hq, show m - n - 1 + U8.oneI true = m - n - 1 + 1 from rfl] at qv qn
  have x1 : IntKind.i64.wrap (m + n) = m + n := IntWalk.i64_in _ (by omega)
  have x2 : IntKind.i64.wrap (m + n + 1) = m + n + 1 := IntWalk.i64_in _ (by omega)
  have x3 : IntKind.i64.wrap (m - n) = m - n := IntWalk.i64_in _ (by omega)
  have x4 : IntKind.i64.wrap (m - n - 1) = m - n - 1 := IntWalk.i64_in _ (by omega)
  have x5 : IntKind.i64.wrap (m - n - 1 + 1) = m - n - 1 + 1 := IntWalk.i64_in _ (by omega)
  have d1 : decide (m < -128) = false := decide_eq_false (by omega)
  have d2 : decide (127 < m) = false := decide_eq_false (by omega)
  have d3 : decide (n < -128) = false := decide_eq_false (by omega)
  have d4 : decide (127 < n) = false := decide_eq_false (by omega)
  clear h1 h2 h3 h4
  rw [← hv, ← hu] at hr hq
  have HV := Mem.hide hv
  have HU := Mem.hide hu
  have HR := Mem.hide hr
  have HQ := Mem.hide hq
  clear hv hu hr hq
  go_enter Try.func7, Try.ntmps7
  go_wp2_with fail
  refine (of_i8 m v HV.out _).mono ?_
  rintro e w1 ⟨rfl, b1⟩
  go_wp2_with fail
  refine (of_i8 n u HU.out _).mono ?_
  rintro e w2 ⟨rfl, b2⟩
  go_wp2_with fail
  refine (add0_any v u true _).mono ?_
  rw [← HR.out]
  rintro e w3 ⟨rfl, b3⟩
  go_wp2_with fail
  refine (of_i8 m v HV.out _).mono ?_
  rintro e w4 ⟨rfl, b4⟩
  have hS : w4.cell? ⟨w3.heap.size, 0, none⟩ = some (.int .u8 ((r.A).toNat : Int)) ∧ w4.cell? ⟨w3.heap.size, 1, none⟩ = some (.int .u8 ((r.T).toNat : Int)) ∧ w4.cell? ⟨w3.heap.size, 2, none⟩ = some (.bool r.n) ∧ w4.cell? ⟨w3.heap.size, 3, none⟩ = some (.bool r.nt) ∧ w4.cell? ⟨w3.heap.size, 4, none⟩ = some (.bool r.v) ∧ w4.cell? ⟨w3.heap.size, 5, none⟩ = some (.bool r.vt) ∧ w4.cell? ⟨w3.heap.size, 6, none⟩ = some (.bool r.z) ∧ w4.cell? ⟨w3.heap.size, 7, none⟩ = some (.bool r.zt) ∧ w4.cell? ⟨w3.heap.size, 8, none⟩ = some (.bool r.c) ∧ w4.cell? ⟨w3.heap.size, 9, none⟩ = some (.bool r.ct) ∧ Below w.heap.size w w4 := by
    (repeat' with_reducible apply And.intro) <;> first | with_reducible assumption | ((repeat (first | with_reducible assumption | with_reducible exact Below.refl _ _ | with_reducible exact Mem.vsome ‹_› | ((with_reducible refine Mem.vnew ?_ ?_) <;> first | rfl | (simp; done)) | ((with_reducible refine Mem.cnew ?_ ?_) <;> first | rfl | (simp; done)) | ((with_reducible refine Mem.znew ?_) <;> first | rfl | (simp; done)) | with_reducible refine Mem.vdrew ?_ | with_reducible refine Mem.valloc _ ?_ | with_reducible refine Mem.vbelow ‹_› ?_ | with_reducible refine Mem.vset ?_ | with_reducible refine Mem.cdrew ?_ | with_reducible refine Mem.calloc _ ?_ | with_reducible refine Mem.bdrew ?_ | with_reducible refine Mem.cbelow ‹_› ?_ | with_reducible refine Mem.zdrew ?_ | with_reducible refine Mem.zalloc _ ?_ ?_ | with_reducible refine Mem.zbelow ‹_› ?_ ?_ | with_reducible refine Mem.zset ?_ | (with_reducible refine Mem.cset ?_ ?_; rotate_left; focus (first | (simp; done) | (simp; omega))) | (with_reducible refine Mem.balloc ?_ ?_ _; rotate_left; focus (first | (simp; done) | (simp; omega))) | (with_reducible refine Mem.bset ?_ ?_ _; rotate_left; focus (first | (simp; done) | (simp; omega))) | (with_reducible refine Mem.bbelow ?_ ?_ ‹_›; rotate_left; focus (first | (simp; done) | (simp; omega))))); done) | (simp [go_sem]; done) | (with_reducible refine Mem.cbelow ‹_› ?_; simp [go_sem, *]; done) | (with_reducible refine Mem.vbelow ‹_› (Mem.vof ?_); simp [go_sem]; done) | ((with_reducible refine Mem.zbelow ‹_› (Mem.vof ?_) ?_) <;> (simp [go_sem]; done)) | (simp [go_sem, *]; done)
  go_split_ands
  have hzw40 : w3.heap.size < w4.heap.size := Mem.clt (a := ⟨w3.heap.size, 0, none⟩) ‹_›
  clear b4
  go_wp2_with fail
  refine (of_i8 n u HU.out _).mono ?_
  rintro e w5 ⟨rfl, b5⟩
  have hS : w5.cell? ⟨w3.heap.size, 0, none⟩ = some (.int .u8 ((r.A).toNat : Int)) ∧ w5.cell? ⟨w3.heap.size, 1, none⟩ = some (.int .u8 ((r.T).toNat : Int)) ∧ w5.cell? ⟨w3.heap.size, 2, none⟩ = some (.bool r.n) ∧ w5.cell? ⟨w3.heap.size, 3, none⟩ = some (.bool r.nt) ∧ w5.cell? ⟨w3.heap.size, 4, none⟩ = some (.bool r.v) ∧ w5.cell? ⟨w3.heap.size, 5, none⟩ = some (.bool r.vt) ∧ w5.cell? ⟨w3.heap.size, 6, none⟩ = some (.bool r.z) ∧ w5.cell? ⟨w3.heap.size, 7, none⟩ = some (.bool r.zt) ∧ w5.cell? ⟨w3.heap.size, 8, none⟩ = some (.bool r.c) ∧ w5.cell? ⟨w3.heap.size, 9, none⟩ = some (.bool r.ct) ∧ Below w.heap.size w w5 := by
    (repeat' with_reducible apply And.intro) <;> first | with_reducible assumption | ((repeat (first | with_reducible assumption | with_reducible exact Below.refl _ _ | with_reducible exact Mem.vsome ‹_› | ((with_reducible refine Mem.vnew ?_ ?_) <;> first | rfl | (simp; done)) | ((with_reducible refine Mem.cnew ?_ ?_) <;> first | rfl | (simp; done)) | ((with_reducible refine Mem.znew ?_) <;> first | rfl | (simp; done)) | with_reducible refine Mem.vdrew ?_ | with_reducible refine Mem.valloc _ ?_ | with_reducible refine Mem.vbelow ‹_› ?_ | with_reducible refine Mem.vset ?_ | with_reducible refine Mem.cdrew ?_ | with_reducible refine Mem.calloc _ ?_ | with_reducible refine Mem.bdrew ?_ | with_reducible refine Mem.cbelow ‹_› ?_ | with_reducible refine Mem.zdrew ?_ | with_reducible refine Mem.zalloc _ ?_ ?_ | with_reducible refine Mem.zbelow ‹_› ?_ ?_ | with_reducible refine Mem.zset ?_ | (with_reducible refine Mem.cset ?_ ?_; rotate_left; focus (first | (simp; done) | (simp; omega))) | (with_reducible refine Mem.balloc ?_ ?_ _; rotate_left; focus (first | (simp; done) | (simp; omega))) | (with_reducible refine Mem.bset ?_ ?_ _; rotate_left; focus (first | (simp; done) | (simp; omega))) | (with_reducible refine Mem.bbelow ?_ ?_ ‹_›; rotate_left; focus (first | (simp; done) | (simp; omega))))); done) | (simp [go_sem]; done) | (with_reducible refine Mem.cbelow ‹_› ?_; simp [go_sem, *]; done) | (with_reducible refine Mem.vbelow ‹_› (Mem.vof ?_); simp [go_sem]; done) | ((with_reducible refine Mem.zbelow ‹_› (Mem.vof ?_) ?_) <;> (simp [go_sem]; done)) | (simp [go_sem, *]; done)
  go_split_ands
  have hzw50 : w3.heap.size < w5.heap.size := Mem.clt (a := ⟨w3.heap.size, 0, none⟩) ‹_›
  clear b5
  go_wp2_with fail
  refine (sub0_any v u true _).mono ?_
  rw [← HQ.out]
  rintro e w6 ⟨rfl, b6⟩
  have hS : w6.cell? ⟨w3.heap.size, 0, none⟩ = some (.int .u8 ((r.A).toNat : Int)) ∧ w6.cell? ⟨w3.heap.size, 1, none⟩ = some (.int .u8 ((r.T).toNat : Int)) ∧ w6.cell? ⟨w3.heap.size, 2, none⟩ = some (.bool r.n) ∧ w6.cell? ⟨w3.heap.size, 3, none⟩ = some (.bool r.nt) ∧ w6.cell? ⟨w3.heap.size, 4, none⟩ = some (.bool r.v) ∧ w6.cell? ⟨w3.heap.size, 5, none⟩ = some (.bool r.vt) ∧ w6.cell? ⟨w3.heap.size, 6, none⟩ = some (.bool r.z) ∧ w6.cell? ⟨w3.heap.size, 7, none⟩ = some (.bool r.zt) ∧ w6.cell? ⟨w3.heap.size, 8, none⟩ = some (.bool r.c) ∧ w6.cell? ⟨w3.heap.size, 9, none⟩ = some (.bool r.ct) ∧ Below w.heap.size w w6 := by
    (repeat' with_reducible apply And.intro) <;> first | with_reducible assumption | ((repeat (first | with_reducible assumption | with_reducible exact Below.refl _ _ | with_reducible exact Mem.vsome ‹_› | ((with_reducible refine Mem.vnew ?_ ?_) <;> first | rfl | (simp; done)) | ((with_reducible refine Mem.cnew ?_ ?_) <;> first | rfl | (simp; done)) | ((with_reducible refine Mem.znew ?_) <;> first | rfl | (simp; done)) | with_reducible refine Mem.vdrew ?_ | with_reducible refine Mem.valloc _ ?_ | with_reducible refine Mem.vbelow ‹_› ?_ | with_reducible refine Mem.vset ?_ | with_reducible refine Mem.cdrew ?_ | with_reducible refine Mem.calloc _ ?_ | with_reducible refine Mem.bdrew ?_ | with_reducible refine Mem.cbelow ‹_› ?_ | with_reducible refine Mem.zdrew ?_ | with_reducible refine Mem.zalloc _ ?_ ?_ | with_reducible refine Mem.zbelow ‹_› ?_ ?_ | with_reducible refine Mem.zset ?_ | (with_reducible refine Mem.cset ?_ ?_; rotate_left; focus (first | (simp; done) | (simp; omega))) | (with_reducible refine Mem.balloc ?_ ?_ _; rotate_left; focus (first | (simp; done) | (simp; omega))) | (with_reducible refine Mem.bset ?_ ?_ _; rotate_left; focus (first | (simp; done) | (simp; omega))) | (with_reducible refine Mem.bbelow ?_ ?_ ‹_›; rotate_left; focus (first | (simp; done) | (simp; omega))))); done) | (simp [go_sem]; done) | (with_reducible refine Mem.cbelow ‹_› ?_; simp [go_sem, *]; done) | (with_reducible refine Mem.vbelow ‹_› (Mem.vof ?_); simp [go_sem]; done) | ((with_reducible refine Mem.zbelow ‹_› (Mem.vof ?_) ?_) <;> (simp [go_sem]; done)) | (simp [go_sem, *]; done)
  go_split_ands
  have hzw60 : w3.heap.size < w6.heap.size := Mem.clt (a := ⟨w3.heap.size, 0, none⟩) ‹_›
  clear b6
  go_wp2_with ((go_at_call 14; refine (awake_any _).mono ?_; rintro e w' ⟨rfl, b7⟩))
  all_goals first | (exfalso; omega) | (exact absurd (taut _ _) ‹_›) | skip
  all_goals go_ret
  all_goals exact ⟨rfl, by (repeat (first | with_reducible assumption | with_reducible exact Below.refl _ _ | with_reducible exact Mem.vsome ‹_› | ((with_reducible refine Mem.vnew ?_ ?_) <;> first | rfl | (simp; done)) | ((with_reducible refine Mem.cnew ?_ ?_) <;> first | rfl | (simp; done)) | ((with_reducible refine Mem.znew ?_) <;> first | rfl | (simp; done)) | with_reducible refine Mem.vdrew ?_ | with_reducible refine Mem.valloc _ ?_ | with_reducible refine Mem.vbelow ‹_› ?_ | with_reducible refine Mem.vset ?_ | with_reducible refine Mem.cdrew ?_ | with_reducible refine Mem.calloc _ ?_ | with_reducible refine Mem.bdrew ?_ | with_reducible refine Mem.cbelow ‹_› ?_ | with_reducible refine Mem.zdrew ?_ | with_reducible refine Mem.zalloc _ ?_ ?_ | with_reducible refine Mem.zbelow ‹_› ?_ ?_ | with_reducible refine Mem.zset ?_ | (with_reducible refine Mem.cset ?_ ?_; rotate_left; focus (first | (simp; done) | (simp; omega))) | (with_reducible refine Mem.balloc ?_ ?_ _; rotate_left; focus (first | (simp; done) | (simp; omega))) | (with_reducible refine Mem.bset ?_ ?_ _; rotate_left; focus (first | (simp; done) | (simp; omega))) | (with_reducible refine Mem.bbelow ?_ ?_ ‹_›; rotate_left; focus (first | (simp; done) | (simp; omega)))))⟩
set_option maxRecDepth 100000 in
set_option maxHeartbeats 40000000 in
theorem lsigns_f (m n : Int) (h1 : -128 ≤ m) (h2 : m ≤ 127) (h3 : -128 ≤ n) (h4 : n ≤ 127) (w : World) : Calls Try.prog 7 #[.int .i64 m, .int .i64 n, .bool false] w fun e w' =>
    e = .returned (.bool true) ∧ Below w.heap.size w w' := by
  obtain ⟨v, hv⟩ : ∃ v, v = BitVec.ofInt 8 m := ⟨_, rfl⟩
  obtain ⟨u, hu⟩ : ∃ u, u = BitVec.ofInt 8 n := ⟨_, rfl⟩
  obtain ⟨r, hr⟩ : ∃ r, r = U8.addS (BitVec.ofInt 8 m) 0#8 (BitVec.ofInt 8 n) 0#8 false false false false := ⟨_, rfl⟩
  obtain ⟨q, hq⟩ : ∃ q, q = U8.subS (BitVec.ofInt 8 m) 0#8 (BitVec.ofInt 8 n) 0#8 false false false false := ⟨_, rfl⟩
  have rv := U8.sign_v false h1 h2 h3 h4
  have rn := U8.sign_n false h1 h2 h3 h4
  have qv := U8.sign_dv false h1 h2 h3 h4
  have qn := U8.sign_dn false h1 h2 h3 h4
  rw [← hr, show m + n + U8.oneI false = m + n from Int.add_zero _] at rv rn
  rw [← hq, show m - n - 1 + U8.oneI false = m - n - 1 from Int.add_zero _] at qv qn
  have x1 : IntKind.i64.wrap (m + n) = m + n := IntWalk.i64_in _ (by omega)
  have x2 : IntKind.i64.wrap (m + n + 1) = m + n + 1 := IntWalk.i64_in _ (by omega)
  have x3 : IntKind.i64.wrap (m - n) = m - n := IntWalk.i64_in _ (by omega)
  have x4 : IntKind.i64.wrap (m - n - 1) = m - n - 1 := IntWalk.i64_in _ (by omega)
  have x5 : IntKind.i64.wrap (m - n - 1 + 1) = m - n - 1 + 1 := IntWalk.i64_in _ (by omega)
  have d1 : decide (m < -128) = false := decide_eq_false (by omega)
  have d2 : decide (127 < m) = false := decide_eq_false (by omega)
  have d3 : decide (n < -128) = false := decide_eq_false (by omega)
  have d4 : decide (127 < n) = false := decide_eq_false (by omega)
  clear h1 h2 h3 h4
  rw [← hv, ← hu] at hr hq
  have HV := Mem.hide hv
  have HU := Mem.hide hu
  have HR := Mem.hide hr
  have HQ := Mem.hide hq
  clear hv hu hr hq
  go_enter Try.func7, Try.ntmps7
  go_wp2_with fail
  refine (of_i8 m v HV.out _).mono ?_
  rintro e w1 ⟨rfl, b1⟩
  go_wp2_with fail
  refine (of_i8 n u HU.out _).mono ?_
  rintro e w2 ⟨rfl, b2⟩
  go_wp2_with fail
  refine (add0_any v u false _).mono ?_
  rw [← HR.out]
  rintro e w3 ⟨rfl, b3⟩
  go_wp2_with fail
  refine (of_i8 m v HV.out _).mono ?_
  rintro e w4 ⟨rfl, b4⟩
  have hS : w4.cell? ⟨w3.heap.size, 0, none⟩ = some (.int .u8 ((r.A).toNat : Int)) ∧ w4.cell? ⟨w3.heap.size, 1, none⟩ = some (.int .u8 ((r.T).toNat : Int)) ∧ w4.cell? ⟨w3.heap.size, 2, none⟩ = some (.bool r.n) ∧ w4.cell? ⟨w3.heap.size, 3, none⟩ = some (.bool r.nt) ∧ w4.cell? ⟨w3.heap.size, 4, none⟩ = some (.bool r.v) ∧ w4.cell? ⟨w3.heap.size, 5, none⟩ = some (.bool r.vt) ∧ w4.cell? ⟨w3.heap.size, 6, none⟩ = some (.bool r.z) ∧ w4.cell? ⟨w3.heap.size, 7, none⟩ = some (.bool r.zt) ∧ w4.cell? ⟨w3.heap.size, 8, none⟩ = some (.bool r.c) ∧ w4.cell? ⟨w3.heap.size, 9, none⟩ = some (.bool r.ct) ∧ Below w.heap.size w w4 := by
    (repeat' with_reducible apply And.intro) <;> first | with_reducible assumption | ((repeat (first | with_reducible assumption | with_reducible exact Below.refl _ _ | with_reducible exact Mem.vsome ‹_› | ((with_reducible refine Mem.vnew ?_ ?_) <;> first | rfl | (simp; done)) | ((with_reducible refine Mem.cnew ?_ ?_) <;> first | rfl | (simp; done)) | ((with_reducible refine Mem.znew ?_) <;> first | rfl | (simp; done)) | with_reducible refine Mem.vdrew ?_ | with_reducible refine Mem.valloc _ ?_ | with_reducible refine Mem.vbelow ‹_› ?_ | with_reducible refine Mem.vset ?_ | with_reducible refine Mem.cdrew ?_ | with_reducible refine Mem.calloc _ ?_ | with_reducible refine Mem.bdrew ?_ | with_reducible refine Mem.cbelow ‹_› ?_ | with_reducible refine Mem.zdrew ?_ | with_reducible refine Mem.zalloc _ ?_ ?_ | with_reducible refine Mem.zbelow ‹_› ?_ ?_ | with_reducible refine Mem.zset ?_ | (with_reducible refine Mem.cset ?_ ?_; rotate_left; focus (first | (simp; done) | (simp; omega))) | (with_reducible refine Mem.balloc ?_ ?_ _; rotate_left; focus (first | (simp; done) | (simp; omega))) | (with_reducible refine Mem.bset ?_ ?_ _; rotate_left; focus (first | (simp; done) | (simp; omega))) | (with_reducible refine Mem.bbelow ?_ ?_ ‹_›; rotate_left; focus (first | (simp; done) | (simp; omega))))); done) | (simp [go_sem]; done) | (with_reducible refine Mem.cbelow ‹_› ?_; simp [go_sem, *]; done) | (with_reducible refine Mem.vbelow ‹_› (Mem.vof ?_); simp [go_sem]; done) | ((with_reducible refine Mem.zbelow ‹_› (Mem.vof ?_) ?_) <;> (simp [go_sem]; done)) | (simp [go_sem, *]; done)
  go_split_ands
  have hzw40 : w3.heap.size < w4.heap.size := Mem.clt (a := ⟨w3.heap.size, 0, none⟩) ‹_›
  clear b4
  go_wp2_with fail
  refine (of_i8 n u HU.out _).mono ?_
  rintro e w5 ⟨rfl, b5⟩
  have hS : w5.cell? ⟨w3.heap.size, 0, none⟩ = some (.int .u8 ((r.A).toNat : Int)) ∧ w5.cell? ⟨w3.heap.size, 1, none⟩ = some (.int .u8 ((r.T).toNat : Int)) ∧ w5.cell? ⟨w3.heap.size, 2, none⟩ = some (.bool r.n) ∧ w5.cell? ⟨w3.heap.size, 3, none⟩ = some (.bool r.nt) ∧ w5.cell? ⟨w3.heap.size, 4, none⟩ = some (.bool r.v) ∧ w5.cell? ⟨w3.heap.size, 5, none⟩ = some (.bool r.vt) ∧ w5.cell? ⟨w3.heap.size, 6, none⟩ = some (.bool r.z) ∧ w5.cell? ⟨w3.heap.size, 7, none⟩ = some (.bool r.zt) ∧ w5.cell? ⟨w3.heap.size, 8, none⟩ = some (.bool r.c) ∧ w5.cell? ⟨w3.heap.size, 9, none⟩ = some (.bool r.ct) ∧ Below w.heap.size w w5 := by
    (repeat' with_reducible apply And.intro) <;> first | with_reducible assumption | ((repeat (first | with_reducible assumption | with_reducible exact Below.refl _ _ | with_reducible exact Mem.vsome ‹_› | ((with_reducible refine Mem.vnew ?_ ?_) <;> first | rfl | (simp; done)) | ((with_reducible refine Mem.cnew ?_ ?_) <;> first | rfl | (simp; done)) | ((with_reducible refine Mem.znew ?_) <;> first | rfl | (simp; done)) | with_reducible refine Mem.vdrew ?_ | with_reducible refine Mem.valloc _ ?_ | with_reducible refine Mem.vbelow ‹_› ?_ | with_reducible refine Mem.vset ?_ | with_reducible refine Mem.cdrew ?_ | with_reducible refine Mem.calloc _ ?_ | with_reducible refine Mem.bdrew ?_ | with_reducible refine Mem.cbelow ‹_› ?_ | with_reducible refine Mem.zdrew ?_ | with_reducible refine Mem.zalloc _ ?_ ?_ | with_reducible refine Mem.zbelow ‹_› ?_ ?_ | with_reducible refine Mem.zset ?_ | (with_reducible refine Mem.cset ?_ ?_; rotate_left; focus (first | (simp; done) | (simp; omega))) | (with_reducible refine Mem.balloc ?_ ?_ _; rotate_left; focus (first | (simp; done) | (simp; omega))) | (with_reducible refine Mem.bset ?_ ?_ _; rotate_left; focus (first | (simp; done) | (simp; omega))) | (with_reducible refine Mem.bbelow ?_ ?_ ‹_›; rotate_left; focus (first | (simp; done) | (simp; omega))))); done) | (simp [go_sem]; done) | (with_reducible refine Mem.cbelow ‹_› ?_; simp [go_sem, *]; done) | (with_reducible refine Mem.vbelow ‹_› (Mem.vof ?_); simp [go_sem]; done) | ((with_reducible refine Mem.zbelow ‹_› (Mem.vof ?_) ?_) <;> (simp [go_sem]; done)) | (simp [go_sem, *]; done)
  go_split_ands
  have hzw50 : w3.heap.size < w5.heap.size := Mem.clt (a := ⟨w3.heap.size, 0, none⟩) ‹_›
  clear b5
  go_wp2_with fail
  refine (sub0_any v u false _).mono ?_
  rw [← HQ.out]
  rintro e w6 ⟨rfl, b6⟩
  have hS : w6.cell? ⟨w3.heap.size, 0, none⟩ = some (.int .u8 ((r.A).toNat : Int)) ∧ w6.cell? ⟨w3.heap.size, 1, none⟩ = some (.int .u8 ((r.T).toNat : Int)) ∧ w6.cell? ⟨w3.heap.size, 2, none⟩ = some (.bool r.n) ∧ w6.cell? ⟨w3.heap.size, 3, none⟩ = some (.bool r.nt) ∧ w6.cell? ⟨w3.heap.size, 4, none⟩ = some (.bool r.v) ∧ w6.cell? ⟨w3.heap.size, 5, none⟩ = some (.bool r.vt) ∧ w6.cell? ⟨w3.heap.size, 6, none⟩ = some (.bool r.z) ∧ w6.cell? ⟨w3.heap.size, 7, none⟩ = some (.bool r.zt) ∧ w6.cell? ⟨w3.heap.size, 8, none⟩ = some (.bool r.c) ∧ w6.cell? ⟨w3.heap.size, 9, none⟩ = some (.bool r.ct) ∧ Below w.heap.size w w6 := by
    (repeat' with_reducible apply And.intro) <;> first | with_reducible assumption | ((repeat (first | with_reducible assumption | with_reducible exact Below.refl _ _ | with_reducible exact Mem.vsome ‹_› | ((with_reducible refine Mem.vnew ?_ ?_) <;> first | rfl | (simp; done)) | ((with_reducible refine Mem.cnew ?_ ?_) <;> first | rfl | (simp; done)) | ((with_reducible refine Mem.znew ?_) <;> first | rfl | (simp; done)) | with_reducible refine Mem.vdrew ?_ | with_reducible refine Mem.valloc _ ?_ | with_reducible refine Mem.vbelow ‹_› ?_ | with_reducible refine Mem.vset ?_ | with_reducible refine Mem.cdrew ?_ | with_reducible refine Mem.calloc _ ?_ | with_reducible refine Mem.bdrew ?_ | with_reducible refine Mem.cbelow ‹_› ?_ | with_reducible refine Mem.zdrew ?_ | with_reducible refine Mem.zalloc _ ?_ ?_ | with_reducible refine Mem.zbelow ‹_› ?_ ?_ | with_reducible refine Mem.zset ?_ | (with_reducible refine Mem.cset ?_ ?_; rotate_left; focus (first | (simp; done) | (simp; omega))) | (with_reducible refine Mem.balloc ?_ ?_ _; rotate_left; focus (first | (simp; done) | (simp; omega))) | (with_reducible refine Mem.bset ?_ ?_ _; rotate_left; focus (first | (simp; done) | (simp; omega))) | (with_reducible refine Mem.bbelow ?_ ?_ ‹_›; rotate_left; focus (first | (simp; done) | (simp; omega))))); done) | (simp [go_sem]; done) | (with_reducible refine Mem.cbelow ‹_› ?_; simp [go_sem, *]; done) | (with_reducible refine Mem.vbelow ‹_› (Mem.vof ?_); simp [go_sem]; done) | ((with_reducible refine Mem.zbelow ‹_› (Mem.vof ?_) ?_) <;> (simp [go_sem]; done)) | (simp [go_sem, *]; done)
  go_split_ands
  have hzw60 : w3.heap.size < w6.heap.size := Mem.clt (a := ⟨w3.heap.size, 0, none⟩) ‹_›
  clear b6
  go_wp2_with ((go_at_call 14; refine (awake_any _).mono ?_; rintro e w' ⟨rfl, b7⟩))
  all_goals first | (exfalso; omega) | (exact absurd (taut _ _) ‹_›) | skip
  all_goals go_ret
  all_goals exact ⟨rfl, by (repeat (first | with_reducible assumption | with_reducible exact Below.refl _ _ | with_reducible exact Mem.vsome ‹_› | ((with_reducible refine Mem.vnew ?_ ?_) <;> first | rfl | (simp; done)) | ((with_reducible refine Mem.cnew ?_ ?_) <;> first | rfl | (simp; done)) | ((with_reducible refine Mem.znew ?_) <;> first | rfl | (simp; done)) | with_reducible refine Mem.vdrew ?_ | with_reducible refine Mem.valloc _ ?_ | with_reducible refine Mem.vbelow ‹_› ?_ | with_reducible refine Mem.vset ?_ | with_reducible refine Mem.cdrew ?_ | with_reducible refine Mem.calloc _ ?_ | with_reducible refine Mem.bdrew ?_ | with_reducible refine Mem.cbelow ‹_› ?_ | with_reducible refine Mem.zdrew ?_ | with_reducible refine Mem.zalloc _ ?_ ?_ | with_reducible refine Mem.zbelow ‹_› ?_ ?_ | with_reducible refine Mem.zset ?_ | (with_reducible refine Mem.cset ?_ ?_; rotate_left; focus (first | (simp; done) | (simp; omega))) | (with_reducible refine Mem.balloc ?_ ?_ _; rotate_left; focus (first | (simp; done) | (simp; omega))) | (with_reducible refine Mem.bset ?_ ?_ _; rotate_left; focus (first | (simp; done) | (simp; omega))) | (with_reducible refine Mem.bbelow ?_ ?_ ‹_›; rotate_left; focus (first | (simp; done) | (simp; omega)))))⟩
set_option maxHeartbeats 4000000 in
theorem lsigns_o0 (m n : Int) (b : Bool) (h : m < -128) (w : World) : Calls Try.prog 7 #[.int .i64 m, .int .i64 n, .bool b] w fun e w' =>
    e = .returned (.bool true) ∧ Below w.heap.size w w' := by
  have d0 : decide (m < -128) = true := decide_eq_true (by omega)
  clear h
  go_enter Try.func7, Try.ntmps7
  go_wp2_with fail
  refine (awake_any _).mono ?_
  rintro e w1 ⟨rfl, b1⟩
  go_wp2
  go_ret
  exact ⟨rfl, b1⟩

set_option maxHeartbeats 4000000 in
theorem lsigns_o1 (m n : Int) (b : Bool) (h : 127 < m) (w : World) : Calls Try.prog 7 #[.int .i64 m, .int .i64 n, .bool b] w fun e w' =>
    e = .returned (.bool true) ∧ Below w.heap.size w w' := by
  have d0 : decide (m < -128) = false := decide_eq_false (by omega)
  have d1 : decide (127 < m) = true := decide_eq_true (by omega)
  clear h
  go_enter Try.func7, Try.ntmps7
  go_wp2_with fail
  refine (awake_any _).mono ?_
  rintro e w1 ⟨rfl, b1⟩
  go_wp2
  go_ret
  exact ⟨rfl, b1⟩

set_option maxHeartbeats 4000000 in
theorem lsigns_o2 (m n : Int) (b : Bool) (h1 : -128 ≤ m) (h2 : m ≤ 127) (h : n < -128) (w : World) : Calls Try.prog 7 #[.int .i64 m, .int .i64 n, .bool b] w fun e w' =>
    e = .returned (.bool true) ∧ Below w.heap.size w w' := by
  have d0 : decide (m < -128) = false := decide_eq_false (by omega)
  have d1 : decide (127 < m) = false := decide_eq_false (by omega)
  have d2 : decide (n < -128) = true := decide_eq_true (by omega)
  clear h1 h2 h
  go_enter Try.func7, Try.ntmps7
  go_wp2_with fail
  refine (awake_any _).mono ?_
  rintro e w1 ⟨rfl, b1⟩
  go_wp2
  go_ret
  exact ⟨rfl, b1⟩

set_option maxHeartbeats 4000000 in
theorem lsigns_o3 (m n : Int) (b : Bool) (h1 : -128 ≤ m) (h2 : m ≤ 127) (h : 127 < n) (w : World) : Calls Try.prog 7 #[.int .i64 m, .int .i64 n, .bool b] w fun e w' =>
    e = .returned (.bool true) ∧ Below w.heap.size w w' := by
  have d0 : decide (m < -128) = false := decide_eq_false (by omega)
  have d1 : decide (127 < m) = false := decide_eq_false (by omega)
  have d2 : decide (n < -128) = false := decide_eq_false (by omega)
  have d3 : decide (127 < n) = true := decide_eq_true (by omega)
  clear h1 h2 h
  go_enter Try.func7, Try.ntmps7
  go_wp2_with fail
  refine (awake_any _).mono ?_
  rintro e w1 ⟨rfl, b1⟩
  go_wp2
  go_ret
  exact ⟨rfl, b1⟩

theorem lsigns (m n : Int) (b : Bool) (w : World) : Calls Try.prog 7 #[.int .i64 m, .int .i64 n, .bool b] w fun e w' =>
    e = .returned (.bool true) ∧ Below w.heap.size w w' := by
  rcases Int.lt_or_le m (-128) with h1 | h1
  · exact lsigns_o0 m n b h1 w
  rcases Int.lt_or_le 127 m with h2 | h2
  · exact lsigns_o1 m n b h2 w
  rcases Int.lt_or_le n (-128) with h3 | h3
  · exact lsigns_o2 m n b h1 h2 h3 w
  rcases Int.lt_or_le 127 n with h4 | h4
  · exact lsigns_o3 m n b h1 h2 h4 w
  cases b
  · exact lsigns_f m n h1 h2 h3 h4 w
  · exact lsigns_t m n h1 h2 h3 h4 w
theorem lsigns_w (m : Int) (_ : -9223372036854775808 ≤ m) (_ : m ≤ 9223372036854775807) (n : Int) (_ : -9223372036854775808 ≤ n) (_ : n ≤ 9223372036854775807) (b : Bool) (w : World) : Calls Try.prog 7 #[.int .i64 m, .int .i64 n, .bool b] w fun e w' =>
    e = .returned (.bool true) ∧ Below w.heap.size w w' := lsigns m n b w
end Go.Proofs.Ytdpoebmahoipbaa
