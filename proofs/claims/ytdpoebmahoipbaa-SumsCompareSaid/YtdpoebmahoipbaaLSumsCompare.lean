/-
  Walks: cochineallaw02.SumsCompare returns true, whatever the two bytes and the number.
-/
-- KEEP3
import Derived.Test.YtdpoebmahoipbaaSHelp
import Derived.Test.YtdpoebmahoipbaaSCmp
import Derived.Test.YtdpoebmahoipbaaSRef5Sub
namespace Go.Proofs.Ytdpoebmahoipbaa
open Go Go.RowKit

set_option maxHeartbeats 4000000 in
theorem same_eq (r : U8.S10) (w : World) : Calls Try.prog 11 #[.agg #[.int .u8 ((r.A).toNat : Int), .int .u8 ((r.T).toNat : Int), .bool r.n, .bool r.nt, .bool r.v, .bool r.vt, .bool r.z, .bool r.zt, .bool r.c, .bool r.ct], .agg #[.int .u8 ((r.A).toNat : Int), .int .u8 ((r.T).toNat : Int), .bool r.n, .bool r.nt, .bool r.v, .bool r.vt, .bool r.z, .bool r.zt, .bool r.c, .bool r.ct]] w fun e w' =>
    e = .returned (.bool true) ∧ Below w.heap.size w w' := by
  go_enter Try.func11, Try.ntmps11
  go_wp2
  go_ret
  exact ⟨rfl, by (repeat (first | with_reducible assumption | with_reducible exact Below.refl _ _ | with_reducible exact Mem.vsome ‹_› | ((with_reducible refine Mem.vnew ?_ ?_) <;> first | rfl | (simp; done)) | ((with_reducible refine Mem.cnew ?_ ?_) <;> first | rfl | (simp; done)) | ((with_reducible refine Mem.znew ?_) <;> first | rfl | (simp; done)) | with_reducible refine Mem.vdrew ?_ | with_reducible refine Mem.valloc _ ?_ | with_reducible refine Mem.vbelow ‹_› ?_ | with_reducible refine Mem.vset ?_ | with_reducible refine Mem.cdrew ?_ | with_reducible refine Mem.calloc _ ?_ | with_reducible refine Mem.bdrew ?_ | with_reducible refine Mem.cbelow ‹_› ?_ | with_reducible refine Mem.zdrew ?_ | with_reducible refine Mem.zalloc _ ?_ ?_ | with_reducible refine Mem.zbelow ‹_› ?_ ?_ | with_reducible refine Mem.zset ?_ | (with_reducible refine Mem.cset ?_ ?_; rotate_left; focus (first | (simp; done) | (simp; omega))) | (with_reducible refine Mem.balloc ?_ ?_ _; rotate_left; focus (first | (simp; done) | (simp; omega))) | (with_reducible refine Mem.bset ?_ ?_ _; rotate_left; focus (first | (simp; done) | (simp; omega))) | (with_reducible refine Mem.bbelow ?_ ?_ ‹_›; rotate_left; focus (first | (simp; done) | (simp; omega)))))⟩
namespace U8
theorem rstep_raw (v : BitVec 8) (n : Int) : ((v.toNat : Int) + n.tmod 256) % 256 = ((stepA v n).toNat : Int) := by
  unfold stepA
  rw [BitVec.toNat_add, BitVec.toNat_ofInt]
  rcases tmod_ways n 256 with ⟨h1, h2⟩ | ⟨h1, h2⟩ <;> rw [h2] <;> omega
end U8

set_option maxRecDepth 100000 in
set_option maxHeartbeats 4000000 in
theorem rcmp_any (v t u s : BitVec 8) (w : World) : Calls Try.prog 21 #[.agg #[.int .u8 (v.toNat : Int), .int .u8 (t.toNat : Int)], .agg #[.int .u8 (u.toNat : Int), .int .u8 (s.toNat : Int)]] w fun e w' =>
    e = .returned (.agg #[.int .u8 (((U8.cmpS v t u s).A).toNat : Int), .int .u8 (((U8.cmpS v t u s).T).toNat : Int), .bool (U8.cmpS v t u s).n, .bool (U8.cmpS v t u s).nt, .bool (U8.cmpS v t u s).v, .bool (U8.cmpS v t u s).vt, .bool (U8.cmpS v t u s).z, .bool (U8.cmpS v t u s).zt, .bool (U8.cmpS v t u s).c, .bool (U8.cmpS v t u s).ct]) ∧ Below w.heap.size w w' := by
  have key : ∀ r : U8.S10, r = U8.subS v t u s true false false false → Calls Try.prog 21 #[.agg #[.int .u8 (v.toNat : Int), .int .u8 (t.toNat : Int)], .agg #[.int .u8 (u.toNat : Int), .int .u8 (s.toNat : Int)]] w fun e w' =>
    e = .returned (.agg #[.int .u8 ((r.A).toNat : Int), .int .u8 ((r.T).toNat : Int), .bool r.n, .bool r.nt, .bool false, .bool false, .bool r.z, .bool r.zt, .bool r.c, .bool r.ct]) ∧ Below w.heap.size w w' := by
    intro r hr
    go_enter Try.func21, Try.ntmps21
    go_wp2_with fail
    refine (rsub_ff v t u s true false _).mono ?_
    rw [← hr]
    clear hr
    rintro e w1 ⟨rfl, hb1⟩
    have hS : w1.cell? ⟨w.heap.size + 1 + 1, 0, none⟩ = some (Mem.val w1 ⟨w.heap.size + 1 + 1, 0, none⟩) ∧ w1.cell? ⟨w.heap.size + 1 + 1, 1, none⟩ = some (Mem.val w1 ⟨w.heap.size + 1 + 1, 1, none⟩) ∧ w1.cell? ⟨w.heap.size + 1 + 1, 2, none⟩ = some (Mem.val w1 ⟨w.heap.size + 1 + 1, 2, none⟩) ∧ w1.cell? ⟨w.heap.size + 1 + 1, 3, none⟩ = some (Mem.val w1 ⟨w.heap.size + 1 + 1, 3, none⟩) ∧ w1.cell? ⟨w.heap.size + 1 + 1, 4, none⟩ = some (Mem.val w1 ⟨w.heap.size + 1 + 1, 4, none⟩) ∧ w1.cell? ⟨w.heap.size + 1 + 1, 5, none⟩ = some (Mem.val w1 ⟨w.heap.size + 1 + 1, 5, none⟩) ∧ w1.cell? ⟨w.heap.size + 1 + 1, 6, none⟩ = some (Mem.val w1 ⟨w.heap.size + 1 + 1, 6, none⟩) ∧ w1.cell? ⟨w.heap.size + 1 + 1, 7, none⟩ = some (Mem.val w1 ⟨w.heap.size + 1 + 1, 7, none⟩) ∧ w1.cell? ⟨w.heap.size + 1 + 1, 8, none⟩ = some (Mem.val w1 ⟨w.heap.size + 1 + 1, 8, none⟩) ∧ w1.cell? ⟨w.heap.size + 1 + 1, 9, none⟩ = some (Mem.val w1 ⟨w.heap.size + 1 + 1, 9, none⟩) ∧ w1.frozen? ⟨w.heap.size + 1 + 1, 0, none⟩ = false ∧ w1.frozen? ⟨w.heap.size + 1 + 1, 1, none⟩ = false ∧ w1.frozen? ⟨w.heap.size + 1 + 1, 2, none⟩ = false ∧ w1.frozen? ⟨w.heap.size + 1 + 1, 3, none⟩ = false ∧ w1.frozen? ⟨w.heap.size + 1 + 1, 4, none⟩ = false ∧ w1.frozen? ⟨w.heap.size + 1 + 1, 5, none⟩ = false ∧ w1.frozen? ⟨w.heap.size + 1 + 1, 6, none⟩ = false ∧ w1.frozen? ⟨w.heap.size + 1 + 1, 7, none⟩ = false ∧ w1.frozen? ⟨w.heap.size + 1 + 1, 8, none⟩ = false ∧ w1.frozen? ⟨w.heap.size + 1 + 1, 9, none⟩ = false ∧ Below w.heap.size w w1 := by
      (repeat' with_reducible apply And.intro) <;> first | with_reducible assumption | ((repeat (first | with_reducible assumption | with_reducible exact Below.refl _ _ | with_reducible exact Mem.vsome ‹_› | ((with_reducible refine Mem.vnew ?_ ?_) <;> first | rfl | (simp; done)) | ((with_reducible refine Mem.cnew ?_ ?_) <;> first | rfl | (simp; done)) | ((with_reducible refine Mem.znew ?_) <;> first | rfl | (simp; done)) | with_reducible refine Mem.vdrew ?_ | with_reducible refine Mem.valloc _ ?_ | with_reducible refine Mem.vbelow ‹_› ?_ | with_reducible refine Mem.vset ?_ | with_reducible refine Mem.cdrew ?_ | with_reducible refine Mem.calloc _ ?_ | with_reducible refine Mem.bdrew ?_ | with_reducible refine Mem.cbelow ‹_› ?_ | with_reducible refine Mem.zdrew ?_ | with_reducible refine Mem.zalloc _ ?_ ?_ | with_reducible refine Mem.zbelow ‹_› ?_ ?_ | with_reducible refine Mem.zset ?_ | (with_reducible refine Mem.cset ?_ ?_; rotate_left; focus (first | (simp; done) | (simp; omega))) | (with_reducible refine Mem.balloc ?_ ?_ _; rotate_left; focus (first | (simp; done) | (simp; omega))) | (with_reducible refine Mem.bset ?_ ?_ _; rotate_left; focus (first | (simp; done) | (simp; omega))) | (with_reducible refine Mem.bbelow ?_ ?_ ‹_›; rotate_left; focus (first | (simp; done) | (simp; omega))))); done) | (simp [go_sem]; done) | (with_reducible refine Mem.cbelow ‹_› ?_; simp [go_sem, *]; done) | (with_reducible refine Mem.vbelow ‹_› (Mem.vof ?_); simp [go_sem]; done) | ((with_reducible refine Mem.zbelow ‹_› (Mem.vof ?_) ?_) <;> (simp [go_sem]; done)) | (simp [go_sem, *]; done)
    go_split_ands
    have hzw10 : w.heap.size + 1 + 1 < w1.heap.size := Mem.clt (a := ⟨w.heap.size + 1 + 1, 0, none⟩) ‹_›
    clear hb1
    go_wp2_with fail
    refine Mem.gate (fun W => Below w.heap.size w W ∧ W.cell? ⟨w.heap.size + 1 + 1, 0, none⟩ = some (.int .u8 ((r.A).toNat : Int)) ∧ W.cell? ⟨w.heap.size + 1 + 1, 1, none⟩ = some (.int .u8 ((r.T).toNat : Int)) ∧ W.cell? ⟨w.heap.size + 1 + 1, 2, none⟩ = some (.bool r.n) ∧ W.cell? ⟨w.heap.size + 1 + 1, 3, none⟩ = some (.bool r.nt) ∧ W.cell? ⟨w.heap.size + 1 + 1, 4, none⟩ = some (.bool false) ∧ W.cell? ⟨w.heap.size + 1 + 1, 5, none⟩ = some (.bool false) ∧ W.cell? ⟨w.heap.size + 1 + 1, 6, none⟩ = some (.bool r.z) ∧ W.cell? ⟨w.heap.size + 1 + 1, 7, none⟩ = some (.bool r.zt) ∧ W.cell? ⟨w.heap.size + 1 + 1, 8, none⟩ = some (.bool r.c) ∧ W.cell? ⟨w.heap.size + 1 + 1, 9, none⟩ = some (.bool r.ct)) ?_ ?_
    · refine ⟨?_, Mem.ten_alloc _ (Mem.ten_once (W := w1) rfl ‹_› ‹_› ‹_› ‹_› ‹_› ‹_› ‹_› ‹_› ‹_› ‹_›)⟩
      (repeat' with_reducible apply And.intro) <;> first | with_reducible assumption | ((repeat (first | with_reducible assumption | with_reducible exact Below.refl _ _ | with_reducible exact Mem.vsome ‹_› | ((with_reducible refine Mem.vnew ?_ ?_) <;> first | rfl | (simp; done)) | ((with_reducible refine Mem.cnew ?_ ?_) <;> first | rfl | (simp; done)) | ((with_reducible refine Mem.znew ?_) <;> first | rfl | (simp; done)) | with_reducible refine Mem.vdrew ?_ | with_reducible refine Mem.valloc _ ?_ | with_reducible refine Mem.vbelow ‹_› ?_ | with_reducible refine Mem.vset ?_ | with_reducible refine Mem.cdrew ?_ | with_reducible refine Mem.calloc _ ?_ | with_reducible refine Mem.bdrew ?_ | with_reducible refine Mem.cbelow ‹_› ?_ | with_reducible refine Mem.zdrew ?_ | with_reducible refine Mem.zalloc _ ?_ ?_ | with_reducible refine Mem.zbelow ‹_› ?_ ?_ | with_reducible refine Mem.zset ?_ | (with_reducible refine Mem.cset ?_ ?_; rotate_left; focus (first | (simp; done) | (simp; omega))) | (with_reducible refine Mem.balloc ?_ ?_ _; rotate_left; focus (first | (simp; done) | (simp; omega))) | (with_reducible refine Mem.bset ?_ ?_ _; rotate_left; focus (first | (simp; done) | (simp; omega))) | (with_reducible refine Mem.bbelow ?_ ?_ ‹_›; rotate_left; focus (first | (simp; done) | (simp; omega))))); done) | (simp [go_sem]; done) | (with_reducible refine Mem.cbelow ‹_› ?_; simp [go_sem, *]; done) | (with_reducible refine Mem.vbelow ‹_› (Mem.vof ?_); simp [go_sem]; done) | ((with_reducible refine Mem.zbelow ‹_› (Mem.vof ?_) ?_) <;> (simp [go_sem]; done)) | (simp [go_sem, *]; done)
    · rintro w2 ⟨hB, g0, g1, g2, g3, g4, g5, g6, g7, g8, g9⟩
      refine bodyPost_ret (v := .agg #[.int .u8 ((r.A).toNat : Int), .int .u8 ((r.T).toNat : Int), .bool r.n, .bool r.nt, .bool false, .bool false, .bool r.z, .bool r.zt, .bool r.c, .bool r.ct]) (by simp [results, Try.results21, go_sem, g0, g1, g2, g3, g4, g5, g6, g7, g8, g9]) rfl ⟨rfl, ?_⟩
      exact hB
  exact key (U8.subS v t u s true false false false) rfl

set_option maxRecDepth 100000 in
set_option maxHeartbeats 8000000 in
theorem rstep_any (v t : BitVec 8) (n : Int) (w : World) : Calls Try.prog 23 #[.agg #[.int .u8 (v.toNat : Int), .int .u8 (t.toNat : Int)], .int .i64 n] w fun e w' =>
    e = .returned (.agg #[.int .u8 ((U8.stepA v n).toNat : Int), .int .u8 ((U8.spreadB t).toNat : Int)]) ∧ Below w.heap.size w w' := by
  have hb := U8.mod_256 n
  have e1 : IntKind.i64.wrap (n.tmod 256) = n.tmod 256 := IntWalk.i64_in _ (by omega)
  have e2 : IntKind.i64.wrap ((v.toNat : Int) + n.tmod 256) = (v.toNat : Int) + n.tmod 256 := IntWalk.i64_in _ (by have := v.isLt; omega)
  have e3 : IntKind.i64.wrap (v.toNat : Int) = (v.toNat : Int) := IntWalk.i64_in _ (by have := v.isLt; omega)
  have e4 : IntKind.i64.wrap (t.toNat : Int) = (t.toNat : Int) := IntWalk.i64_in _ (by have := t.isLt; omega)
  have e5 : IntKind.u8.wrap ((U8.stepA v n).toNat : Int) = ((U8.stepA v n).toNat : Int) := U8.wrap_ _
  have e6 : IntKind.u8.wrap ((U8.spreadB t).toNat : Int) = ((U8.spreadB t).toNat : Int) := U8.wrap_ _
  clear hb
  go_enter Try.func23, Try.ntmps23
  go_wp2_with fail
  go_region_held3 (fun w' => w'.cell? ⟨w.heap.size, 0, none⟩ = some (.int .u8 (v.toNat : Int)) ∧ w'.cell? ⟨w.heap.size, 1, none⟩ = some (.int .u8 (t.toNat : Int)) ∧ w'.cell? ⟨w.heap.size + 1, 0, none⟩ = some (Mem.val w' ⟨w.heap.size + 1, 0, none⟩) ∧ w'.cell? ⟨w.heap.size + 1, 1, none⟩ = some (Mem.val w' ⟨w.heap.size + 1, 1, none⟩) ∧ w'.frozen? ⟨w.heap.size + 1, 0, none⟩ = false ∧ w'.frozen? ⟨w.heap.size + 1, 1, none⟩ = false ∧ Below w.heap.size w w') ((go_split_ands; (repeat' with_reducible apply And.intro) <;> first | with_reducible assumption | ((repeat (first | with_reducible assumption | with_reducible exact Below.refl _ _ | with_reducible exact Mem.vsome ‹_› | ((with_reducible refine Mem.vnew ?_ ?_) <;> first | rfl | (simp; done)) | ((with_reducible refine Mem.cnew ?_ ?_) <;> first | rfl | (simp; done)) | ((with_reducible refine Mem.znew ?_) <;> first | rfl | (simp; done)) | with_reducible refine Mem.vdrew ?_ | with_reducible refine Mem.valloc _ ?_ | with_reducible refine Mem.vbelow ‹_› ?_ | with_reducible refine Mem.vset ?_ | with_reducible refine Mem.cdrew ?_ | with_reducible refine Mem.calloc _ ?_ | with_reducible refine Mem.bdrew ?_ | with_reducible refine Mem.cbelow ‹_› ?_ | with_reducible refine Mem.zdrew ?_ | with_reducible refine Mem.zalloc _ ?_ ?_ | with_reducible refine Mem.zbelow ‹_› ?_ ?_ | with_reducible refine Mem.zset ?_ | (with_reducible refine Mem.cset ?_ ?_; rotate_left; focus (first | (simp; done) | (simp; omega))) | (with_reducible refine Mem.balloc ?_ ?_ _; rotate_left; focus (first | (simp; done) | (simp; omega))) | (with_reducible refine Mem.bset ?_ ?_ _; rotate_left; focus (first | (simp; done) | (simp; omega))) | (with_reducible refine Mem.bbelow ?_ ?_ ‹_›; rotate_left; focus (first | (simp; done) | (simp; omega))))); done) | (simp [go_sem]; done) | (with_reducible refine Mem.cbelow ‹_› ?_; simp [go_sem, *]; done) | (with_reducible refine Mem.vbelow ‹_› (Mem.vof ?_); simp [go_sem]; done) | ((with_reducible refine Mem.zbelow ‹_› (Mem.vof ?_) ?_) <;> (simp [go_sem]; done)) | (simp [go_sem, *]; done)))
    (first | (go_at_call 41; refine (modulo_256 _ _).mono ?_; rw [U8.rstep_raw]; rintro e w' ⟨rfl, hbb⟩) | (go_at_call 42; refine (rspread_b _ _).mono ?_; rintro e w' ⟨rfl, hbb⟩))
  go_split_ands
  go_wp2_with fail
  refine Mem.gate (fun W => Below w.heap.size w W ∧ W.cell? ⟨w.heap.size + 1, 0, none⟩ = some (.int .u8 ((U8.stepA v n).toNat : Int)) ∧ W.cell? ⟨w.heap.size + 1, 1, none⟩ = some (.int .u8 ((U8.spreadB t).toNat : Int))) ?_ ?_
  · refine ⟨?_, Mem.two_new rfl ?_ ?_⟩
    all_goals ((repeat' with_reducible apply And.intro) <;> first | with_reducible assumption | ((repeat (first | with_reducible assumption | with_reducible exact Below.refl _ _ | with_reducible exact Mem.vsome ‹_› | ((with_reducible refine Mem.vnew ?_ ?_) <;> first | rfl | (simp; done)) | ((with_reducible refine Mem.cnew ?_ ?_) <;> first | rfl | (simp; done)) | ((with_reducible refine Mem.znew ?_) <;> first | rfl | (simp; done)) | with_reducible refine Mem.vdrew ?_ | with_reducible refine Mem.valloc _ ?_ | with_reducible refine Mem.vbelow ‹_› ?_ | with_reducible refine Mem.vset ?_ | with_reducible refine Mem.cdrew ?_ | with_reducible refine Mem.calloc _ ?_ | with_reducible refine Mem.bdrew ?_ | with_reducible refine Mem.cbelow ‹_› ?_ | with_reducible refine Mem.zdrew ?_ | with_reducible refine Mem.zalloc _ ?_ ?_ | with_reducible refine Mem.zbelow ‹_› ?_ ?_ | with_reducible refine Mem.zset ?_ | (with_reducible refine Mem.cset ?_ ?_; rotate_left; focus (first | (simp; done) | (simp; omega))) | (with_reducible refine Mem.balloc ?_ ?_ _; rotate_left; focus (first | (simp; done) | (simp; omega))) | (with_reducible refine Mem.bset ?_ ?_ _; rotate_left; focus (first | (simp; done) | (simp; omega))) | (with_reducible refine Mem.bbelow ?_ ?_ ‹_›; rotate_left; focus (first | (simp; done) | (simp; omega))))); done) | (simp [go_sem]; done) | (with_reducible refine Mem.cbelow ‹_› ?_; simp [go_sem, *]; done) | (with_reducible refine Mem.vbelow ‹_› (Mem.vof ?_); simp [go_sem]; done) | ((with_reducible refine Mem.zbelow ‹_› (Mem.vof ?_) ?_) <;> (simp [go_sem]; done)) | (simp [go_sem, *]; done))
  · rintro w4 ⟨hB, g0, g1⟩
    refine bodyPost_ret (v := .agg #[.int .u8 ((U8.stepA v n).toNat : Int), .int .u8 ((U8.spreadB t).toNat : Int)]) (by simp [results, Try.results23, go_sem, g0, g1]) rfl ⟨rfl, ?_⟩
    exact hB

namespace U8
theorem cmp_c (v t u s : BitVec 8) : (cmpS v t u s).c = decide (u.toNat ≤ v.toNat) := by
  show carB v (cpl u) true = _
  unfold carB sumN
  rw [cpl_nat, show oneI true = 1 from rfl, decide_eq_decide]; omega
theorem cmp_z (v t u s : BitVec 8) : (cmpS v t u s).z = ((v.toNat : Int) == (u.toNat : Int)) := by
  show zeroV (sumA v (cpl u) true) = _
  have h := sumA_nat v (cpl u) true
  unfold sumN at h
  rw [cpl_nat, show oneI true = 1 from rfl] at h
  have := v.isLt
  have := u.isLt
  unfold zeroV
  rw [← eq_, ← lit0]
  rw [Bool.eq_iff_iff, beq_iff_eq, beq_iff_eq]; omega
end U8

set_option maxRecDepth 100000 in
set_option maxHeartbeats 40000000 in
theorem lcmp_t (v t u s : BitVec 8) (n : Int) (h : (((U8.orTS t s).toNat : Int) == 0) = true) (w : World) : Calls Try.prog 9 #[.agg #[.int .u8 (v.toNat : Int), .int .u8 (t.toNat : Int)], .agg #[.int .u8 (u.toNat : Int), .int .u8 (s.toNat : Int)], .int .i64 n] w fun e w' =>
    e = .returned (.bool true) ∧ Below w.heap.size w w' := by
  have q0 := U8.or_TS t s
  have q1 := U8.cmp_c v t u s
  have q2 := U8.cmp_z v t u s
  obtain ⟨r, hr⟩ : ∃ r, r = U8.cmpS v t u s := ⟨_, rfl⟩
  rw [← hr] at q1 q2
  have HR := Mem.hide hr
  clear hr
  go_enter Try.func9, Try.ntmps9
  go_wp2_with fail
  refine (cmp_any v t u s _).mono ?_
  rw [← HR.out]
  rintro e w1 ⟨rfl, b1⟩
  have hS : w1.cell? ⟨w.heap.size, 0, none⟩ = some (.int .u8 (v.toNat : Int)) ∧ w1.cell? ⟨w.heap.size, 1, none⟩ = some (.int .u8 (t.toNat : Int)) ∧ w1.cell? ⟨w.heap.size + 1, 0, none⟩ = some (.int .u8 (u.toNat : Int)) ∧ w1.cell? ⟨w.heap.size + 1, 1, none⟩ = some (.int .u8 (s.toNat : Int)) ∧ Below w.heap.size w w1 := by
    (repeat' with_reducible apply And.intro) <;> first | with_reducible assumption | ((repeat (first | with_reducible assumption | with_reducible exact Below.refl _ _ | with_reducible exact Mem.vsome ‹_› | ((with_reducible refine Mem.vnew ?_ ?_) <;> first | rfl | (simp; done)) | ((with_reducible refine Mem.cnew ?_ ?_) <;> first | rfl | (simp; done)) | ((with_reducible refine Mem.znew ?_) <;> first | rfl | (simp; done)) | with_reducible refine Mem.vdrew ?_ | with_reducible refine Mem.valloc _ ?_ | with_reducible refine Mem.vbelow ‹_› ?_ | with_reducible refine Mem.vset ?_ | with_reducible refine Mem.cdrew ?_ | with_reducible refine Mem.calloc _ ?_ | with_reducible refine Mem.bdrew ?_ | with_reducible refine Mem.cbelow ‹_› ?_ | with_reducible refine Mem.zdrew ?_ | with_reducible refine Mem.zalloc _ ?_ ?_ | with_reducible refine Mem.zbelow ‹_› ?_ ?_ | with_reducible refine Mem.zset ?_ | (with_reducible refine Mem.cset ?_ ?_; rotate_left; focus (first | (simp; done) | (simp; omega))) | (with_reducible refine Mem.balloc ?_ ?_ _; rotate_left; focus (first | (simp; done) | (simp; omega))) | (with_reducible refine Mem.bset ?_ ?_ _; rotate_left; focus (first | (simp; done) | (simp; omega))) | (with_reducible refine Mem.bbelow ?_ ?_ ‹_›; rotate_left; focus (first | (simp; done) | (simp; omega))))); done) | (simp [go_sem]; done) | (with_reducible refine Mem.cbelow ‹_› ?_; simp [go_sem, *]; done) | (with_reducible refine Mem.vbelow ‹_› (Mem.vof ?_); simp [go_sem]; done) | ((with_reducible refine Mem.zbelow ‹_› (Mem.vof ?_) ?_) <;> (simp [go_sem]; done)) | (simp [go_sem, *]; done)
  go_split_ands
  have hzw10 : w.heap.size < w1.heap.size := Mem.clt (a := ⟨w.heap.size, 0, none⟩) ‹_›
  have hzw11 : w.heap.size + 1 < w1.heap.size := Mem.clt (a := ⟨w.heap.size + 1, 0, none⟩) ‹_›
  clear b1
  go_wp2_with fail
  rw [← q1]
  try rw [← q2]
  clear q0 q1 q2 h
  go_region_held3 (fun w' => w'.cell? ⟨w.heap.size, 0, none⟩ = some (.int .u8 (v.toNat : Int)) ∧ w'.cell? ⟨w.heap.size, 1, none⟩ = some (.int .u8 (t.toNat : Int)) ∧ w'.cell? ⟨w.heap.size + 1, 0, none⟩ = some (.int .u8 (u.toNat : Int)) ∧ w'.cell? ⟨w.heap.size + 1, 1, none⟩ = some (.int .u8 (s.toNat : Int)) ∧ w'.cell? ⟨w1.heap.size, 0, none⟩ = some (.int .u8 ((r.A).toNat : Int)) ∧ w'.cell? ⟨w1.heap.size, 1, none⟩ = some (.int .u8 ((r.T).toNat : Int)) ∧ w'.cell? ⟨w1.heap.size, 2, none⟩ = some (.bool r.n) ∧ w'.cell? ⟨w1.heap.size, 3, none⟩ = some (.bool r.nt) ∧ w'.cell? ⟨w1.heap.size, 4, none⟩ = some (.bool r.v) ∧ w'.cell? ⟨w1.heap.size, 5, none⟩ = some (.bool r.vt) ∧ w'.cell? ⟨w1.heap.size, 6, none⟩ = some (.bool r.z) ∧ w'.cell? ⟨w1.heap.size, 7, none⟩ = some (.bool r.zt) ∧ w'.cell? ⟨w1.heap.size, 8, none⟩ = some (.bool r.c) ∧ w'.cell? ⟨w1.heap.size, 9, none⟩ = some (.bool r.ct) ∧ Below w.heap.size w w') ((go_split_ands; (repeat' with_reducible apply And.intro) <;> first | with_reducible assumption | ((repeat (first | with_reducible assumption | with_reducible exact Below.refl _ _ | with_reducible exact Mem.vsome ‹_› | ((with_reducible refine Mem.vnew ?_ ?_) <;> first | rfl | (simp; done)) | ((with_reducible refine Mem.cnew ?_ ?_) <;> first | rfl | (simp; done)) | ((with_reducible refine Mem.znew ?_) <;> first | rfl | (simp; done)) | with_reducible refine Mem.vdrew ?_ | with_reducible refine Mem.valloc _ ?_ | with_reducible refine Mem.vbelow ‹_› ?_ | with_reducible refine Mem.vset ?_ | with_reducible refine Mem.cdrew ?_ | with_reducible refine Mem.calloc _ ?_ | with_reducible refine Mem.bdrew ?_ | with_reducible refine Mem.cbelow ‹_› ?_ | with_reducible refine Mem.zdrew ?_ | with_reducible refine Mem.zalloc _ ?_ ?_ | with_reducible refine Mem.zbelow ‹_› ?_ ?_ | with_reducible refine Mem.zset ?_ | (with_reducible refine Mem.cset ?_ ?_; rotate_left; focus (first | (simp; done) | (simp; omega))) | (with_reducible refine Mem.balloc ?_ ?_ _; rotate_left; focus (first | (simp; done) | (simp; omega))) | (with_reducible refine Mem.bset ?_ ?_ _; rotate_left; focus (first | (simp; done) | (simp; omega))) | (with_reducible refine Mem.bbelow ?_ ?_ ‹_›; rotate_left; focus (first | (simp; done) | (simp; omega))))); done) | (simp [go_sem]; done) | (with_reducible refine Mem.cbelow ‹_› ?_; simp [go_sem, *]; done) | (with_reducible refine Mem.vbelow ‹_› (Mem.vof ?_); simp [go_sem]; done) | ((with_reducible refine Mem.zbelow ‹_› (Mem.vof ?_) ?_) <;> (simp [go_sem]; done)) | (simp [go_sem, *]; done)))
    (first | (go_at_call 21; ((with_reducible refine (rcmp_any v t u s _).mono ?_); rw [← HR.out]; rintro e w' ⟨rfl, hbb⟩)) | (go_at_call 11; ((with_reducible refine (same_eq r _).mono ?_); rintro e w' ⟨rfl, hbb⟩)) | (go_at_call 22; refine (step_any v t n _).mono ?_; rintro e w' ⟨rfl, hbb⟩) | (go_at_call 23; refine (rstep_any v t n _).mono ?_; rintro e w' ⟨rfl, hbb⟩) | (go_at_call 14; refine (awake_any _).mono ?_; rintro e w' ⟨rfl, hbb⟩))
  go_split_ands
  go_wp2
  go_ret
  exact ⟨rfl, by assumption⟩

set_option maxRecDepth 100000 in
set_option maxHeartbeats 40000000 in
theorem lcmp_f (v t u s : BitVec 8) (n : Int) (h : (((U8.orTS t s).toNat : Int) == 0) = false) (w : World) : Calls Try.prog 9 #[.agg #[.int .u8 (v.toNat : Int), .int .u8 (t.toNat : Int)], .agg #[.int .u8 (u.toNat : Int), .int .u8 (s.toNat : Int)], .int .i64 n] w fun e w' =>
    e = .returned (.bool true) ∧ Below w.heap.size w w' := by
  have q0 := U8.or_TS t s
  have q1 := U8.cmp_c v t u s
  have q2 := U8.cmp_z v t u s
  obtain ⟨r, hr⟩ : ∃ r, r = U8.cmpS v t u s := ⟨_, rfl⟩
  rw [← hr] at q1 q2
  have HR := Mem.hide hr
  clear hr
  go_enter Try.func9, Try.ntmps9
  go_wp2_with fail
  refine (cmp_any v t u s _).mono ?_
  rw [← HR.out]
  rintro e w1 ⟨rfl, b1⟩
  have hS : w1.cell? ⟨w.heap.size, 0, none⟩ = some (.int .u8 (v.toNat : Int)) ∧ w1.cell? ⟨w.heap.size, 1, none⟩ = some (.int .u8 (t.toNat : Int)) ∧ w1.cell? ⟨w.heap.size + 1, 0, none⟩ = some (.int .u8 (u.toNat : Int)) ∧ w1.cell? ⟨w.heap.size + 1, 1, none⟩ = some (.int .u8 (s.toNat : Int)) ∧ Below w.heap.size w w1 := by
    (repeat' with_reducible apply And.intro) <;> first | with_reducible assumption | ((repeat (first | with_reducible assumption | with_reducible exact Below.refl _ _ | with_reducible exact Mem.vsome ‹_› | ((with_reducible refine Mem.vnew ?_ ?_) <;> first | rfl | (simp; done)) | ((with_reducible refine Mem.cnew ?_ ?_) <;> first | rfl | (simp; done)) | ((with_reducible refine Mem.znew ?_) <;> first | rfl | (simp; done)) | with_reducible refine Mem.vdrew ?_ | with_reducible refine Mem.valloc _ ?_ | with_reducible refine Mem.vbelow ‹_› ?_ | with_reducible refine Mem.vset ?_ | with_reducible refine Mem.cdrew ?_ | with_reducible refine Mem.calloc _ ?_ | with_reducible refine Mem.bdrew ?_ | with_reducible refine Mem.cbelow ‹_› ?_ | with_reducible refine Mem.zdrew ?_ | with_reducible refine Mem.zalloc _ ?_ ?_ | with_reducible refine Mem.zbelow ‹_› ?_ ?_ | with_reducible refine Mem.zset ?_ | (with_reducible refine Mem.cset ?_ ?_; rotate_left; focus (first | (simp; done) | (simp; omega))) | (with_reducible refine Mem.balloc ?_ ?_ _; rotate_left; focus (first | (simp; done) | (simp; omega))) | (with_reducible refine Mem.bset ?_ ?_ _; rotate_left; focus (first | (simp; done) | (simp; omega))) | (with_reducible refine Mem.bbelow ?_ ?_ ‹_›; rotate_left; focus (first | (simp; done) | (simp; omega))))); done) | (simp [go_sem]; done) | (with_reducible refine Mem.cbelow ‹_› ?_; simp [go_sem, *]; done) | (with_reducible refine Mem.vbelow ‹_› (Mem.vof ?_); simp [go_sem]; done) | ((with_reducible refine Mem.zbelow ‹_› (Mem.vof ?_) ?_) <;> (simp [go_sem]; done)) | (simp [go_sem, *]; done)
  go_split_ands
  have hzw10 : w.heap.size < w1.heap.size := Mem.clt (a := ⟨w.heap.size, 0, none⟩) ‹_›
  have hzw11 : w.heap.size + 1 < w1.heap.size := Mem.clt (a := ⟨w.heap.size + 1, 0, none⟩) ‹_›
  clear b1
  go_wp2_with fail
  rw [← q1]
  try rw [← q2]
  clear q0 q1 q2 h
  go_region_held3 (fun w' => w'.cell? ⟨w.heap.size, 0, none⟩ = some (.int .u8 (v.toNat : Int)) ∧ w'.cell? ⟨w.heap.size, 1, none⟩ = some (.int .u8 (t.toNat : Int)) ∧ w'.cell? ⟨w.heap.size + 1, 0, none⟩ = some (.int .u8 (u.toNat : Int)) ∧ w'.cell? ⟨w.heap.size + 1, 1, none⟩ = some (.int .u8 (s.toNat : Int)) ∧ w'.cell? ⟨w1.heap.size, 0, none⟩ = some (.int .u8 ((r.A).toNat : Int)) ∧ w'.cell? ⟨w1.heap.size, 1, none⟩ = some (.int .u8 ((r.T).toNat : Int)) ∧ w'.cell? ⟨w1.heap.size, 2, none⟩ = some (.bool r.n) ∧ w'.cell? ⟨w1.heap.size, 3, none⟩ = some (.bool r.nt) ∧ w'.cell? ⟨w1.heap.size, 4, none⟩ = some (.bool r.v) ∧ w'.cell? ⟨w1.heap.size, 5, none⟩ = some (.bool r.vt) ∧ w'.cell? ⟨w1.heap.size, 6, none⟩ = some (.bool r.z) ∧ w'.cell? ⟨w1.heap.size, 7, none⟩ = some (.bool r.zt) ∧ w'.cell? ⟨w1.heap.size, 8, none⟩ = some (.bool r.c) ∧ w'.cell? ⟨w1.heap.size, 9, none⟩ = some (.bool r.ct) ∧ Below w.heap.size w w') ((go_split_ands; (repeat' with_reducible apply And.intro) <;> first | with_reducible assumption | ((repeat (first | with_reducible assumption | with_reducible exact Below.refl _ _ | with_reducible exact Mem.vsome ‹_› | ((with_reducible refine Mem.vnew ?_ ?_) <;> first | rfl | (simp; done)) | ((with_reducible refine Mem.cnew ?_ ?_) <;> first | rfl | (simp; done)) | ((with_reducible refine Mem.znew ?_) <;> first | rfl | (simp; done)) | with_reducible refine Mem.vdrew ?_ | with_reducible refine Mem.valloc _ ?_ | with_reducible refine Mem.vbelow ‹_› ?_ | with_reducible refine Mem.vset ?_ | with_reducible refine Mem.cdrew ?_ | with_reducible refine Mem.calloc _ ?_ | with_reducible refine Mem.bdrew ?_ | with_reducible refine Mem.cbelow ‹_› ?_ | with_reducible refine Mem.zdrew ?_ | with_reducible refine Mem.zalloc _ ?_ ?_ | with_reducible refine Mem.zbelow ‹_› ?_ ?_ | with_reducible refine Mem.zset ?_ | (with_reducible refine Mem.cset ?_ ?_; rotate_left; focus (first | (simp; done) | (simp; omega))) | (with_reducible refine Mem.balloc ?_ ?_ _; rotate_left; focus (first | (simp; done) | (simp; omega))) | (with_reducible refine Mem.bset ?_ ?_ _; rotate_left; focus (first | (simp; done) | (simp; omega))) | (with_reducible refine Mem.bbelow ?_ ?_ ‹_›; rotate_left; focus (first | (simp; done) | (simp; omega))))); done) | (simp [go_sem]; done) | (with_reducible refine Mem.cbelow ‹_› ?_; simp [go_sem, *]; done) | (with_reducible refine Mem.vbelow ‹_› (Mem.vof ?_); simp [go_sem]; done) | ((with_reducible refine Mem.zbelow ‹_› (Mem.vof ?_) ?_) <;> (simp [go_sem]; done)) | (simp [go_sem, *]; done)))
    (first | (go_at_call 21; ((with_reducible refine (rcmp_any v t u s _).mono ?_); rw [← HR.out]; rintro e w' ⟨rfl, hbb⟩)) | (go_at_call 11; ((with_reducible refine (same_eq r _).mono ?_); rintro e w' ⟨rfl, hbb⟩)) | (go_at_call 22; refine (step_any v t n _).mono ?_; rintro e w' ⟨rfl, hbb⟩) | (go_at_call 23; refine (rstep_any v t n _).mono ?_; rintro e w' ⟨rfl, hbb⟩) | (go_at_call 14; refine (awake_any _).mono ?_; rintro e w' ⟨rfl, hbb⟩))
  go_split_ands
  go_wp2
  go_ret
  exact ⟨rfl, by assumption⟩

theorem lcmp (v t u s : BitVec 8) (n : Int) (_ : -9223372036854775808 ≤ n) (_ : n ≤ 9223372036854775807) (w : World) : Calls Try.prog 9 #[.agg #[.int .u8 (v.toNat : Int), .int .u8 (t.toNat : Int)], .agg #[.int .u8 (u.toNat : Int), .int .u8 (s.toNat : Int)], .int .i64 n] w fun e w' =>
    e = .returned (.bool true) ∧ Below w.heap.size w w' := by
  cases h : (((U8.orTS t s).toNat : Int) == 0)
  · exact lcmp_f v t u s n h w
  · exact lcmp_t v t u s n h w
end Go.Proofs.Ytdpoebmahoipbaa
