/-
  Walks: what sums.Compare and sums.Step return, whatever the bytes are.
-/
-- KEEP3
import Derived.Test.YtdpoebmahoipbaaSAll
import Derived.Test.YtdpoebmahoipbaaMem10
import Derived.Test.YtdpoebmahoipbaaSpread
namespace Go.Proofs.Ytdpoebmahoipbaa
open Go Go.RowKit

namespace U8
def cmpS (v t u s : BitVec 8) : S10 := { subS v t u s true false false false with v := false, vt := false }
def stepA (v : BitVec 8) (n : Int) : BitVec 8 := v + BitVec.ofInt 8 n
theorem step_raw (v : BitVec 8) (n : Int) : IntKind.u8.wrap ((v.toNat : Int) + IntKind.u8.wrap n) = ((stepA v n).toNat : Int) := by
  unfold stepA
  rw [IntKind.wrap_u8', IntKind.wrap_u8', BitVec.toNat_add, BitVec.toNat_ofInt]
  omega
end U8

set_option maxRecDepth 100000 in
set_option maxHeartbeats 4000000 in
theorem cmp_any (v t u s : BitVec 8) (w : World) : Calls Try.prog 20 #[.agg #[.int .u8 (v.toNat : Int), .int .u8 (t.toNat : Int)], .agg #[.int .u8 (u.toNat : Int), .int .u8 (s.toNat : Int)]] w fun e w' =>
    e = .returned (.agg #[.int .u8 (((U8.cmpS v t u s).A).toNat : Int), .int .u8 (((U8.cmpS v t u s).T).toNat : Int), .bool (U8.cmpS v t u s).n, .bool (U8.cmpS v t u s).nt, .bool (U8.cmpS v t u s).v, .bool (U8.cmpS v t u s).vt, .bool (U8.cmpS v t u s).z, .bool (U8.cmpS v t u s).zt, .bool (U8.cmpS v t u s).c, .bool (U8.cmpS v t u s).ct]) ∧ Below w.heap.size w w' := by
  have key : ∀ r : U8.S10, r = U8.subS v t u s true false false false → Calls Try.prog 20 #[.agg #[.int .u8 (v.toNat : Int), .int .u8 (t.toNat : Int)], .agg #[.int .u8 (u.toNat : Int), .int .u8 (s.toNat : Int)]] w fun e w' =>
    e = .returned (.agg #[.int .u8 ((r.A).toNat : Int), .int .u8 ((r.T).toNat : Int), .bool r.n, .bool r.nt, .bool false, .bool false, .bool r.z, .bool r.zt, .bool r.c, .bool r.ct]) ∧ Below w.heap.size w w' := by
    intro r hr
    go_enter Try.func20, Try.ntmps20
    go_wp2_with fail
    refine (sub_any v t u s true false false false _).mono ?_
    rw [← hr]
    clear hr
    rintro e w1 ⟨rfl, hb1⟩
    have hS : w1.cell? ⟨w.heap.size + 1 + 1, 0, none⟩ = some (Mem.val w1 ⟨w.heap.size + 1 + 1, 0, none⟩) ∧ w1.cell? ⟨w.heap.size + 1 + 1, 1, none⟩ = some (Mem.val w1 ⟨w.heap.size + 1 + 1, 1, none⟩) ∧ w1.cell? ⟨w.heap.size + 1 + 1, 2, none⟩ = some (Mem.val w1 ⟨w.heap.size + 1 + 1, 2, none⟩) ∧ w1.cell? ⟨w.heap.size + 1 + 1, 3, none⟩ = some (Mem.val w1 ⟨w.heap.size + 1 + 1, 3, none⟩) ∧ w1.cell? ⟨w.heap.size + 1 + 1, 4, none⟩ = some (Mem.val w1 ⟨w.heap.size + 1 + 1, 4, none⟩) ∧ w1.cell? ⟨w.heap.size + 1 + 1, 5, none⟩ = some (Mem.val w1 ⟨w.heap.size + 1 + 1, 5, none⟩) ∧ w1.cell? ⟨w.heap.size + 1 + 1, 6, none⟩ = some (Mem.val w1 ⟨w.heap.size + 1 + 1, 6, none⟩) ∧ w1.cell? ⟨w.heap.size + 1 + 1, 7, none⟩ = some (Mem.val w1 ⟨w.heap.size + 1 + 1, 7, none⟩) ∧ w1.cell? ⟨w.heap.size + 1 + 1, 8, none⟩ = some (Mem.val w1 ⟨w.heap.size + 1 + 1, 8, none⟩) ∧ w1.cell? ⟨w.heap.size + 1 + 1, 9, none⟩ = some (Mem.val w1 ⟨w.heap.size + 1 + 1, 9, none⟩) ∧ w1.frozen? ⟨w.heap.size + 1 + 1, 0, none⟩ = false ∧ w1.frozen? ⟨w.heap.size + 1 + 1, 1, none⟩ = false ∧ w1.frozen? ⟨w.heap.size + 1 + 1, 2, none⟩ = false ∧ w1.frozen? ⟨w.heap.size + 1 + 1, 3, none⟩ = false ∧ w1.frozen? ⟨w.heap.size + 1 + 1, 4, none⟩ = false ∧ w1.frozen? ⟨w.heap.size + 1 + 1, 5, none⟩ = false ∧ w1.frozen? ⟨w.heap.size + 1 + 1, 6, none⟩ = false ∧ w1.frozen? ⟨w.heap.size + 1 + 1, 7, none⟩ = false ∧ w1.frozen? ⟨w.heap.size + 1 + 1, 8, none⟩ = false ∧ w1.frozen? ⟨w.heap.size + 1 + 1, 9, none⟩ = false ∧ Below w.heap.size w w1 := by
      (repeat' with_reducible apply And.intro) <;> first | with_reducible assumption | ((repeat (first | with_reducible assumption | with_reducible exact Below.refl _ _ | with_reducible exact Mem.vsome ‹_› | ((with_reducible refine Mem.vnew ?_ ?_) <;> first | rfl | (simp; done)) | ((with_reducible refine Mem.cnew ?_ ?_) <;> first | rfl | (simp; done)) | ((with_reducible refine Mem.znew ?_) <;> first | rfl | (simp; done)) | with_reducible refine Mem.vdrew ?_ | with_reducible refine Mem.valloc _ ?_ | with_reducible refine Mem.vbelow ‹_› ?_ | with_reducible refine Mem.vset ?_ | with_reducible refine Mem.cdrew ?_ | with_reducible refine Mem.calloc _ ?_ | with_reducible refine Mem.bdrew ?_ | with_reducible refine Mem.cbelow ‹_› ?_ | with_reducible refine Mem.zdrew ?_ | with_reducible refine Mem.zalloc _ ?_ ?_ | with_reducible refine Mem.zbelow ‹_› ?_ ?_ | with_reducible refine Mem.zset ?_ | (with_reducible refine Mem.cset ?_ ?_; rotate_left; focus (first | (simp; done) | (simp; omega))) | (with_reducible refine Mem.balloc ?_ ?_ _; rotate_left; focus (first | (simp; done) | (simp; omega))) | (with_reducible refine Mem.bset ?_ ?_ _; rotate_left; focus (first | (simp; done) | (simp; omega))) | (with_reducible refine Mem.bbelow ?_ ?_ ‹_›; rotate_left; focus (first | (simp; done) | (simp; omega))))); done) | (simp [go_sem]; done) | (with_reducible refine Mem.cbelow ‹_› ?_; simp [go_sem, *]; done) | (with_reducible refine Mem.vbelow ‹_› (Mem.vof ?_); simp [go_sem]; done) | ((with_reducible refine Mem.zbelow ‹_› (Mem.vof ?_) ?_) <;> (simp [go_sem]; done)) | (simp [go_sem, *]; done)
    go_split_ands
    have hzw10 : w.heap.size + 1 + 1 < w1.heap.size := Mem.clt (a := ⟨w.heap.size + 1 + 1, 0, none⟩) ‹_›
    clear hb1
    go_wp2_with fail
    refine Mem.gate (fun W => Below w.heap.size w W ∧ W.cell? ⟨w.heap.size + 1 + 1, 0, none⟩ = some (.int .u8 ((r.A).toNat : Int)) ∧ W.cell? ⟨w.heap.size + 1 + 1, 1, none⟩ = some (.int .u8 ((r.T).toNat : Int)) ∧ W.cell? ⟨w.heap.size + 1 + 1, 2, none⟩ = some (.bool r.n) ∧ W.cell? ⟨w.heap.size + 1 + 1, 3, none⟩ = some (.bool r.nt) ∧ W.cell? ⟨w.heap.size + 1 + 1, 4, none⟩ = some (.bool false) ∧ W.cell? ⟨w.heap.size + 1 + 1, 5, none⟩ = some (.bool false) ∧ W.cell? ⟨w.heap.size + 1 + 1, 6, none⟩ = some (.bool r.z) ∧ W.cell? ⟨w.heap.size + 1 + 1, 7, none⟩ = some (.bool r.zt) ∧ W.cell? ⟨w.heap.size + 1 + 1, 8, none⟩ = some (.bool r.c) ∧ W.cell? ⟨w.heap.size + 1 + 1, 9, none⟩ = some (.bool r.ct)) ?_ ?_
    · refine ⟨?_, Mem.ten_alloc _ (Mem.ten_once (W := w1) rfl ‹_› ‹_› ‹_› ‹_› ‹_› ‹_› ‹_› ‹_› ‹_› ‹_›)⟩
      (repeat' with_reducible apply And.intro) <;> first | with_reducible assumption | ((repeat (first | with_reducible assumption | with_reducible exact Below.refl _ _ | with_reducible exact Mem.vsome ‹_› | ((with_reducible refine Mem.vnew ?_ ?_) <;> first | rfl | (simp; done)) | ((with_reducible refine Mem.cnew ?_ ?_) <;> first | rfl | (simp; done)) | ((with_reducible refine Mem.znew ?_) <;> first | rfl | (simp; done)) | with_reducible refine Mem.vdrew ?_ | with_reducible refine Mem.valloc _ ?_ | with_reducible refine Mem.vbelow ‹_› ?_ | with_reducible refine Mem.vset ?_ | with_reducible refine Mem.cdrew ?_ | with_reducible refine Mem.calloc _ ?_ | with_reducible refine Mem.bdrew ?_ | with_reducible refine Mem.cbelow ‹_› ?_ | with_reducible refine Mem.zdrew ?_ | with_reducible refine Mem.zalloc _ ?_ ?_ | with_reducible refine Mem.zbelow ‹_› ?_ ?_ | with_reducible refine Mem.zset ?_ | (with_reducible refine Mem.cset ?_ ?_; rotate_left; focus (first | (simp; done) | (simp; omega))) | (with_reducible refine Mem.balloc ?_ ?_ _; rotate_left; focus (first | (simp; done) | (simp; omega))) | (with_reducible refine Mem.bset ?_ ?_ _; rotate_left; focus (first | (simp; done) | (simp; omega))) | (with_reducible refine Mem.bbelow ?_ ?_ ‹_›; rotate_left; focus (first | (simp; done) | (simp; omega))))); done) | (simp [go_sem]; done) | (with_reducible refine Mem.cbelow ‹_› ?_; simp [go_sem, *]; done) | (with_reducible refine Mem.vbelow ‹_› (Mem.vof ?_); simp [go_sem]; done) | ((with_reducible refine Mem.zbelow ‹_› (Mem.vof ?_) ?_) <;> (simp [go_sem]; done)) | (simp [go_sem, *]; done)
    · rintro w2 ⟨hB, g0, g1, g2, g3, g4, g5, g6, g7, g8, g9⟩
      refine bodyPost_ret (v := .agg #[.int .u8 ((r.A).toNat : Int), .int .u8 ((r.T).toNat : Int), .bool r.n, .bool r.nt, .bool false, .bool false, .bool r.z, .bool r.zt, .bool r.c, .bool r.ct]) (by simp [results, Try.results20, go_sem, g0, g1, g2, g3, g4, g5, g6, g7, g8, g9]) rfl ⟨rfl, ?_⟩
      exact hB
  exact key (U8.subS v t u s true false false false) rfl

set_option maxRecDepth 100000 in
set_option maxHeartbeats 4000000 in
theorem step_any (v t : BitVec 8) (n : Int) (w : World) : Calls Try.prog 22 #[.agg #[.int .u8 (v.toNat : Int), .int .u8 (t.toNat : Int)], .int .i64 n] w fun e w' =>
    e = .returned (.agg #[.int .u8 ((U8.stepA v n).toNat : Int), .int .u8 ((U8.spreadB t).toNat : Int)]) ∧ Below w.heap.size w w' := by
  have h1 := U8.step_raw v n
  go_enter Try.func22, Try.ntmps22
  go_wp2_with fail
  go_region_held3 (fun w' => w'.cell? ⟨w.heap.size, 0, none⟩ = some (.int .u8 (v.toNat : Int)) ∧ w'.cell? ⟨w.heap.size, 1, none⟩ = some (.int .u8 (t.toNat : Int)) ∧ Below w.heap.size w w') ((go_split_ands; (repeat' with_reducible apply And.intro) <;> first | with_reducible assumption | ((repeat (first | with_reducible assumption | with_reducible exact Below.refl _ _ | with_reducible exact Mem.vsome ‹_› | ((with_reducible refine Mem.vnew ?_ ?_) <;> first | rfl | (simp; done)) | ((with_reducible refine Mem.cnew ?_ ?_) <;> first | rfl | (simp; done)) | ((with_reducible refine Mem.znew ?_) <;> first | rfl | (simp; done)) | with_reducible refine Mem.vdrew ?_ | with_reducible refine Mem.valloc _ ?_ | with_reducible refine Mem.vbelow ‹_› ?_ | with_reducible refine Mem.vset ?_ | with_reducible refine Mem.cdrew ?_ | with_reducible refine Mem.calloc _ ?_ | with_reducible refine Mem.bdrew ?_ | with_reducible refine Mem.cbelow ‹_› ?_ | with_reducible refine Mem.zdrew ?_ | with_reducible refine Mem.zalloc _ ?_ ?_ | with_reducible refine Mem.zbelow ‹_› ?_ ?_ | with_reducible refine Mem.zset ?_ | (with_reducible refine Mem.cset ?_ ?_; rotate_left; focus (first | (simp; done) | (simp; omega))) | (with_reducible refine Mem.balloc ?_ ?_ _; rotate_left; focus (first | (simp; done) | (simp; omega))) | (with_reducible refine Mem.bset ?_ ?_ _; rotate_left; focus (first | (simp; done) | (simp; omega))) | (with_reducible refine Mem.bbelow ?_ ?_ ‹_›; rotate_left; focus (first | (simp; done) | (simp; omega))))); done) | (simp [go_sem]; done) | (with_reducible refine Mem.cbelow ‹_› ?_; simp [go_sem, *]; done) | (with_reducible refine Mem.vbelow ‹_› (Mem.vof ?_); simp [go_sem]; done) | ((with_reducible refine Mem.zbelow ‹_› (Mem.vof ?_) ?_) <;> (simp [go_sem]; done)) | (simp [go_sem, *]; done)))
    (first | (go_at_call 40; refine (spread_any _ _).mono ?_; rintro e w' ⟨rfl, rfl⟩))
  go_split_ands
  go_wp2_with fail
  refine bodyPost_ret (v := .agg #[.int .u8 ((U8.stepA v n).toNat : Int), .int .u8 ((U8.spreadB t).toNat : Int)]) (by simp [results, Try.results22, go_sem]) rfl ⟨rfl, ?_⟩
  assumption
end Go.Proofs.Ytdpoebmahoipbaa
