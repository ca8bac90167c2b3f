/-
  Walks: what sums.secret returns, and what the closures do that sums.Add and sums.Sub defer.
-/
-- KEEP2
import Derived.Test.YtdpoebmahoipbaaSHide
import Derived.Defers
namespace Go.Proofs.Ytdpoebmahoipbaa
open Go Go.RowKit

theorem Mem.zstill {W W' : World} {a : Addr} {v : Value} {o : Obj} (hb : Below (W.alloc o).heap.size (W.alloc o) W') (hc : W.cell? a = some v) (hz : W.frozen? a = false) : W'.frozen? a = false := by
  have h1 : W.cell? a = some (Mem.val W a) := Mem.vof (by rw [hc]; rfl)
  exact Mem.zbelow hb (Mem.valloc o h1) (Mem.zalloc o h1 hz)

set_option maxRecDepth 100000 in
set_option maxHeartbeats 4000000 in
theorem secret_any (v t x s : BitVec 8) (b c d e0 : Bool) (q : Nat) (w : World)
    (b1 : w.cell? ⟨q, 0, none⟩ = some (.bool b)) (b2 : w.cell? ⟨q, 1, none⟩ = some (.bool c)) (b3 : w.cell? ⟨q, 2, none⟩ = some (.bool d)) (b4 : w.cell? ⟨q, 3, none⟩ = some (.bool e0)) :
    Calls Try.prog 30 #[.agg #[.int .u8 (v.toNat : Int), .int .u8 (t.toNat : Int)], .agg #[.int .u8 (x.toNat : Int), .int .u8 (s.toNat : Int)], .slice (some ⟨q, 0, none⟩) 2 2] w fun e w' => e = .returned (.bool (U8.anyB t s c e0)) ∧ Below w.heap.size w w' := by
  have hq : q < w.heap.size := Mem.clt (a := ⟨q, 0, none⟩) b1
  have hq1 : q < w.heap.size + 1 := by omega
  have hq2 : q < w.heap.size + 1 + 1 := by omega
  have e2 := U8.or_TS t s
  have e4 := U8.nz_raw (U8.orTS t s)
  unfold U8.anyB
  cases hn : U8.nzB (U8.orTS t s) <;> cases c <;> cases e0
  all_goals
    rw [hn] at e4
    go_enter Try.func30, Try.ntmps30
    go_wp2_with fail
    refine wp_loop_rounds 3 ?_
    rw [rounds_succ]
    go_wp2_with fail
    rw [rounds_succ]
    go_wp2_with fail
    rw [rounds_succ]
    go_wp2_with fail
    go_tidy
    go_outline
    go_ret
    refine ⟨rfl, ?_⟩
    (repeat (first | with_reducible assumption | with_reducible exact Below.refl _ _ | ((with_reducible refine Mem.vnew ?_ ?_) <;> first | rfl | (simp; done)) | ((with_reducible refine Mem.cnew ?_ ?_) <;> first | rfl | (simp; done)) | ((with_reducible refine Mem.znew ?_) <;> first | rfl | (simp; done)) | with_reducible refine Mem.vdrew ?_ | with_reducible refine Mem.valloc _ ?_ | with_reducible refine Mem.vbelow ‹_› ?_ | with_reducible refine Mem.vset ?_ | with_reducible refine Mem.cdrew ?_ | with_reducible refine Mem.calloc _ ?_ | with_reducible refine Mem.bdrew ?_ | with_reducible refine Mem.cbelow ‹_› ?_ | with_reducible refine Mem.zdrew ?_ | with_reducible refine Mem.zalloc _ ?_ ?_ | with_reducible refine Mem.zbelow ‹_› ?_ ?_ | with_reducible refine Mem.zset ?_ | (with_reducible refine Mem.cset ?_ ?_; rotate_left; focus (first | (simp; done) | (simp; omega))) | (with_reducible refine Mem.balloc ?_ ?_ _; rotate_left; focus (first | (simp; done) | (simp; omega))) | (with_reducible refine Mem.bset ?_ ?_ _; rotate_left; focus (first | (simp; done) | (simp; omega))) | (with_reducible refine Mem.bbelow ?_ ?_ ‹_›; rotate_left; focus (first | (simp; done) | (simp; omega)))))

set_option maxRecDepth 100000 in
set_option maxHeartbeats 4000000 in
theorem add_clos (g p1 p2 p3 p4 : Nat) (u : FrameMode) (v t x s : BitVec 8) (b c d e0 : Bool) (x0 x1 x2 x3 x4 y0 y1 y2 y3 y4 : Value) (w : World)
    (c0 : w.cell? ⟨g, 0, none⟩ = some x0) (c1 : w.cell? ⟨g, 1, none⟩ = some y0) (c2 : w.cell? ⟨g, 2, none⟩ = some x1) (c3 : w.cell? ⟨g, 3, none⟩ = some y1) (c4 : w.cell? ⟨g, 4, none⟩ = some x2)
    (c5 : w.cell? ⟨g, 5, none⟩ = some y2) (c6 : w.cell? ⟨g, 6, none⟩ = some x3) (c7 : w.cell? ⟨g, 7, none⟩ = some y3) (c8 : w.cell? ⟨g, 8, none⟩ = some x4) (c9 : w.cell? ⟨g, 9, none⟩ = some y4)
    (z1 : w.frozen? ⟨g, 1, none⟩ = false) (z3 : w.frozen? ⟨g, 3, none⟩ = false) (z5 : w.frozen? ⟨g, 5, none⟩ = false) (z7 : w.frozen? ⟨g, 7, none⟩ = false) (z9 : w.frozen? ⟨g, 9, none⟩ = false)
    (a1 : w.cell? ⟨p1, 0, none⟩ = some (.int .u8 (v.toNat : Int))) (a2 : w.cell? ⟨p1, 1, none⟩ = some (.int .u8 (t.toNat : Int))) (a3 : w.cell? ⟨p2, 0, none⟩ = some (.int .u8 (x.toNat : Int))) (a4 : w.cell? ⟨p2, 1, none⟩ = some (.int .u8 (s.toNat : Int)))
    (b1 : w.cell? ⟨p3, 0, none⟩ = some (.bool b)) (b2 : w.cell? ⟨p3, 1, none⟩ = some (.bool c)) (b3 : w.cell? ⟨p4, 0, none⟩ = some (.bool d)) (b4 : w.cell? ⟨p4, 1, none⟩ = some (.bool e0)) :
    CallsD Try.prog 28 #[.pointer (some ⟨g, 0, none⟩), .pointer (some ⟨p1, 0, none⟩), .pointer (some ⟨p2, 0, none⟩), .pointer (some ⟨p3, 0, none⟩), .pointer (some ⟨p4, 0, none⟩)] u w fun e u' w' => u' = u ∧ (e = .returned (.tuple #[]) ∧
      w'.cell? ⟨g, 0, none⟩ = some x0 ∧ w'.cell? ⟨g, 1, none⟩ = some (.int .u8 ((U8.hidT (U8.anyB t s c e0)).toNat : Int)) ∧ w'.cell? ⟨g, 2, none⟩ = some x1 ∧ w'.cell? ⟨g, 3, none⟩ = some (.bool (U8.anyB t s c e0)) ∧ w'.cell? ⟨g, 4, none⟩ = some x2 ∧ w'.cell? ⟨g, 5, none⟩ = some (.bool (U8.anyB t s c e0)) ∧
      w'.cell? ⟨g, 6, none⟩ = some x3 ∧ w'.cell? ⟨g, 7, none⟩ = some (.bool (U8.anyB t s c e0)) ∧ w'.cell? ⟨g, 8, none⟩ = some x4 ∧ w'.cell? ⟨g, 9, none⟩ = some (.bool (U8.anyB t s c e0)) ∧ Below g w w') := by
  have hg : g < w.heap.size := Mem.clt (a := ⟨g, 0, none⟩) c0
  go_enter_d Try.func28, Try.ntmps28
  go_wp2_with fail
  refine (secret_any v t x s b c d e0 w.heap.size _ ?_ ?_ ?_ ?_).mono ?_
  iterate 4 (simp [go_sem])
  rintro e w1 ⟨rfl, hb1⟩
  have k0 := Mem.cbelow hb1 (Mem.calloc _ c0)
  have k1 := Mem.cbelow hb1 (Mem.calloc _ c1)
  have k2 := Mem.cbelow hb1 (Mem.calloc _ c2)
  have k3 := Mem.cbelow hb1 (Mem.calloc _ c3)
  have k4 := Mem.cbelow hb1 (Mem.calloc _ c4)
  have k5 := Mem.cbelow hb1 (Mem.calloc _ c5)
  have k6 := Mem.cbelow hb1 (Mem.calloc _ c6)
  have k7 := Mem.cbelow hb1 (Mem.calloc _ c7)
  have k8 := Mem.cbelow hb1 (Mem.calloc _ c8)
  have k9 := Mem.cbelow hb1 (Mem.calloc _ c9)
  have l1 := Mem.zstill hb1 c1 z1
  have l3 := Mem.zstill hb1 c3 z3
  have l5 := Mem.zstill hb1 c5 z5
  have l7 := Mem.zstill hb1 c7 z7
  have l9 := Mem.zstill hb1 c9 z9
  have hg1 : g < w1.heap.size := Mem.clt (a := ⟨g, 0, none⟩) k0
  have hB : Below g w w1 := (Mem.balloc (Below.refl g w) (Nat.le_of_lt hg) _).trans (hb1.mono (by simp; omega))
  clear c0 c1 c2 c3 c4 c5 c6 c7 c8 c9 z1 z3 z5 z7 z9 hb1 a1 a2 a3 a4 b1 b2 b3 b4
  go_wp2_with fail
  refine (hide_any g x0 x1 x2 x3 x4 y0 y1 y2 y3 y4 _ w1 hg1 k0 k1 k2 k3 k4 k5 k6 k7 k8 k9 l1 l3 l5 l7 l9).mono ?_
  rintro e w2 ⟨rfl, q0, q1, q2, q3, q4, q5, q6, q7, q8, q9, hB2⟩
  clear k0 k1 k2 k3 k4 k5 k6 k7 k8 k9 l1 l3 l5 l7 l9
  go_wp2_with fail
  go_end0
  exact ⟨rfl, q0, q1, q2, q3, q4, q5, q6, q7, q8, q9, hB.trans hB2⟩

set_option maxRecDepth 100000 in
set_option maxHeartbeats 4000000 in
theorem sub_clos (g p1 p2 p3 p4 : Nat) (u : FrameMode) (v t x s : BitVec 8) (b c d e0 : Bool) (x0 x1 x2 x3 x4 y0 y1 y2 y3 y4 : Value) (w : World)
    (c0 : w.cell? ⟨g, 0, none⟩ = some x0) (c1 : w.cell? ⟨g, 1, none⟩ = some y0) (c2 : w.cell? ⟨g, 2, none⟩ = some x1) (c3 : w.cell? ⟨g, 3, none⟩ = some y1) (c4 : w.cell? ⟨g, 4, none⟩ = some x2)
    (c5 : w.cell? ⟨g, 5, none⟩ = some y2) (c6 : w.cell? ⟨g, 6, none⟩ = some x3) (c7 : w.cell? ⟨g, 7, none⟩ = some y3) (c8 : w.cell? ⟨g, 8, none⟩ = some x4) (c9 : w.cell? ⟨g, 9, none⟩ = some y4)
    (z1 : w.frozen? ⟨g, 1, none⟩ = false) (z3 : w.frozen? ⟨g, 3, none⟩ = false) (z5 : w.frozen? ⟨g, 5, none⟩ = false) (z7 : w.frozen? ⟨g, 7, none⟩ = false) (z9 : w.frozen? ⟨g, 9, none⟩ = false)
    (a1 : w.cell? ⟨p1, 0, none⟩ = some (.int .u8 (v.toNat : Int))) (a2 : w.cell? ⟨p1, 1, none⟩ = some (.int .u8 (t.toNat : Int))) (a3 : w.cell? ⟨p2, 0, none⟩ = some (.int .u8 (x.toNat : Int))) (a4 : w.cell? ⟨p2, 1, none⟩ = some (.int .u8 (s.toNat : Int)))
    (b1 : w.cell? ⟨p3, 0, none⟩ = some (.bool b)) (b2 : w.cell? ⟨p3, 1, none⟩ = some (.bool c)) (b3 : w.cell? ⟨p4, 0, none⟩ = some (.bool d)) (b4 : w.cell? ⟨p4, 1, none⟩ = some (.bool e0)) :
    CallsD Try.prog 38 #[.pointer (some ⟨g, 0, none⟩), .pointer (some ⟨p1, 0, none⟩), .pointer (some ⟨p2, 0, none⟩), .pointer (some ⟨p3, 0, none⟩), .pointer (some ⟨p4, 0, none⟩)] u w fun e u' w' => u' = u ∧ (e = .returned (.tuple #[]) ∧
      w'.cell? ⟨g, 0, none⟩ = some x0 ∧ w'.cell? ⟨g, 1, none⟩ = some (.int .u8 ((U8.hidT (U8.anyB t s c e0)).toNat : Int)) ∧ w'.cell? ⟨g, 2, none⟩ = some x1 ∧ w'.cell? ⟨g, 3, none⟩ = some (.bool (U8.anyB t s c e0)) ∧ w'.cell? ⟨g, 4, none⟩ = some x2 ∧ w'.cell? ⟨g, 5, none⟩ = some (.bool (U8.anyB t s c e0)) ∧
      w'.cell? ⟨g, 6, none⟩ = some x3 ∧ w'.cell? ⟨g, 7, none⟩ = some (.bool (U8.anyB t s c e0)) ∧ w'.cell? ⟨g, 8, none⟩ = some x4 ∧ w'.cell? ⟨g, 9, none⟩ = some (.bool (U8.anyB t s c e0)) ∧ Below g w w') := by
  have hg : g < w.heap.size := Mem.clt (a := ⟨g, 0, none⟩) c0
  go_enter_d Try.func38, Try.ntmps38
  go_wp2_with fail
  refine (secret_any v t x s b c d e0 w.heap.size _ ?_ ?_ ?_ ?_).mono ?_
  iterate 4 (simp [go_sem])
  rintro e w1 ⟨rfl, hb1⟩
  have k0 := Mem.cbelow hb1 (Mem.calloc _ c0)
  have k1 := Mem.cbelow hb1 (Mem.calloc _ c1)
  have k2 := Mem.cbelow hb1 (Mem.calloc _ c2)
  have k3 := Mem.cbelow hb1 (Mem.calloc _ c3)
  have k4 := Mem.cbelow hb1 (Mem.calloc _ c4)
  have k5 := Mem.cbelow hb1 (Mem.calloc _ c5)
  have k6 := Mem.cbelow hb1 (Mem.calloc _ c6)
  have k7 := Mem.cbelow hb1 (Mem.calloc _ c7)
  have k8 := Mem.cbelow hb1 (Mem.calloc _ c8)
  have k9 := Mem.cbelow hb1 (Mem.calloc _ c9)
  have l1 := Mem.zstill hb1 c1 z1
  have l3 := Mem.zstill hb1 c3 z3
  have l5 := Mem.zstill hb1 c5 z5
  have l7 := Mem.zstill hb1 c7 z7
  have l9 := Mem.zstill hb1 c9 z9
  have hg1 : g < w1.heap.size := Mem.clt (a := ⟨g, 0, none⟩) k0
  have hB : Below g w w1 := (Mem.balloc (Below.refl g w) (Nat.le_of_lt hg) _).trans (hb1.mono (by simp; omega))
  clear c0 c1 c2 c3 c4 c5 c6 c7 c8 c9 z1 z3 z5 z7 z9 hb1 a1 a2 a3 a4 b1 b2 b3 b4
  go_wp2_with fail
  refine (hide_any g x0 x1 x2 x3 x4 y0 y1 y2 y3 y4 _ w1 hg1 k0 k1 k2 k3 k4 k5 k6 k7 k8 k9 l1 l3 l5 l7 l9).mono ?_
  rintro e w2 ⟨rfl, q0, q1, q2, q3, q4, q5, q6, q7, q8, q9, hB2⟩
  clear k0 k1 k2 k3 k4 k5 k6 k7 k8 k9 l1 l3 l5 l7 l9
  go_wp2_with fail
  go_end0
  exact ⟨rfl, q0, q1, q2, q3, q4, q5, q6, q7, q8, q9, hB.trans hB2⟩

end Go.Proofs.Ytdpoebmahoipbaa
