/-
  Walks: cochineallaw02.within returns true of sums of which one has fewer secrets.
-/
-- KEEP3
import Derived.Test.YtdpoebmahoipbaaSHelp
import Derived.Test.YtdpoebmahoipbaaSKeep
namespace Go.Proofs.Ytdpoebmahoipbaa
open Go Go.RowKit

set_option maxHeartbeats 4000000 in
theorem withs_raw (A T T' : BitVec 8) (n v z c nt vt zt ct nt' vt' zt' ct' : Bool) (hT : (bits .andNot .u8 (T.toNat : Int) (T'.toNat : Int) == 0) = true) (h1 : nt = true → nt' = true) (h2 : vt = true → vt' = true) (h3 : zt = true → zt' = true) (h4 : ct = true → ct' = true) (w : World) :
    Calls Try.prog 19 #[.agg #[.int .u8 (A.toNat : Int), .int .u8 (T.toNat : Int), .bool n, .bool nt, .bool v, .bool vt, .bool z, .bool zt, .bool c, .bool ct], .agg #[.int .u8 (A.toNat : Int), .int .u8 (T'.toNat : Int), .bool n, .bool nt', .bool v, .bool vt', .bool z, .bool zt', .bool c, .bool ct']] w fun e w' =>
    e = .returned (.bool true) ∧ Below w.heap.size w w' := by
  cases nt <;> cases vt <;> cases zt <;> cases ct
  all_goals
    try obtain rfl := h1 rfl
    try obtain rfl := h2 rfl
    try obtain rfl := h3 rfl
    try obtain rfl := h4 rfl
    clear h1 h2 h3 h4
    go_enter Try.func19, Try.ntmps19
    go_wp2
    go_ret
    exact ⟨rfl, by (repeat (first | with_reducible assumption | with_reducible exact Below.refl _ _ | with_reducible exact Mem.vsome ‹_› | ((with_reducible refine Mem.vnew ?_ ?_) <;> first | rfl | (simp; done)) | ((with_reducible refine Mem.cnew ?_ ?_) <;> first | rfl | (simp; done)) | ((with_reducible refine Mem.znew ?_) <;> first | rfl | (simp; done)) | with_reducible refine Mem.vdrew ?_ | with_reducible refine Mem.valloc _ ?_ | with_reducible refine Mem.vbelow ‹_› ?_ | with_reducible refine Mem.vset ?_ | with_reducible refine Mem.cdrew ?_ | with_reducible refine Mem.calloc _ ?_ | with_reducible refine Mem.bdrew ?_ | with_reducible refine Mem.cbelow ‹_› ?_ | with_reducible refine Mem.zdrew ?_ | with_reducible refine Mem.zalloc _ ?_ ?_ | with_reducible refine Mem.zbelow ‹_› ?_ ?_ | with_reducible refine Mem.zset ?_ | (with_reducible refine Mem.cset ?_ ?_; rotate_left; focus (first | (simp; done) | (simp; omega))) | (with_reducible refine Mem.balloc ?_ ?_ _; rotate_left; focus (first | (simp; done) | (simp; omega))) | (with_reducible refine Mem.bset ?_ ?_ _; rotate_left; focus (first | (simp; done) | (simp; omega))) | (with_reducible refine Mem.bbelow ?_ ?_ ‹_›; rotate_left; focus (first | (simp; done) | (simp; omega)))))⟩
theorem withs_any (r q : U8.S10) (h : U8.WithS r q) (w : World) : Calls Try.prog 19 #[.agg #[.int .u8 ((r.A).toNat : Int), .int .u8 ((r.T).toNat : Int), .bool r.n, .bool r.nt, .bool r.v, .bool r.vt, .bool r.z, .bool r.zt, .bool r.c, .bool r.ct], .agg #[.int .u8 ((q.A).toNat : Int), .int .u8 ((q.T).toNat : Int), .bool q.n, .bool q.nt, .bool q.v, .bool q.vt, .bool q.z, .bool q.zt, .bool q.c, .bool q.ct]] w fun e w' =>
    e = .returned (.bool true) ∧ Below w.heap.size w w' := by
  obtain ⟨hT, h1, h2, h3, h4, hA, hn, hv, hz, hc⟩ := h
  rw [hA, hn, hv, hz, hc]
  refine withs_raw _ _ _ _ _ _ _ _ _ _ _ _ _ _ _ ?_ h1 h2 h3 h4 w
  rw [U8.lit0, U8.andNot_, U8.eq_]
  exact beq_iff_eq.2 (U8.eq_bits fun i hi => by
    rw [U8.bit_and, U8.bit_not _ _ hi, U8.bit_zero]
    cases e : U8.bitB r.T i with
    | false => rfl
    | true => rw [hT i hi e]; rfl)
end Go.Proofs.Ytdpoebmahoipbaa
