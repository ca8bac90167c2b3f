/-
  Walks: what taint.Left and taint.Right return.
-/
import Derived.Test.YtncebifekimoiaaBits
import Derived.Test.YtncebifekimoiaaMem2
namespace Go.Proofs.Ytncebifekimoiaa
open Go Go.RowKit

set_option maxHeartbeats 800000 in
theorem left_any (v t : BitVec 8) (b s : Bool) (w : World) : Calls Try.prog 19 #[.agg #[.int .u8 (v.toNat : Int), .int .u8 (t.toNat : Int)], .agg #[.bool b, .bool s]] w fun e w' =>
    e = .returned (.tuple #[.agg #[.int .u8 ((U8.leftB v b).toNat : Int), .int .u8 ((U8.leftB t s).toNat : Int)], .agg #[.bool (U8.bitB v 7), .bool (U8.bitB t 7)]]) ∧ Below w.heap.size w w' := by
  rw [← U8.left_raw, ← U8.left_raw]
  go_enter Try.func19, Try.ntmps19
  go_wp2_with fail
  go_region_held3 (fun w' => w'.cell? ⟨w.heap.size, 0, none⟩ = some (.int .u8 (v.toNat : Int)) ∧ w'.cell? ⟨w.heap.size, 1, none⟩ = some (.int .u8 (t.toNat : Int)) ∧ w'.cell? ⟨w.heap.size + 1, 0, none⟩ = some (.bool b) ∧ w'.cell? ⟨w.heap.size + 1, 1, none⟩ = some (.bool s) ∧ w'.cell? ⟨w.heap.size + 1 + 1, 0, none⟩ = some (Mem.val w' ⟨w.heap.size + 1 + 1, 0, none⟩) ∧ w'.cell? ⟨w.heap.size + 1 + 1, 1, none⟩ = some (Mem.val w' ⟨w.heap.size + 1 + 1, 1, none⟩) ∧ w'.frozen? ⟨w.heap.size + 1 + 1, 0, none⟩ = false ∧ w'.frozen? ⟨w.heap.size + 1 + 1, 1, none⟩ = false ∧ w'.cell? ⟨w.heap.size + 1 + 1 + 1, 0, none⟩ = some (Mem.val w' ⟨w.heap.size + 1 + 1 + 1, 0, none⟩) ∧ w'.cell? ⟨w.heap.size + 1 + 1 + 1, 1, none⟩ = some (Mem.val w' ⟨w.heap.size + 1 + 1 + 1, 1, none⟩) ∧ w'.frozen? ⟨w.heap.size + 1 + 1 + 1, 0, none⟩ = false ∧ w'.frozen? ⟨w.heap.size + 1 + 1 + 1, 1, none⟩ = false ∧ Below w.heap.size w w') ((go_split_ands; (repeat' with_reducible apply And.intro) <;> first | with_reducible assumption | (simp [go_sem]; done) | (with_reducible refine Mem.vof ?_; simp [go_sem]; done) | (repeat (first | with_reducible assumption | with_reducible exact Below.refl _ _ | with_reducible refine Mem.vdrew ?_ | with_reducible refine Mem.valloc _ ?_ | with_reducible refine Mem.vbelow ‹_› ?_ | with_reducible refine Mem.vset ?_ | with_reducible refine Mem.cdrew ?_ | with_reducible refine Mem.calloc _ ?_ | with_reducible refine Mem.bdrew ?_ | with_reducible refine Mem.cbelow ‹_› ?_ | with_reducible refine Mem.zdrew ?_ | with_reducible refine Mem.zalloc _ ?_ ?_ | with_reducible refine Mem.zbelow ‹_› ?_ ?_ | with_reducible refine Mem.zset ?_ | (with_reducible refine Mem.cset ?_ ?_; rotate_left; focus (first | (simp; done) | (simp; omega))) | (with_reducible refine Mem.balloc ?_ ?_ _; rotate_left; focus (first | (simp; done) | (simp; omega))) | (with_reducible refine Mem.bset ?_ ?_ _; rotate_left; focus (first | (simp; done) | (simp; omega))) | (with_reducible refine Mem.bbelow ?_ ?_ ‹_›; rotate_left; focus (first | (simp; done) | (simp; omega)))))))
    (first | (go_at_call 42; refine (at_0 _ _).mono ?_; rintro e w' ⟨rfl, rfl⟩) | (go_at_call 23; refine (bit_7 _ _ _).mono ?_; rintro e w' ⟨rfl, hbb⟩))
  go_wp2
  go_split_ands
  with_reducible obtain ⟨g0, g1, g2, g3⟩ := Mem.four (g := w.heap.size + 1 + 1) (k := w.heap.size + 1 + 1 + 1) (Nat.ne_of_lt (Nat.lt_succ_self _)) ‹_› ‹_› ‹_› ‹_›
  refine bodyPost_ret (v := .tuple #[.agg #[.int .u8 (bits .or .u8 (IntKind.u8.wrap ((v.toNat : Int) * 2)) ((U8.oneAt b 0).toNat : Int)), .int .u8 (bits .or .u8 (IntKind.u8.wrap ((t.toNat : Int) * 2)) ((U8.oneAt s 0).toNat : Int))], .agg #[.bool (U8.bitB v 7), .bool (U8.bitB t 7)]]) (by simp [results, Try.results19, go_sem, g0, g1, g2, g3]) rfl ⟨rfl, ?_⟩
  assumption

set_option maxHeartbeats 800000 in
theorem right_any (v t : BitVec 8) (b s : Bool) (w : World) : Calls Try.prog 20 #[.agg #[.int .u8 (v.toNat : Int), .int .u8 (t.toNat : Int)], .agg #[.bool b, .bool s]] w fun e w' =>
    e = .returned (.tuple #[.agg #[.int .u8 ((U8.rightB v b).toNat : Int), .int .u8 ((U8.rightB t s).toNat : Int)], .agg #[.bool (U8.bitB v 0), .bool (U8.bitB t 0)]]) ∧ Below w.heap.size w w' := by
  rw [← U8.right_raw, ← U8.right_raw]
  go_enter Try.func20, Try.ntmps20
  go_wp2_with fail
  go_region_held3 (fun w' => w'.cell? ⟨w.heap.size, 0, none⟩ = some (.int .u8 (v.toNat : Int)) ∧ w'.cell? ⟨w.heap.size, 1, none⟩ = some (.int .u8 (t.toNat : Int)) ∧ w'.cell? ⟨w.heap.size + 1, 0, none⟩ = some (.bool b) ∧ w'.cell? ⟨w.heap.size + 1, 1, none⟩ = some (.bool s) ∧ w'.cell? ⟨w.heap.size + 1 + 1, 0, none⟩ = some (Mem.val w' ⟨w.heap.size + 1 + 1, 0, none⟩) ∧ w'.cell? ⟨w.heap.size + 1 + 1, 1, none⟩ = some (Mem.val w' ⟨w.heap.size + 1 + 1, 1, none⟩) ∧ w'.frozen? ⟨w.heap.size + 1 + 1, 0, none⟩ = false ∧ w'.frozen? ⟨w.heap.size + 1 + 1, 1, none⟩ = false ∧ w'.cell? ⟨w.heap.size + 1 + 1 + 1, 0, none⟩ = some (Mem.val w' ⟨w.heap.size + 1 + 1 + 1, 0, none⟩) ∧ w'.cell? ⟨w.heap.size + 1 + 1 + 1, 1, none⟩ = some (Mem.val w' ⟨w.heap.size + 1 + 1 + 1, 1, none⟩) ∧ w'.frozen? ⟨w.heap.size + 1 + 1 + 1, 0, none⟩ = false ∧ w'.frozen? ⟨w.heap.size + 1 + 1 + 1, 1, none⟩ = false ∧ Below w.heap.size w w') ((go_split_ands; (repeat' with_reducible apply And.intro) <;> first | with_reducible assumption | (simp [go_sem]; done) | (with_reducible refine Mem.vof ?_; simp [go_sem]; done) | (repeat (first | with_reducible assumption | with_reducible exact Below.refl _ _ | with_reducible refine Mem.vdrew ?_ | with_reducible refine Mem.valloc _ ?_ | with_reducible refine Mem.vbelow ‹_› ?_ | with_reducible refine Mem.vset ?_ | with_reducible refine Mem.cdrew ?_ | with_reducible refine Mem.calloc _ ?_ | with_reducible refine Mem.bdrew ?_ | with_reducible refine Mem.cbelow ‹_› ?_ | with_reducible refine Mem.zdrew ?_ | with_reducible refine Mem.zalloc _ ?_ ?_ | with_reducible refine Mem.zbelow ‹_› ?_ ?_ | with_reducible refine Mem.zset ?_ | (with_reducible refine Mem.cset ?_ ?_; rotate_left; focus (first | (simp; done) | (simp; omega))) | (with_reducible refine Mem.balloc ?_ ?_ _; rotate_left; focus (first | (simp; done) | (simp; omega))) | (with_reducible refine Mem.bset ?_ ?_ _; rotate_left; focus (first | (simp; done) | (simp; omega))) | (with_reducible refine Mem.bbelow ?_ ?_ ‹_›; rotate_left; focus (first | (simp; done) | (simp; omega)))))))
    (first | (go_at_call 42; refine (at_7 _ _).mono ?_; rintro e w' ⟨rfl, rfl⟩) | (go_at_call 23; refine (bit_0 _ _ _).mono ?_; rintro e w' ⟨rfl, hbb⟩))
  go_wp2
  go_split_ands
  with_reducible obtain ⟨g0, g1, g2, g3⟩ := Mem.four (g := w.heap.size + 1 + 1) (k := w.heap.size + 1 + 1 + 1) (Nat.ne_of_lt (Nat.lt_succ_self _)) ‹_› ‹_› ‹_› ‹_›
  refine bodyPost_ret (v := .tuple #[.agg #[.int .u8 (bits .or .u8 ((v.toNat : Int) / 2) ((U8.oneAt b 7).toNat : Int)), .int .u8 (bits .or .u8 ((t.toNat : Int) / 2) ((U8.oneAt s 7).toNat : Int))], .agg #[.bool (U8.bitB v 0), .bool (U8.bitB t 0)]]) (by simp [results, Try.results20, go_sem, g0, g1, g2, g3]) rfl ⟨rfl, ?_⟩
  assumption
end Go.Proofs.Ytncebifekimoiaa
