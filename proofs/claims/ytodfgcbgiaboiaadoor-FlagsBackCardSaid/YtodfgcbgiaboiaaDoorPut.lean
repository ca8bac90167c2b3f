/-
  Walks: what taint.Put returns.
-/
import Derived.Test.YtodfgcbgiaboiaaDoorBits
namespace Go.Proofs.YtodfgcbgiaboiaaDoor
open Go Go.RowKit

set_option maxHeartbeats 800000 in
theorem put_any (v t : BitVec 8) (n : Nat) (hn : n < 8) (b s : Bool) (w : World) : Calls Tryd.prog 29 #[.agg #[.int .u8 (v.toNat : Int), .int .u8 (t.toNat : Int)], .int .i64 (n : Int), .agg #[.bool b, .bool s]] w fun e w' =>
    e = .returned (.agg #[.int .u8 ((U8.putB v n b).toNat : Int), .int .u8 ((U8.putB t n s).toNat : Int)]) ∧ Below w.heap.size w w' := by
  rw [← U8.put_raw v n b hn, ← U8.put_raw t n s hn]
  go_enter Tryd.func29, Tryd.ntmps29
  go_wp2_with fail
  go_region_held3 (fun w' => w'.cell? ⟨w.heap.size, 0, none⟩ = some (.int .u8 (v.toNat : Int)) ∧ w'.cell? ⟨w.heap.size, 1, none⟩ = some (.int .u8 (t.toNat : Int)) ∧ w'.cell? ⟨w.heap.size + 1, 0, none⟩ = some (.bool b) ∧ w'.cell? ⟨w.heap.size + 1, 1, none⟩ = some (.bool s) ∧ w'.cell? ⟨w.heap.size + 1 + 1, 0, none⟩ = some (Mem.val w' ⟨w.heap.size + 1 + 1, 0, none⟩) ∧ w'.cell? ⟨w.heap.size + 1 + 1, 1, none⟩ = some (Mem.val w' ⟨w.heap.size + 1 + 1, 1, none⟩) ∧ w'.frozen? ⟨w.heap.size + 1 + 1, 0, none⟩ = false ∧ w'.frozen? ⟨w.heap.size + 1 + 1, 1, none⟩ = false ∧ Below w.heap.size w w') ((go_split_ands; (repeat' with_reducible apply And.intro) <;> first | with_reducible assumption | (simp [go_sem]; done) | (with_reducible refine Mem.vof ?_; simp [go_sem]; done) | (repeat (first | with_reducible assumption | with_reducible exact Below.refl _ _ | with_reducible refine Mem.vdrew ?_ | with_reducible refine Mem.valloc _ ?_ | with_reducible refine Mem.vbelow ‹_› ?_ | with_reducible refine Mem.vset ?_ | with_reducible refine Mem.cdrew ?_ | with_reducible refine Mem.calloc _ ?_ | with_reducible refine Mem.bdrew ?_ | with_reducible refine Mem.cbelow ‹_› ?_ | with_reducible refine Mem.zdrew ?_ | with_reducible refine Mem.zalloc _ ?_ ?_ | with_reducible refine Mem.zbelow ‹_› ?_ ?_ | with_reducible refine Mem.zset ?_ | (with_reducible refine Mem.cset ?_ ?_; rotate_left; focus (first | (simp; done) | (simp; omega))) | (with_reducible refine Mem.balloc ?_ ?_ _; rotate_left; focus (first | (simp; done) | (simp; omega))) | (with_reducible refine Mem.bset ?_ ?_ _; rotate_left; focus (first | (simp; done) | (simp; omega))) | (with_reducible refine Mem.bbelow ?_ ?_ ‹_›; rotate_left; focus (first | (simp; done) | (simp; omega)))))))
    (first | (go_at_call 39; refine (at_any _ _ hn _).mono ?_; rintro e w' ⟨rfl, rfl⟩))
  go_wp2
  go_split_ands
  refine bodyPost_ret (v := .agg #[.int .u8 (bits .or .u8 (bits .andNot .u8 (v.toNat : Int) (IntKind.u8.wrap ((2 : Int) ^ n))) ((U8.oneAt b n).toNat : Int)), .int .u8 (bits .or .u8 (bits .andNot .u8 (t.toNat : Int) (IntKind.u8.wrap ((2 : Int) ^ n))) ((U8.oneAt s n).toNat : Int))]) (by simp [results, Tryd.results29, go_sem]) rfl ⟨rfl, ?_⟩
  assumption

set_option maxHeartbeats 800000 in
theorem put_out (v t : BitVec 8) (i : Int) (hi : i < 0 ∨ 7 < i) (b s : Bool) (w : World) : Calls Tryd.prog 29 #[.agg #[.int .u8 (v.toNat : Int), .int .u8 (t.toNat : Int)], .int .i64 i, .agg #[.bool b, .bool s]] w fun e w' =>
    e = .returned (.agg #[.int .u8 (v.toNat : Int), .int .u8 (t.toNat : Int)]) ∧ Below w.heap.size w w' := by
  by_cases h0 : i < 0
  · have h1 : decide (i < 0) = true := by simpa using h0
    go_enter Tryd.func29, Tryd.ntmps29
    go_wp2
    refine bodyPost_ret (v := .agg #[.int .u8 (v.toNat : Int), .int .u8 (t.toNat : Int)]) (by simp [results, Tryd.results29, go_sem]) rfl ⟨rfl, ?_⟩
    exact Mem.balloc (Mem.balloc (Mem.balloc (Below.refl _ _) (Nat.le_refl _) _) (Nat.le_refl _) _) (Nat.le_refl _) _
  · have h1 : decide (i < 0) = false := by simpa using h0
    have h2 : decide (7 < i) = true := by simp; omega
    go_enter Tryd.func29, Tryd.ntmps29
    go_wp2
    refine bodyPost_ret (v := .agg #[.int .u8 (v.toNat : Int), .int .u8 (t.toNat : Int)]) (by simp [results, Tryd.results29, go_sem]) rfl ⟨rfl, ?_⟩
    exact Mem.balloc (Mem.balloc (Mem.balloc (Below.refl _ _) (Nat.le_refl _) _) (Nat.le_refl _) _) (Nat.le_refl _) _
end Go.Proofs.YtodfgcbgiaboiaaDoor
