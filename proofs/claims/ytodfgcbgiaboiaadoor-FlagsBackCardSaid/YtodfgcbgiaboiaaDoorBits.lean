/-
  Walks: what the functions of package taint that turn bits return (at, Bit, Put, Left, Right, Spread).
-/
import Derived.Test.YtodfgcbgiaboiaaDoorProg
import Derived.Test.YtodfgcbgiaboiaaDoorMem
import Derived.Test.YtodfgcbgiaboiaaDoorNum
import Derived.WalkLawsBesides
import Derived.Deep.RegionHeld3
namespace Go.Proofs.YtodfgcbgiaboiaaDoor
open Go Go.RowKit

set_option maxHeartbeats 400000 in
theorem at_any (b : Bool) (n : Nat) (hn : n < 8) (w : World) : Calls Tryd.prog 39 #[.bool b, .int .i64 (n : Int)] w fun e w' => e = .returned (.int .u8 ((U8.oneAt b n).toNat : Int)) ∧ w = w' := by
  cases b
  · rw [← U8.at_no n]
    go_enter Tryd.func39, Tryd.ntmps39
    go_wp2
    go_ret
    exact ⟨rfl, rfl⟩
  · rw [← U8.at_raw n hn]
    go_enter Tryd.func39, Tryd.ntmps39
    go_wp2
    go_ret
    exact ⟨rfl, rfl⟩
theorem at_0 (b : Bool) (w : World) : Calls Tryd.prog 39 #[.bool b, .int .i64 0] w fun e w' => e = .returned (.int .u8 ((U8.oneAt b 0).toNat : Int)) ∧ w = w' := at_any b 0 (by decide) w
theorem at_7 (b : Bool) (w : World) : Calls Tryd.prog 39 #[.bool b, .int .i64 7] w fun e w' => e = .returned (.int .u8 ((U8.oneAt b 7).toNat : Int)) ∧ w = w' := at_any b 7 (by decide) w
set_option maxHeartbeats 800000 in
theorem bit_any (v t : BitVec 8) (n : Nat) (hn : n < 8) (w : World) : Calls Tryd.prog 27 #[.agg #[.int .u8 (v.toNat : Int), .int .u8 (t.toNat : Int)], .int .i64 (n : Int)] w fun e w' =>
    e = .returned (.agg #[.bool (U8.bitB v n), .bool (U8.bitB t n)]) ∧ Below w.heap.size w w' := by
  have hbit : ∀ x : BitVec 8, (bits .and .u8 ((x.toNat : Int) / 2 ^ n) 1 == 1) = U8.bitB x n := fun x => U8.bit_raw x n hn
  go_enter Tryd.func27, Tryd.ntmps27
  go_wp2
  go_region_held3 (fun w' => w'.cell? ⟨w.heap.size, 0, none⟩ = some (.int .u8 (v.toNat : Int)) ∧ w'.cell? ⟨w.heap.size, 1, none⟩ = some (.int .u8 (t.toNat : Int)) ∧ w'.cell? ⟨w.heap.size + 1, 0, none⟩ = some (Mem.val w' ⟨w.heap.size + 1, 0, none⟩) ∧ w'.cell? ⟨w.heap.size + 1, 1, none⟩ = some (Mem.val w' ⟨w.heap.size + 1, 1, none⟩) ∧ w'.frozen? ⟨w.heap.size + 1, 0, none⟩ = false ∧ w'.frozen? ⟨w.heap.size + 1, 1, none⟩ = false ∧ Below w.heap.size w w') ((go_split_ands; (repeat' with_reducible apply And.intro) <;> first | with_reducible assumption | (simp [go_sem]; done) | (with_reducible refine Mem.vof ?_; simp [go_sem]; done) | (repeat (first | with_reducible assumption | with_reducible exact Below.refl _ _ | with_reducible refine Mem.vdrew ?_ | with_reducible refine Mem.valloc _ ?_ | with_reducible refine Mem.vbelow ‹_› ?_ | with_reducible refine Mem.vset ?_ | with_reducible refine Mem.cdrew ?_ | with_reducible refine Mem.calloc _ ?_ | with_reducible refine Mem.bdrew ?_ | with_reducible refine Mem.cbelow ‹_› ?_ | with_reducible refine Mem.zdrew ?_ | with_reducible refine Mem.zalloc _ ?_ ?_ | with_reducible refine Mem.zbelow ‹_› ?_ ?_ | with_reducible refine Mem.zset ?_ | (with_reducible refine Mem.cset ?_ ?_; rotate_left; focus (first | (simp; done) | (simp; omega))) | (with_reducible refine Mem.balloc ?_ ?_ _; rotate_left; focus (first | (simp; done) | (simp; omega))) | (with_reducible refine Mem.bset ?_ ?_ _; rotate_left; focus (first | (simp; done) | (simp; omega))) | (with_reducible refine Mem.bbelow ?_ ?_ ‹_›; rotate_left; focus (first | (simp; done) | (simp; omega)))))))
    (first | fail)
  go_wp2
  go_split_ands
  refine bodyPost_ret (v := .agg #[.bool (U8.bitB v n), .bool (U8.bitB t n)]) (by simp [results, Tryd.results27, go_sem]) rfl ⟨rfl, ?_⟩
  assumption
theorem bit_0 (v t : BitVec 8) (w : World) : Calls Tryd.prog 27 #[.agg #[.int .u8 (v.toNat : Int), .int .u8 (t.toNat : Int)], .int .i64 0] w fun e w' => e = .returned (.agg #[.bool (U8.bitB v 0), .bool (U8.bitB t 0)]) ∧ Below w.heap.size w w' := bit_any v t 0 (by decide) w
theorem bit_7 (v t : BitVec 8) (w : World) : Calls Tryd.prog 27 #[.agg #[.int .u8 (v.toNat : Int), .int .u8 (t.toNat : Int)], .int .i64 7] w fun e w' => e = .returned (.agg #[.bool (U8.bitB v 7), .bool (U8.bitB t 7)]) ∧ Below w.heap.size w w' := bit_any v t 7 (by decide) w

set_option maxHeartbeats 800000 in
/-- No bit stands beyond the byte. -/
theorem bit_out (v t : BitVec 8) (i : Int) (hi : i < 0 ∨ 7 < i) (w : World) : Calls Tryd.prog 27 #[.agg #[.int .u8 (v.toNat : Int), .int .u8 (t.toNat : Int)], .int .i64 i] w fun e w' =>
    e = .returned (.agg #[.bool false, .bool false]) ∧ Below w.heap.size w w' := by
  by_cases h0 : i < 0
  · have h1 : decide (i < 0) = true := by simpa using h0
    go_enter Tryd.func27, Tryd.ntmps27
    go_wp2
    refine bodyPost_ret (v := .agg #[.bool false, .bool false]) (by simp [results, Tryd.results27, go_sem]) rfl ⟨rfl, ?_⟩
    exact Mem.balloc (Mem.balloc (Below.refl _ _) (Nat.le_refl _) _) (Nat.le_refl _) _
  · have h1 : decide (i < 0) = false := by simpa using h0
    have h2 : decide (7 < i) = true := by simp; omega
    go_enter Tryd.func27, Tryd.ntmps27
    go_wp2
    refine bodyPost_ret (v := .agg #[.bool false, .bool false]) (by simp [results, Tryd.results27, go_sem]) rfl ⟨rfl, ?_⟩
    exact Mem.balloc (Mem.balloc (Below.refl _ _) (Nat.le_refl _) _) (Nat.le_refl _) _

end Go.Proofs.YtodfgcbgiaboiaaDoor
