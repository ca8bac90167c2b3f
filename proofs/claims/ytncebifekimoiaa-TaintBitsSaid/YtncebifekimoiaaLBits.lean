/-
  Walks: cochineallaw01.TaintBits returns true, whatever the byte, the place and the bit.
-/
-- KEEP2
import Derived.Test.YtncebifekimoiaaAwake
import Derived.Test.YtncebifekimoiaaPut
import Derived.Test.YtncebifekimoiaaSpread
import Derived.Test.YtncebifekimoiaaRPutO
import Derived.Test.YtncebifekimoiaaRBits
import Derived.Test.YtncebifekimoiaaMem4
namespace Go.Proofs.Ytncebifekimoiaa
open Go Go.RowKit

set_option maxRecDepth 100000 in
set_option maxHeartbeats 4000000 in
theorem lbits_in (v t : BitVec 8) (n : Nat) (hn : n < 8) (b s : Bool) (w : World) : Calls Try.prog 7 #[.agg #[.int .u8 (v.toNat : Int), .int .u8 (t.toNat : Int)], .int .i64 (n : Int), .agg #[.bool b, .bool s]] w fun e w' =>
    e = .returned (.bool true) ∧ Below w.heap.size w w' := by
  have hws : IntKind.i64.wrap ((U8.spreadB t).toNat : Int) = ((U8.spreadB t).toNat : Int) := IntWalk.i64_in _ (by have := (U8.spreadB t).isLt; omega)
  have hwt : IntKind.i64.wrap (t.toNat : Int) = (t.toNat : Int) := IntWalk.i64_in _ (by have := t.isLt; omega)
  go_enter Try.func7, Try.ntmps7
  go_wp2_with fail
  go_region_held3 (fun w' => w'.cell? ⟨w.heap.size, 0, none⟩ = some (.int .u8 (v.toNat : Int)) ∧ w'.cell? ⟨w.heap.size, 1, none⟩ = some (.int .u8 (t.toNat : Int)) ∧ w'.cell? ⟨w.heap.size + 1, 0, none⟩ = some (.bool b) ∧ w'.cell? ⟨w.heap.size + 1, 1, none⟩ = some (.bool s) ∧ Below w.heap.size w w') ((go_split_ands; (repeat' with_reducible apply And.intro) <;> first | with_reducible assumption | ((repeat (first | with_reducible assumption | with_reducible exact Below.refl _ _ | ((with_reducible refine Mem.vnew ?_ ?_) <;> first | rfl | (simp; done)) | ((with_reducible refine Mem.cnew ?_ ?_) <;> first | rfl | (simp; done)) | ((with_reducible refine Mem.znew ?_) <;> first | rfl | (simp; done)) | with_reducible refine Mem.vdrew ?_ | with_reducible refine Mem.valloc _ ?_ | with_reducible refine Mem.vbelow ‹_› ?_ | with_reducible refine Mem.vset ?_ | with_reducible refine Mem.cdrew ?_ | with_reducible refine Mem.calloc _ ?_ | with_reducible refine Mem.bdrew ?_ | with_reducible refine Mem.cbelow ‹_› ?_ | with_reducible refine Mem.zdrew ?_ | with_reducible refine Mem.zalloc _ ?_ ?_ | with_reducible refine Mem.zbelow ‹_› ?_ ?_ | with_reducible refine Mem.zset ?_ | (with_reducible refine Mem.cset ?_ ?_; rotate_left; focus (first | (simp; done) | (simp; omega))) | (with_reducible refine Mem.balloc ?_ ?_ _; rotate_left; focus (first | (simp; done) | (simp; omega))) | (with_reducible refine Mem.bset ?_ ?_ _; rotate_left; focus (first | (simp; done) | (simp; omega))) | (with_reducible refine Mem.bbelow ?_ ?_ ‹_›; rotate_left; focus (first | (simp; done) | (simp; omega))))); done) | (simp [go_sem]; done) | (with_reducible refine Mem.cbelow ‹_› ?_; simp [go_sem, *]; done) | (with_reducible refine Mem.vbelow ‹_› (Mem.vof ?_); simp [go_sem]; done) | ((with_reducible refine Mem.zbelow ‹_› (Mem.vof ?_) ?_) <;> (simp [go_sem]; done))))
    (first | (go_at_call 23; refine (bit_any _ _ _ hn _).mono ?_; rintro e w' ⟨rfl, hbb⟩) | (go_at_call 24; refine (rbit_any _ _ _ hn _).mono ?_; rintro e w' ⟨rfl, hbb⟩) | (go_at_call 25; refine (put_any _ _ _ hn _ _ _).mono ?_; rintro e w' ⟨rfl, hbb⟩) | (go_at_call 26; refine (rput_any _ _ _ hn _ _ _).mono ?_; rintro e w' ⟨rfl, hbb⟩) | (go_at_call 27; refine (zero_any _ _ _).mono ?_; rintro e w' ⟨rfl, hbb⟩) | (go_at_call 28; refine (rzero_any _ _ _).mono ?_; rintro e w' ⟨rfl, hbb⟩))
  go_split_ands
  go_wp2_with fail
  go_region_held3 (fun w' => w'.cell? ⟨w.heap.size, 0, none⟩ = some (.int .u8 (v.toNat : Int)) ∧ w'.cell? ⟨w.heap.size, 1, none⟩ = some (.int .u8 (t.toNat : Int)) ∧ w'.cell? ⟨w.heap.size + 1, 0, none⟩ = some (.bool b) ∧ w'.cell? ⟨w.heap.size + 1, 1, none⟩ = some (.bool s) ∧ Below w.heap.size w w') ((go_split_ands; (repeat' with_reducible apply And.intro) <;> first | with_reducible assumption | ((repeat (first | with_reducible assumption | with_reducible exact Below.refl _ _ | ((with_reducible refine Mem.vnew ?_ ?_) <;> first | rfl | (simp; done)) | ((with_reducible refine Mem.cnew ?_ ?_) <;> first | rfl | (simp; done)) | ((with_reducible refine Mem.znew ?_) <;> first | rfl | (simp; done)) | with_reducible refine Mem.vdrew ?_ | with_reducible refine Mem.valloc _ ?_ | with_reducible refine Mem.vbelow ‹_› ?_ | with_reducible refine Mem.vset ?_ | with_reducible refine Mem.cdrew ?_ | with_reducible refine Mem.calloc _ ?_ | with_reducible refine Mem.bdrew ?_ | with_reducible refine Mem.cbelow ‹_› ?_ | with_reducible refine Mem.zdrew ?_ | with_reducible refine Mem.zalloc _ ?_ ?_ | with_reducible refine Mem.zbelow ‹_› ?_ ?_ | with_reducible refine Mem.zset ?_ | (with_reducible refine Mem.cset ?_ ?_; rotate_left; focus (first | (simp; done) | (simp; omega))) | (with_reducible refine Mem.balloc ?_ ?_ _; rotate_left; focus (first | (simp; done) | (simp; omega))) | (with_reducible refine Mem.bset ?_ ?_ _; rotate_left; focus (first | (simp; done) | (simp; omega))) | (with_reducible refine Mem.bbelow ?_ ?_ ‹_›; rotate_left; focus (first | (simp; done) | (simp; omega))))); done) | (simp [go_sem]; done) | (with_reducible refine Mem.cbelow ‹_› ?_; simp [go_sem, *]; done) | (with_reducible refine Mem.vbelow ‹_› (Mem.vof ?_); simp [go_sem]; done) | ((with_reducible refine Mem.zbelow ‹_› (Mem.vof ?_) ?_) <;> (simp [go_sem]; done))))
    (first | (go_at_call 29; refine (spread_any _ _).mono ?_; rintro e w' ⟨rfl, rfl⟩) | (go_at_call 30; refine (rspread_any _ _).mono ?_; rintro e w' ⟨rfl, rfl⟩) | (go_at_call 31; refine (erase_any _ _ _).mono ?_; rintro e w' ⟨rfl, hbb⟩) | (go_at_call 14; refine (awake_any _).mono ?_; rintro e w' ⟨rfl, hbb⟩))
  go_split_ands
  go_wp2
  go_ret
  exact ⟨rfl, by assumption⟩

set_option maxRecDepth 100000 in
set_option maxHeartbeats 4000000 in
theorem lbits_out (v t : BitVec 8) (i : Int) (hi : i < 0 ∨ 7 < i) (b s : Bool) (w : World) : Calls Try.prog 7 #[.agg #[.int .u8 (v.toNat : Int), .int .u8 (t.toNat : Int)], .int .i64 i, .agg #[.bool b, .bool s]] w fun e w' =>
    e = .returned (.bool true) ∧ Below w.heap.size w w' := by
  have hws : IntKind.i64.wrap ((U8.spreadB t).toNat : Int) = ((U8.spreadB t).toNat : Int) := IntWalk.i64_in _ (by have := (U8.spreadB t).isLt; omega)
  have hwt : IntKind.i64.wrap (t.toNat : Int) = (t.toNat : Int) := IntWalk.i64_in _ (by have := t.isLt; omega)
  go_enter Try.func7, Try.ntmps7
  go_wp2_with fail
  go_region_held3 (fun w' => w'.cell? ⟨w.heap.size, 0, none⟩ = some (.int .u8 (v.toNat : Int)) ∧ w'.cell? ⟨w.heap.size, 1, none⟩ = some (.int .u8 (t.toNat : Int)) ∧ w'.cell? ⟨w.heap.size + 1, 0, none⟩ = some (.bool b) ∧ w'.cell? ⟨w.heap.size + 1, 1, none⟩ = some (.bool s) ∧ Below w.heap.size w w') ((go_split_ands; (repeat' with_reducible apply And.intro) <;> first | with_reducible assumption | ((repeat (first | with_reducible assumption | with_reducible exact Below.refl _ _ | ((with_reducible refine Mem.vnew ?_ ?_) <;> first | rfl | (simp; done)) | ((with_reducible refine Mem.cnew ?_ ?_) <;> first | rfl | (simp; done)) | ((with_reducible refine Mem.znew ?_) <;> first | rfl | (simp; done)) | with_reducible refine Mem.vdrew ?_ | with_reducible refine Mem.valloc _ ?_ | with_reducible refine Mem.vbelow ‹_› ?_ | with_reducible refine Mem.vset ?_ | with_reducible refine Mem.cdrew ?_ | with_reducible refine Mem.calloc _ ?_ | with_reducible refine Mem.bdrew ?_ | with_reducible refine Mem.cbelow ‹_› ?_ | with_reducible refine Mem.zdrew ?_ | with_reducible refine Mem.zalloc _ ?_ ?_ | with_reducible refine Mem.zbelow ‹_› ?_ ?_ | with_reducible refine Mem.zset ?_ | (with_reducible refine Mem.cset ?_ ?_; rotate_left; focus (first | (simp; done) | (simp; omega))) | (with_reducible refine Mem.balloc ?_ ?_ _; rotate_left; focus (first | (simp; done) | (simp; omega))) | (with_reducible refine Mem.bset ?_ ?_ _; rotate_left; focus (first | (simp; done) | (simp; omega))) | (with_reducible refine Mem.bbelow ?_ ?_ ‹_›; rotate_left; focus (first | (simp; done) | (simp; omega))))); done) | (simp [go_sem]; done) | (with_reducible refine Mem.cbelow ‹_› ?_; simp [go_sem, *]; done) | (with_reducible refine Mem.vbelow ‹_› (Mem.vof ?_); simp [go_sem]; done) | ((with_reducible refine Mem.zbelow ‹_› (Mem.vof ?_) ?_) <;> (simp [go_sem]; done))))
    (first | (go_at_call 23; refine (bit_out _ _ _ hi _).mono ?_; rintro e w' ⟨rfl, hbb⟩) | (go_at_call 24; refine (rbit_out _ _ _ hi _).mono ?_; rintro e w' ⟨rfl, hbb⟩) | (go_at_call 25; refine (put_out _ _ _ hi _ _ _).mono ?_; rintro e w' ⟨rfl, hbb⟩) | (go_at_call 26; refine (rput_out _ _ _ hi _ _ _).mono ?_; rintro e w' ⟨rfl, hbb⟩) | (go_at_call 27; refine (zero_any _ _ _).mono ?_; rintro e w' ⟨rfl, hbb⟩) | (go_at_call 28; refine (rzero_any _ _ _).mono ?_; rintro e w' ⟨rfl, hbb⟩))
  go_split_ands
  go_wp2_with fail
  go_region_held3 (fun w' => w'.cell? ⟨w.heap.size, 0, none⟩ = some (.int .u8 (v.toNat : Int)) ∧ w'.cell? ⟨w.heap.size, 1, none⟩ = some (.int .u8 (t.toNat : Int)) ∧ w'.cell? ⟨w.heap.size + 1, 0, none⟩ = some (.bool b) ∧ w'.cell? ⟨w.heap.size + 1, 1, none⟩ = some (.bool s) ∧ Below w.heap.size w w') ((go_split_ands; (repeat' with_reducible apply And.intro) <;> first | with_reducible assumption | ((repeat (first | with_reducible assumption | with_reducible exact Below.refl _ _ | ((with_reducible refine Mem.vnew ?_ ?_) <;> first | rfl | (simp; done)) | ((with_reducible refine Mem.cnew ?_ ?_) <;> first | rfl | (simp; done)) | ((with_reducible refine Mem.znew ?_) <;> first | rfl | (simp; done)) | with_reducible refine Mem.vdrew ?_ | with_reducible refine Mem.valloc _ ?_ | with_reducible refine Mem.vbelow ‹_› ?_ | with_reducible refine Mem.vset ?_ | with_reducible refine Mem.cdrew ?_ | with_reducible refine Mem.calloc _ ?_ | with_reducible refine Mem.bdrew ?_ | with_reducible refine Mem.cbelow ‹_› ?_ | with_reducible refine Mem.zdrew ?_ | with_reducible refine Mem.zalloc _ ?_ ?_ | with_reducible refine Mem.zbelow ‹_› ?_ ?_ | with_reducible refine Mem.zset ?_ | (with_reducible refine Mem.cset ?_ ?_; rotate_left; focus (first | (simp; done) | (simp; omega))) | (with_reducible refine Mem.balloc ?_ ?_ _; rotate_left; focus (first | (simp; done) | (simp; omega))) | (with_reducible refine Mem.bset ?_ ?_ _; rotate_left; focus (first | (simp; done) | (simp; omega))) | (with_reducible refine Mem.bbelow ?_ ?_ ‹_›; rotate_left; focus (first | (simp; done) | (simp; omega))))); done) | (simp [go_sem]; done) | (with_reducible refine Mem.cbelow ‹_› ?_; simp [go_sem, *]; done) | (with_reducible refine Mem.vbelow ‹_› (Mem.vof ?_); simp [go_sem]; done) | ((with_reducible refine Mem.zbelow ‹_› (Mem.vof ?_) ?_) <;> (simp [go_sem]; done))))
    (first | (go_at_call 29; refine (spread_any _ _).mono ?_; rintro e w' ⟨rfl, rfl⟩) | (go_at_call 30; refine (rspread_any _ _).mono ?_; rintro e w' ⟨rfl, rfl⟩) | (go_at_call 31; refine (erase_any _ _ _).mono ?_; rintro e w' ⟨rfl, hbb⟩) | (go_at_call 14; refine (awake_any _).mono ?_; rintro e w' ⟨rfl, hbb⟩))
  go_split_ands
  go_wp2
  go_ret
  exact ⟨rfl, by assumption⟩

theorem lbits (v t : BitVec 8) (i : Int) (_h : -9223372036854775808 ≤ i) (_h' : i ≤ 9223372036854775807) (b s : Bool) (w : World) : Calls Try.prog 7 #[.agg #[.int .u8 (v.toNat : Int), .int .u8 (t.toNat : Int)], .int .i64 i, .agg #[.bool b, .bool s]] w fun e w' =>
    e = .returned (.bool true) ∧ Below w.heap.size w w' := by
  by_cases hi : i < 0 ∨ 7 < i
  · exact lbits_out v t i hi b s w
  · obtain ⟨n, rfl⟩ := Int.eq_ofNat_of_zero_le (show 0 ≤ i by omega)
    exact lbits_in v t n (by omega) b s w
end Go.Proofs.Ytncebifekimoiaa
