/-
  Walks: flags.Told; the chapter's example holds (cochineallaw03.awake).
-/
-- KEEP3
import Derived.Test.YtodfgcbgiaboiaaDoorFlags
import Derived.Test.YtodfgcbgiaboiaaDoorText
namespace Go.Proofs.YtodfgcbgiaboiaaDoor
open Go Go.RowKit

namespace U8
def toldV (v u : BitVec 8) : BitVec 8 := putB (putB v 7 (bitB u 7)) 1 (zeroV u)
def toldT (t u s : BitVec 8) : BitVec 8 := putB (putB t 7 (bitB s 7)) 1 (zeroT u s)
end U8
theorem set_7 (v t : BitVec 8) (b s : Bool) (w : World) : Calls Tryd.prog 18 #[.agg #[.int .u8 (v.toNat : Int), .int .u8 (t.toNat : Int)], .int .i64 7, .agg #[.bool b, .bool s]] w fun e w' => e = .returned (.agg #[.int .u8 ((U8.putB v 7 b).toNat : Int), .int .u8 ((U8.putB t 7 s).toNat : Int)]) ∧ Below w.heap.size w w' := set_any v t 7 (by decide) b s w
theorem set_1 (v t : BitVec 8) (b s : Bool) (w : World) : Calls Tryd.prog 18 #[.agg #[.int .u8 (v.toNat : Int), .int .u8 (t.toNat : Int)], .int .i64 1, .agg #[.bool b, .bool s]] w fun e w' => e = .returned (.agg #[.int .u8 ((U8.putB v 1 b).toNat : Int), .int .u8 ((U8.putB t 1 s).toNat : Int)]) ∧ Below w.heap.size w w' := set_any v t 1 (by decide) b s w
set_option maxHeartbeats 4000000 in
theorem told_any (v t u s : BitVec 8) (w : World) : Calls Tryd.prog 17 #[.agg #[.int .u8 (v.toNat : Int), .int .u8 (t.toNat : Int)], .agg #[.int .u8 (u.toNat : Int), .int .u8 (s.toNat : Int)]] w fun e w' => e = .returned (.agg #[.int .u8 ((U8.toldV v u).toNat : Int), .int .u8 ((U8.toldT t u s).toNat : Int)]) ∧ Below w.heap.size w w' := by
  go_enter Tryd.func17, Tryd.ntmps17
  go_wp2_with fail
  go_region_held3 (fun w' => w'.cell? ⟨w.heap.size, 0, none⟩ = some (.int .u8 (v.toNat : Int)) ∧ w'.cell? ⟨w.heap.size, 1, none⟩ = some (.int .u8 (t.toNat : Int)) ∧ w'.cell? ⟨w.heap.size + 1, 0, none⟩ = some (.int .u8 (u.toNat : Int)) ∧ w'.cell? ⟨w.heap.size + 1, 1, none⟩ = some (.int .u8 (s.toNat : Int)) ∧ w'.cell? ⟨w.heap.size + 1 + 1, 0, none⟩ = some (Mem.val w' ⟨w.heap.size + 1 + 1, 0, none⟩) ∧ w'.cell? ⟨w.heap.size + 1 + 1, 1, none⟩ = some (Mem.val w' ⟨w.heap.size + 1 + 1, 1, none⟩) ∧ w'.frozen? ⟨w.heap.size + 1 + 1, 0, none⟩ = false ∧ w'.frozen? ⟨w.heap.size + 1 + 1, 1, none⟩ = false ∧ Below w.heap.size w w') ((go_split_ands; (repeat' with_reducible apply And.intro) <;> first | with_reducible assumption | ((repeat (first | with_reducible assumption | with_reducible exact Below.refl _ _ | with_reducible exact Mem.vsome ‹_› | ((with_reducible refine Mem.vnew ?_ ?_) <;> first | rfl | (simp; done)) | ((with_reducible refine Mem.cnew ?_ ?_) <;> first | rfl | (simp; done)) | ((with_reducible refine Mem.znew ?_) <;> first | rfl | (simp; done)) | with_reducible refine Mem.vdrew ?_ | with_reducible refine Mem.valloc _ ?_ | with_reducible refine Mem.vbelow ‹_› ?_ | with_reducible refine Mem.vset ?_ | with_reducible refine Mem.cdrew ?_ | with_reducible refine Mem.calloc _ ?_ | with_reducible refine Mem.bdrew ?_ | with_reducible refine Mem.cbelow ‹_› ?_ | with_reducible refine Mem.zdrew ?_ | with_reducible refine Mem.zalloc _ ?_ ?_ | with_reducible refine Mem.zbelow ‹_› ?_ ?_ | with_reducible refine Mem.zset ?_ | (with_reducible refine Mem.cset ?_ ?_; rotate_left; focus (first | (simp; done) | (simp; omega))) | (with_reducible refine Mem.balloc ?_ ?_ _; rotate_left; focus (first | (simp; done) | (simp; omega))) | (with_reducible refine Mem.bset ?_ ?_ _; rotate_left; focus (first | (simp; done) | (simp; omega))) | (with_reducible refine Mem.bbelow ?_ ?_ ‹_›; rotate_left; focus (first | (simp; done) | (simp; omega))))); done) | (simp [go_sem]; done) | (with_reducible refine Mem.cbelow ‹_› ?_; simp [go_sem, *]; done) | (with_reducible refine Mem.vbelow ‹_› (Mem.vof ?_); simp [go_sem]; done) | ((with_reducible refine Mem.zbelow ‹_› (Mem.vof ?_) ?_) <;> (simp [go_sem]; done)) | (simp [go_sem, *]; done)))
    (first | (go_at_call 27; refine (bit_7 _ _ _).mono ?_; rintro e w' ⟨rfl, hbb⟩) | (go_at_call 18; first | ((with_reducible refine (set_7 _ _ _ _ _).mono ?_); rintro e w' ⟨rfl, hbb⟩) | ((with_reducible refine (set_1 _ _ _ _ _).mono ?_); rintro e w' ⟨rfl, hbb⟩)) | (go_at_call 28; refine (zero_any _ _ _).mono ?_; rintro e w' ⟨rfl, hbb⟩))
  go_split_ands
  go_wp2_with fail
  refine Mem.gate (fun W => Below w.heap.size w W ∧ W.cell? ⟨w.heap.size + 1 + 1, 0, none⟩ = some (.int .u8 ((U8.toldV v u).toNat : Int)) ∧ W.cell? ⟨w.heap.size + 1 + 1, 1, none⟩ = some (.int .u8 ((U8.toldT t u s).toNat : Int))) ?_ ?_
  · refine ⟨?_, Mem.two_new rfl ?_ ?_⟩
    all_goals ((repeat' with_reducible apply And.intro) <;> first | with_reducible assumption | ((repeat (first | with_reducible assumption | with_reducible exact Below.refl _ _ | with_reducible exact Mem.vsome ‹_› | ((with_reducible refine Mem.vnew ?_ ?_) <;> first | rfl | (simp; done)) | ((with_reducible refine Mem.cnew ?_ ?_) <;> first | rfl | (simp; done)) | ((with_reducible refine Mem.znew ?_) <;> first | rfl | (simp; done)) | with_reducible refine Mem.vdrew ?_ | with_reducible refine Mem.valloc _ ?_ | with_reducible refine Mem.vbelow ‹_› ?_ | with_reducible refine Mem.vset ?_ | with_reducible refine Mem.cdrew ?_ | with_reducible refine Mem.calloc _ ?_ | with_reducible refine Mem.bdrew ?_ | with_reducible refine Mem.cbelow ‹_› ?_ | with_reducible refine Mem.zdrew ?_ | with_reducible refine Mem.zalloc _ ?_ ?_ | with_reducible refine Mem.zbelow ‹_› ?_ ?_ | with_reducible refine Mem.zset ?_ | (with_reducible refine Mem.cset ?_ ?_; rotate_left; focus (first | (simp; done) | (simp; omega))) | (with_reducible refine Mem.balloc ?_ ?_ _; rotate_left; focus (first | (simp; done) | (simp; omega))) | (with_reducible refine Mem.bset ?_ ?_ _; rotate_left; focus (first | (simp; done) | (simp; omega))) | (with_reducible refine Mem.bbelow ?_ ?_ ‹_›; rotate_left; focus (first | (simp; done) | (simp; omega))))); done) | (simp [go_sem]; done) | (with_reducible refine Mem.cbelow ‹_› ?_; simp [go_sem, *]; done) | (with_reducible refine Mem.vbelow ‹_› (Mem.vof ?_); simp [go_sem]; done) | ((with_reducible refine Mem.zbelow ‹_› (Mem.vof ?_) ?_) <;> (simp [go_sem]; done)) | (simp [go_sem, *]; done))
  · rintro wz ⟨hB, g0, g1⟩
    refine bodyPost_ret (v := .agg #[.int .u8 ((U8.toldV v u).toNat : Int), .int .u8 ((U8.toldT t u s).toNat : Int)]) (by simp [results, Tryd.results17, go_sem, g0, g1]) rfl ⟨rfl, ?_⟩
    exact hB

theorem text_lit : (U8.txt 3#8 128#8 8).toArray = #[63, 118, 111, 98, 100, 105, 90, 67] := by kernel_rfl
theorem text_1 (w : World) : Calls Tryd.prog 11 #[.agg #[.int .u8 3, .int .u8 128]] w fun e w' => e = .returned (.string ⟨#[63, 118, 111, 98, 100, 105, 90, 67]⟩) ∧ Below w.heap.size w w' := by
  have h := text_any 3#8 128#8 w
  rw [text_lit] at h
  exact h
set_option maxHeartbeats 4000000 in
theorem awake_any (w : World) : Calls Tryd.prog 8 #[] w fun e w' => e = .returned (.bool true) ∧ Below w.heap.size w w' := by
  go_enter Tryd.func8, Tryd.ntmps8
  go_wp2_with fail
  refine (text_1 _).mono ?_
  rintro e w1 ⟨rfl, b1⟩
  go_wp2
  go_ret
  exact ⟨rfl, by (repeat (first | with_reducible assumption | with_reducible exact Below.refl _ _ | with_reducible exact Mem.vsome ‹_› | ((with_reducible refine Mem.vnew ?_ ?_) <;> first | rfl | (simp; done)) | ((with_reducible refine Mem.cnew ?_ ?_) <;> first | rfl | (simp; done)) | ((with_reducible refine Mem.znew ?_) <;> first | rfl | (simp; done)) | with_reducible refine Mem.vdrew ?_ | with_reducible refine Mem.valloc _ ?_ | with_reducible refine Mem.vbelow ‹_› ?_ | with_reducible refine Mem.vset ?_ | with_reducible refine Mem.cdrew ?_ | with_reducible refine Mem.calloc _ ?_ | with_reducible refine Mem.bdrew ?_ | with_reducible refine Mem.cbelow ‹_› ?_ | with_reducible refine Mem.zdrew ?_ | with_reducible refine Mem.zalloc _ ?_ ?_ | with_reducible refine Mem.zbelow ‹_› ?_ ?_ | with_reducible refine Mem.zset ?_ | (with_reducible refine Mem.cset ?_ ?_; rotate_left; focus (first | (simp; done) | (simp; omega))) | (with_reducible refine Mem.balloc ?_ ?_ _; rotate_left; focus (first | (simp; done) | (simp; omega))) | (with_reducible refine Mem.bset ?_ ?_ _; rotate_left; focus (first | (simp; done) | (simp; omega))) | (with_reducible refine Mem.bbelow ?_ ?_ ‹_›; rotate_left; focus (first | (simp; done) | (simp; omega)))))⟩
end Go.Proofs.YtodfgcbgiaboiaaDoor
