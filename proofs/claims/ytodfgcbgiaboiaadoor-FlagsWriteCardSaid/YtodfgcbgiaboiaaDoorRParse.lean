/-
  Walks: cochinealref03.Parse: the register of letters, in the document's words.
-/
-- KEEP3
import Derived.Test.YtodfgcbgiaboiaaDoorPrs
import Derived.Test.YtodfgcbgiaboiaaDoorRPutO
import Derived.Test.YtodfgcbgiaboiaaDoorRText
import Derived.Test.YtodfgcbgiaboiaaDoorMem12
import Derived.Deep.LoopGhost
import Derived.Deep.Cut
namespace Go.Proofs.YtodfgcbgiaboiaaDoor
open Go Go.RowKit
namespace U8
/-- What the document's Parse returns. -/
def rprsR (f : Nat → UInt8) : Value := if prsOk f = true then .tuple #[.agg #[.int .u8 ((prsV f 8).toNat : Int), .int .u8 ((prsT f 8).toNat : Int)], .bool true] else .tuple #[.agg #[.int .u8 0, .int .u8 0], .bool false]
end U8
theorem U8.letter_low' : ∀ k, k < 8 → ((U8.letter k).toNat + 32 : Int) = ((U8.letter k + 32).toNat : Int) := by
  intro k hk
  rcases (by omega : k = 0 ∨ k = 1 ∨ k = 2 ∨ k = 3 ∨ k = 4 ∨ k = 5 ∨ k = 6 ∨ k = 7) with rfl | rfl | rfl | rfl | rfl | rfl | rfl | rfl <;> kernel_rfl
theorem index_at (s : ByteArray) (k : Nat) (h : k < s.size) (W : World) : (Instr.index 9 (.string s) (.int .i64 (k : Int))).run Tryd.prog W = .ok (.int .u8 ((U8.byAt s k).toNat : Int)) W := by
  rw [run_index_string W 9 s .i64 (k : Int) Tryd.underlying9]
  rw [← U8.byAt_get s k h, dif_pos ⟨by omega, by omega⟩]
  rfl
theorem index_letter (k : Nat) (h : k < 8) (W : World) : (Instr.index 9 (.string ⟨#[78, 86, 79, 66, 68, 73, 90, 67]⟩) (.int .i64 (k : Int))).run Tryd.prog W = .ok (.int .u8 ((U8.letter k).toNat : Int)) W := by
  rw [run_index_string W 9 _ .i64 (k : Int) Tryd.underlying9]
  rw [dif_pos ⟨by omega, by show (k : Int) < 8; omega⟩, ← U8.letter_get k h (by show k < 8; omega)]
  rfl
theorem rput_at (v t : BitVec 8) (k : Nat) (hk : k < 8) (b s : Bool) (w : World) : Calls Tryd.prog 21 #[.agg #[.int .u8 (v.toNat : Int), .int .u8 (t.toNat : Int)], .int .i64 (7 - (k : Int)), .agg #[.bool b, .bool s]] w fun e w' => e = .returned (.agg #[.int .u8 ((U8.putB v (7 - k) b).toNat : Int), .int .u8 ((U8.putB t (7 - k) s).toNat : Int)]) ∧ Below w.heap.size w w' := by
  have h := rput_any v t (7 - k) (by omega) b s w
  rw [show ((7 - k : Nat) : Int) = 7 - (k : Int) from by omega] at h
  exact h

set_option maxHeartbeats 8000000 in
set_option maxRecDepth 100000 in
theorem rparse_8 (s : ByteArray) (hs : s.size = 8) (f : Nat → UInt8) (hf : ∀ k, k < 8 → f k = U8.byAt s k) (w : World) : Calls Tryd.prog 10 #[.string s] w fun e w' => e = .returned (U8.rprsR f) ∧ Below w.heap.size w w' := by
  go_enter Tryd.func10, Tryd.ntmps10
  go_wp2
  go_loopg [5] 8 (fun m s5 wr => ∃ pos : Nat, pos + m = 8 ∧ s5 = .int .i64 (pos : Int) ∧ (∀ j, j < pos → U8.okAt (f j) j = true) ∧ wr.cell? ⟨w.heap.size, 0, none⟩ = some (.int .u8 0) ∧ wr.cell? ⟨w.heap.size, 1, none⟩ = some (.int .u8 0) ∧ wr.cell? ⟨w.heap.size + 1, 0, none⟩ = some (.int .u8 ((U8.prsV f pos).toNat : Int)) ∧ wr.cell? ⟨w.heap.size + 1, 1, none⟩ = some (.int .u8 ((U8.prsT f pos).toNat : Int)) ∧ wr.frozen? ⟨w.heap.size, 0, none⟩ = false ∧ wr.frozen? ⟨w.heap.size, 1, none⟩ = false ∧ wr.frozen? ⟨w.heap.size + 1, 0, none⟩ = false ∧ wr.frozen? ⟨w.heap.size + 1, 1, none⟩ = false ∧ Below w.heap.size w wr)
  case atStart =>
    refine ⟨0, rfl, rfl, (fun j hj => absurd hj (Nat.not_lt_zero j)), ?_⟩
    (repeat' with_reducible apply And.intro) <;> first | with_reducible assumption | ((repeat (first | with_reducible assumption | with_reducible exact Below.refl _ _ | with_reducible exact Mem.vsome ‹_› | ((with_reducible refine Mem.vnew ?_ ?_) <;> first | rfl | (simp; done)) | ((with_reducible refine Mem.cnew ?_ ?_) <;> first | rfl | (simp; done)) | ((with_reducible refine Mem.znew ?_) <;> first | rfl | (simp; done)) | with_reducible refine Mem.vdrew ?_ | with_reducible refine Mem.valloc _ ?_ | with_reducible refine Mem.vbelow ‹_› ?_ | with_reducible refine Mem.vset ?_ | with_reducible refine Mem.cdrew ?_ | with_reducible refine Mem.calloc _ ?_ | with_reducible refine Mem.bdrew ?_ | with_reducible refine Mem.cbelow ‹_› ?_ | with_reducible refine Mem.zdrew ?_ | with_reducible refine Mem.zalloc _ ?_ ?_ | with_reducible refine Mem.zbelow ‹_› ?_ ?_ | with_reducible refine Mem.zset ?_ | (with_reducible refine Mem.cset ?_ ?_; rotate_left; focus (first | (simp; done) | (simp; omega))) | (with_reducible refine Mem.balloc ?_ ?_ _; rotate_left; focus (first | (simp; done) | (simp; omega))) | (with_reducible refine Mem.bset ?_ ?_ _; rotate_left; focus (first | (simp; done) | (simp; omega))) | (with_reducible refine Mem.bbelow ?_ ?_ ‹_›; rotate_left; focus (first | (simp; done) | (simp; omega))))); done) | (simp [go_sem]; done) | (with_reducible refine Mem.cbelow ‹_› ?_; simp [go_sem, *]; done) | (with_reducible refine Mem.vbelow ‹_› (Mem.vof ?_); simp [go_sem]; done) | ((with_reducible refine Mem.zbelow ‹_› (Mem.vof ?_) ?_) <;> (simp [go_sem]; done)) | (simp [go_sem, *]; done)
  case round =>
    obtain ⟨pos, hp8, rfl, hok, hS⟩ := hrel
    by_cases hp : pos < 8
    · have hm := Mem.hide (show gk - 1 < gk by omega)
      have hk' := Mem.hide (show pos + 1 + (gk - 1) = 8 by omega)
      obtain ⟨_, _, _, _, _, l63, m63, ml⟩ := U8.letter_facts pos hp
      have hgl := index_letter pos hp
      have hlo := U8.letter_low pos hp
      have hlo' := U8.letter_low' pos hp
      have hpI : (pos : Int) < 8 := by omega
      have hp0 : (0 : Int) ≤ (pos : Int) := by omega
      have hw1 : IntKind.i64.wrap ((pos : Int) + 1) = (pos : Int) + 1 := IntWalk.i64_in _ (by omega)
      have hw7 : IntKind.i64.wrap (7 - (pos : Int)) = 7 - (pos : Int) := IntWalk.i64_in _ (by omega)
      have hset := fun v t => rput_at v t pos hp
      have hg := index_at s pos (by omega)
      have hL := hf pos hp
      rw [← hL] at hg
      clear hL hf
      go_split_ands
      have hz0 : w.heap.size < wr.heap.size := Mem.clt (a := ⟨w.heap.size, 0, none⟩) ‹_›
      have hz1 : w.heap.size + 1 < wr.heap.size := Mem.clt (a := ⟨w.heap.size + 1, 0, none⟩) ‹_›
      rcases U8.at_ways (f pos) pos with hx | hx | hx | hx
      · have hV := U8.prsV_succ (f := f) (k := pos) (b := true) (by rw [hx]; first | (simp; done) | (simp))
        have hT := U8.prsT_succ (f := f) (k := pos) (b := false) (by rw [hx]; first | (simp; done) | (simp; exact l63))
        have hok' := U8.ok_step hok (U8.okAt_of (.inl hx))
        rw [hx] at hg
        have a1 : (((U8.letter pos).toNat : Int) == 63) = false := beq_eq_false_iff_ne.2 (U8.u8_63 l63)
        have a2 : ((63 : Int) == ((U8.letter pos).toNat : Int)) = false := beq_eq_false_iff_ne.2 (U8.u8_63' l63)
        have a3 : (((U8.letter pos + 32).toNat : Int) == 63) = false := beq_eq_false_iff_ne.2 (U8.u8_63 m63)
        have a4 : (((U8.letter pos + 32).toNat : Int) == ((U8.letter pos).toNat : Int)) = false := beq_eq_false_iff_ne.2 (U8.u8_ne ml)
        clear hok l63 m63 ml hx
        generalize U8.letter pos + 32 = M at *
        generalize U8.letter pos = L at *
        go_wp2_with fail
        go_region
        go_wp2_with fail
        refine (hset _ _ _ _ _).mono ?_
        rintro e W2 ⟨rfl, hbb⟩
        have hS : W2.cell? ⟨w.heap.size, 0, none⟩ = some (.int .u8 0) ∧ W2.cell? ⟨w.heap.size, 1, none⟩ = some (.int .u8 0) ∧ W2.cell? ⟨w.heap.size + 1, 0, none⟩ = some (.int .u8 ((U8.prsV f pos).toNat : Int)) ∧ W2.cell? ⟨w.heap.size + 1, 1, none⟩ = some (.int .u8 ((U8.prsT f pos).toNat : Int)) ∧ W2.frozen? ⟨w.heap.size, 0, none⟩ = false ∧ W2.frozen? ⟨w.heap.size, 1, none⟩ = false ∧ W2.frozen? ⟨w.heap.size + 1, 0, none⟩ = false ∧ W2.frozen? ⟨w.heap.size + 1, 1, none⟩ = false ∧ Below w.heap.size w W2 := by
          (repeat' with_reducible apply And.intro) <;> first | with_reducible assumption | ((repeat (first | with_reducible assumption | with_reducible exact Below.refl _ _ | with_reducible exact Mem.vsome ‹_› | ((with_reducible refine Mem.vnew ?_ ?_) <;> first | rfl | (simp; done)) | ((with_reducible refine Mem.cnew ?_ ?_) <;> first | rfl | (simp; done)) | ((with_reducible refine Mem.znew ?_) <;> first | rfl | (simp; done)) | with_reducible refine Mem.vdrew ?_ | with_reducible refine Mem.valloc _ ?_ | with_reducible refine Mem.vbelow ‹_› ?_ | with_reducible refine Mem.vset ?_ | with_reducible refine Mem.cdrew ?_ | with_reducible refine Mem.calloc _ ?_ | with_reducible refine Mem.bdrew ?_ | with_reducible refine Mem.cbelow ‹_› ?_ | with_reducible refine Mem.zdrew ?_ | with_reducible refine Mem.zalloc _ ?_ ?_ | with_reducible refine Mem.zbelow ‹_› ?_ ?_ | with_reducible refine Mem.zset ?_ | (with_reducible refine Mem.cset ?_ ?_; rotate_left; focus (first | (simp; done) | (simp; omega))) | (with_reducible refine Mem.balloc ?_ ?_ _; rotate_left; focus (first | (simp; done) | (simp; omega))) | (with_reducible refine Mem.bset ?_ ?_ _; rotate_left; focus (first | (simp; done) | (simp; omega))) | (with_reducible refine Mem.bbelow ?_ ?_ ‹_›; rotate_left; focus (first | (simp; done) | (simp; omega))))); done) | (simp [go_sem]; done) | (with_reducible refine Mem.cbelow ‹_› ?_; simp [go_sem, *]; done) | (with_reducible refine Mem.vbelow ‹_› (Mem.vof ?_); simp [go_sem]; done) | ((with_reducible refine Mem.zbelow ‹_› (Mem.vof ?_) ?_) <;> (simp [go_sem]; done)) | (simp [go_sem, *]; done)
        go_split_ands
        have hzW20 : w.heap.size < W2.heap.size := Mem.clt (a := ⟨w.heap.size, 0, none⟩) ‹_›
        have hzW21 : w.heap.size + 1 < W2.heap.size := Mem.clt (a := ⟨w.heap.size + 1, 0, none⟩) ‹_›
        clear hbb
        go_wp2_with fail
        refine Mem.gate (fun W => (W.cell? ⟨w.heap.size + 1, 0, none⟩ = some (.int .u8 ((U8.putB (U8.prsV f pos) (7 - pos) true).toNat : Int)) ∧ W.cell? ⟨w.heap.size + 1, 1, none⟩ = some (.int .u8 ((U8.putB (U8.prsT f pos) (7 - pos) false).toNat : Int))) ∧ W.cell? ⟨w.heap.size, 0, none⟩ = some (.int .u8 0) ∧ W.cell? ⟨w.heap.size, 1, none⟩ = some (.int .u8 0) ∧ W.frozen? ⟨w.heap.size, 0, none⟩ = false ∧ W.frozen? ⟨w.heap.size, 1, none⟩ = false ∧ W.frozen? ⟨w.heap.size + 1, 0, none⟩ = false ∧ W.frozen? ⟨w.heap.size + 1, 1, none⟩ = false ∧ Below w.heap.size w W) ?_ ?_
        · refine ⟨Mem.two_new rfl ?_ ?_, ?_⟩
          all_goals ((repeat' with_reducible apply And.intro) <;> first | with_reducible assumption | ((repeat (first | with_reducible assumption | with_reducible exact Below.refl _ _ | with_reducible exact Mem.vsome ‹_› | ((with_reducible refine Mem.vnew ?_ ?_) <;> first | rfl | (simp; done)) | ((with_reducible refine Mem.cnew ?_ ?_) <;> first | rfl | (simp; done)) | ((with_reducible refine Mem.znew ?_) <;> first | rfl | (simp; done)) | with_reducible refine Mem.vdrew ?_ | with_reducible refine Mem.valloc _ ?_ | with_reducible refine Mem.vbelow ‹_› ?_ | with_reducible refine Mem.vset ?_ | with_reducible refine Mem.cdrew ?_ | with_reducible refine Mem.calloc _ ?_ | with_reducible refine Mem.bdrew ?_ | with_reducible refine Mem.cbelow ‹_› ?_ | with_reducible refine Mem.zdrew ?_ | with_reducible refine Mem.zalloc _ ?_ ?_ | with_reducible refine Mem.zbelow ‹_› ?_ ?_ | with_reducible refine Mem.zset ?_ | (with_reducible refine Mem.cset ?_ ?_; rotate_left; focus (first | (simp; done) | (simp; omega))) | (with_reducible refine Mem.balloc ?_ ?_ _; rotate_left; focus (first | (simp; done) | (simp; omega))) | (with_reducible refine Mem.bset ?_ ?_ _; rotate_left; focus (first | (simp; done) | (simp; omega))) | (with_reducible refine Mem.bbelow ?_ ?_ ‹_›; rotate_left; focus (first | (simp; done) | (simp; omega))))); done) | (simp [go_sem]; done) | (with_reducible refine Mem.cbelow ‹_› ?_; simp [go_sem, *]; done) | (with_reducible refine Mem.vbelow ‹_› (Mem.vof ?_); simp [go_sem]; done) | ((with_reducible refine Mem.zbelow ‹_› (Mem.vof ?_) ?_) <;> (simp [go_sem]; done)) | (simp [go_sem, *]; done))
        rintro W3 ⟨⟨v0, v1⟩, hS4⟩
        go_roundg (gk - 1)
        case measure => exact hm
        case rel =>
          refine ⟨pos + 1, hk', rfl, hok', ?_⟩
          rw [hV, hT]
          go_split_ands
          (repeat' with_reducible apply And.intro) <;> first | with_reducible assumption | ((repeat (first | with_reducible assumption | with_reducible exact Below.refl _ _ | with_reducible exact Mem.vsome ‹_› | ((with_reducible refine Mem.vnew ?_ ?_) <;> first | rfl | (simp; done)) | ((with_reducible refine Mem.cnew ?_ ?_) <;> first | rfl | (simp; done)) | ((with_reducible refine Mem.znew ?_) <;> first | rfl | (simp; done)) | with_reducible refine Mem.vdrew ?_ | with_reducible refine Mem.valloc _ ?_ | with_reducible refine Mem.vbelow ‹_› ?_ | with_reducible refine Mem.vset ?_ | with_reducible refine Mem.cdrew ?_ | with_reducible refine Mem.calloc _ ?_ | with_reducible refine Mem.bdrew ?_ | with_reducible refine Mem.cbelow ‹_› ?_ | with_reducible refine Mem.zdrew ?_ | with_reducible refine Mem.zalloc _ ?_ ?_ | with_reducible refine Mem.zbelow ‹_› ?_ ?_ | with_reducible refine Mem.zset ?_ | (with_reducible refine Mem.cset ?_ ?_; rotate_left; focus (first | (simp; done) | (simp; omega))) | (with_reducible refine Mem.balloc ?_ ?_ _; rotate_left; focus (first | (simp; done) | (simp; omega))) | (with_reducible refine Mem.bset ?_ ?_ _; rotate_left; focus (first | (simp; done) | (simp; omega))) | (with_reducible refine Mem.bbelow ?_ ?_ ‹_›; rotate_left; focus (first | (simp; done) | (simp; omega))))); done) | (simp [go_sem]; done) | (with_reducible refine Mem.cbelow ‹_› ?_; simp [go_sem, *]; done) | (with_reducible refine Mem.vbelow ‹_› (Mem.vof ?_); simp [go_sem]; done) | ((with_reducible refine Mem.zbelow ‹_› (Mem.vof ?_) ?_) <;> (simp [go_sem]; done)) | (simp [go_sem, *]; done)
      · have hV := U8.prsV_succ (f := f) (k := pos) (b := false) (by rw [hx]; first | (simp; done) | (simp; exact l63.symm))
        have hT := U8.prsT_succ (f := f) (k := pos) (b := true) (by rw [hx]; first | (simp; done) | (simp))
        have hok' := U8.ok_step hok (U8.okAt_of (.inr <| .inl hx))
        rw [hx] at hg
        have a1 : (((U8.letter pos).toNat : Int) == 63) = false := beq_eq_false_iff_ne.2 (U8.u8_63 l63)
        have a2 : ((63 : Int) == ((U8.letter pos).toNat : Int)) = false := beq_eq_false_iff_ne.2 (U8.u8_63' l63)
        have a3 : (((U8.letter pos + 32).toNat : Int) == 63) = false := beq_eq_false_iff_ne.2 (U8.u8_63 m63)
        have a4 : (((U8.letter pos + 32).toNat : Int) == ((U8.letter pos).toNat : Int)) = false := beq_eq_false_iff_ne.2 (U8.u8_ne ml)
        clear hok l63 m63 ml hx
        generalize U8.letter pos + 32 = M at *
        generalize U8.letter pos = L at *
        go_wp2_with fail
        refine (hset _ _ _ _ _).mono ?_
        rintro e W2 ⟨rfl, hbb⟩
        have hS : W2.cell? ⟨w.heap.size, 0, none⟩ = some (.int .u8 0) ∧ W2.cell? ⟨w.heap.size, 1, none⟩ = some (.int .u8 0) ∧ W2.cell? ⟨w.heap.size + 1, 0, none⟩ = some (.int .u8 ((U8.prsV f pos).toNat : Int)) ∧ W2.cell? ⟨w.heap.size + 1, 1, none⟩ = some (.int .u8 ((U8.prsT f pos).toNat : Int)) ∧ W2.frozen? ⟨w.heap.size, 0, none⟩ = false ∧ W2.frozen? ⟨w.heap.size, 1, none⟩ = false ∧ W2.frozen? ⟨w.heap.size + 1, 0, none⟩ = false ∧ W2.frozen? ⟨w.heap.size + 1, 1, none⟩ = false ∧ Below w.heap.size w W2 := by
          (repeat' with_reducible apply And.intro) <;> first | with_reducible assumption | ((repeat (first | with_reducible assumption | with_reducible exact Below.refl _ _ | with_reducible exact Mem.vsome ‹_› | ((with_reducible refine Mem.vnew ?_ ?_) <;> first | rfl | (simp; done)) | ((with_reducible refine Mem.cnew ?_ ?_) <;> first | rfl | (simp; done)) | ((with_reducible refine Mem.znew ?_) <;> first | rfl | (simp; done)) | with_reducible refine Mem.vdrew ?_ | with_reducible refine Mem.valloc _ ?_ | with_reducible refine Mem.vbelow ‹_› ?_ | with_reducible refine Mem.vset ?_ | with_reducible refine Mem.cdrew ?_ | with_reducible refine Mem.calloc _ ?_ | with_reducible refine Mem.bdrew ?_ | with_reducible refine Mem.cbelow ‹_› ?_ | with_reducible refine Mem.zdrew ?_ | with_reducible refine Mem.zalloc _ ?_ ?_ | with_reducible refine Mem.zbelow ‹_› ?_ ?_ | with_reducible refine Mem.zset ?_ | (with_reducible refine Mem.cset ?_ ?_; rotate_left; focus (first | (simp; done) | (simp; omega))) | (with_reducible refine Mem.balloc ?_ ?_ _; rotate_left; focus (first | (simp; done) | (simp; omega))) | (with_reducible refine Mem.bset ?_ ?_ _; rotate_left; focus (first | (simp; done) | (simp; omega))) | (with_reducible refine Mem.bbelow ?_ ?_ ‹_›; rotate_left; focus (first | (simp; done) | (simp; omega))))); done) | (simp [go_sem]; done) | (with_reducible refine Mem.cbelow ‹_› ?_; simp [go_sem, *]; done) | (with_reducible refine Mem.vbelow ‹_› (Mem.vof ?_); simp [go_sem]; done) | ((with_reducible refine Mem.zbelow ‹_› (Mem.vof ?_) ?_) <;> (simp [go_sem]; done)) | (simp [go_sem, *]; done)
        go_split_ands
        have hzW20 : w.heap.size < W2.heap.size := Mem.clt (a := ⟨w.heap.size, 0, none⟩) ‹_›
        have hzW21 : w.heap.size + 1 < W2.heap.size := Mem.clt (a := ⟨w.heap.size + 1, 0, none⟩) ‹_›
        clear hbb
        go_wp2_with fail
        refine Mem.gate (fun W => (W.cell? ⟨w.heap.size + 1, 0, none⟩ = some (.int .u8 ((U8.putB (U8.prsV f pos) (7 - pos) false).toNat : Int)) ∧ W.cell? ⟨w.heap.size + 1, 1, none⟩ = some (.int .u8 ((U8.putB (U8.prsT f pos) (7 - pos) true).toNat : Int))) ∧ W.cell? ⟨w.heap.size, 0, none⟩ = some (.int .u8 0) ∧ W.cell? ⟨w.heap.size, 1, none⟩ = some (.int .u8 0) ∧ W.frozen? ⟨w.heap.size, 0, none⟩ = false ∧ W.frozen? ⟨w.heap.size, 1, none⟩ = false ∧ W.frozen? ⟨w.heap.size + 1, 0, none⟩ = false ∧ W.frozen? ⟨w.heap.size + 1, 1, none⟩ = false ∧ Below w.heap.size w W) ?_ ?_
        · refine ⟨Mem.two_new rfl ?_ ?_, ?_⟩
          all_goals ((repeat' with_reducible apply And.intro) <;> first | with_reducible assumption | ((repeat (first | with_reducible assumption | with_reducible exact Below.refl _ _ | with_reducible exact Mem.vsome ‹_› | ((with_reducible refine Mem.vnew ?_ ?_) <;> first | rfl | (simp; done)) | ((with_reducible refine Mem.cnew ?_ ?_) <;> first | rfl | (simp; done)) | ((with_reducible refine Mem.znew ?_) <;> first | rfl | (simp; done)) | with_reducible refine Mem.vdrew ?_ | with_reducible refine Mem.valloc _ ?_ | with_reducible refine Mem.vbelow ‹_› ?_ | with_reducible refine Mem.vset ?_ | with_reducible refine Mem.cdrew ?_ | with_reducible refine Mem.calloc _ ?_ | with_reducible refine Mem.bdrew ?_ | with_reducible refine Mem.cbelow ‹_› ?_ | with_reducible refine Mem.zdrew ?_ | with_reducible refine Mem.zalloc _ ?_ ?_ | with_reducible refine Mem.zbelow ‹_› ?_ ?_ | with_reducible refine Mem.zset ?_ | (with_reducible refine Mem.cset ?_ ?_; rotate_left; focus (first | (simp; done) | (simp; omega))) | (with_reducible refine Mem.balloc ?_ ?_ _; rotate_left; focus (first | (simp; done) | (simp; omega))) | (with_reducible refine Mem.bset ?_ ?_ _; rotate_left; focus (first | (simp; done) | (simp; omega))) | (with_reducible refine Mem.bbelow ?_ ?_ ‹_›; rotate_left; focus (first | (simp; done) | (simp; omega))))); done) | (simp [go_sem]; done) | (with_reducible refine Mem.cbelow ‹_› ?_; simp [go_sem, *]; done) | (with_reducible refine Mem.vbelow ‹_› (Mem.vof ?_); simp [go_sem]; done) | ((with_reducible refine Mem.zbelow ‹_› (Mem.vof ?_) ?_) <;> (simp [go_sem]; done)) | (simp [go_sem, *]; done))
        rintro W3 ⟨⟨v0, v1⟩, hS4⟩
        go_roundg (gk - 1)
        case measure => exact hm
        case rel =>
          refine ⟨pos + 1, hk', rfl, hok', ?_⟩
          rw [hV, hT]
          go_split_ands
          (repeat' with_reducible apply And.intro) <;> first | with_reducible assumption | ((repeat (first | with_reducible assumption | with_reducible exact Below.refl _ _ | with_reducible exact Mem.vsome ‹_› | ((with_reducible refine Mem.vnew ?_ ?_) <;> first | rfl | (simp; done)) | ((with_reducible refine Mem.cnew ?_ ?_) <;> first | rfl | (simp; done)) | ((with_reducible refine Mem.znew ?_) <;> first | rfl | (simp; done)) | with_reducible refine Mem.vdrew ?_ | with_reducible refine Mem.valloc _ ?_ | with_reducible refine Mem.vbelow ‹_› ?_ | with_reducible refine Mem.vset ?_ | with_reducible refine Mem.cdrew ?_ | with_reducible refine Mem.calloc _ ?_ | with_reducible refine Mem.bdrew ?_ | with_reducible refine Mem.cbelow ‹_› ?_ | with_reducible refine Mem.zdrew ?_ | with_reducible refine Mem.zalloc _ ?_ ?_ | with_reducible refine Mem.zbelow ‹_› ?_ ?_ | with_reducible refine Mem.zset ?_ | (with_reducible refine Mem.cset ?_ ?_; rotate_left; focus (first | (simp; done) | (simp; omega))) | (with_reducible refine Mem.balloc ?_ ?_ _; rotate_left; focus (first | (simp; done) | (simp; omega))) | (with_reducible refine Mem.bset ?_ ?_ _; rotate_left; focus (first | (simp; done) | (simp; omega))) | (with_reducible refine Mem.bbelow ?_ ?_ ‹_›; rotate_left; focus (first | (simp; done) | (simp; omega))))); done) | (simp [go_sem]; done) | (with_reducible refine Mem.cbelow ‹_› ?_; simp [go_sem, *]; done) | (with_reducible refine Mem.vbelow ‹_› (Mem.vof ?_); simp [go_sem]; done) | ((with_reducible refine Mem.zbelow ‹_› (Mem.vof ?_) ?_) <;> (simp [go_sem]; done)) | (simp [go_sem, *]; done)
      · have hV := U8.prsV_succ (f := f) (k := pos) (b := false) (by rw [hx]; first | (simp; done) | (simp; exact ml))
        have hT := U8.prsT_succ (f := f) (k := pos) (b := false) (by rw [hx]; first | (simp; done) | (simp; exact m63))
        have hok' := U8.ok_step hok (U8.okAt_of (.inr <| .inr hx))
        rw [hx] at hg
        have a1 : (((U8.letter pos).toNat : Int) == 63) = false := beq_eq_false_iff_ne.2 (U8.u8_63 l63)
        have a2 : ((63 : Int) == ((U8.letter pos).toNat : Int)) = false := beq_eq_false_iff_ne.2 (U8.u8_63' l63)
        have a3 : (((U8.letter pos + 32).toNat : Int) == 63) = false := beq_eq_false_iff_ne.2 (U8.u8_63 m63)
        have a4 : (((U8.letter pos + 32).toNat : Int) == ((U8.letter pos).toNat : Int)) = false := beq_eq_false_iff_ne.2 (U8.u8_ne ml)
        clear hok l63 m63 ml hx
        generalize U8.letter pos + 32 = M at *
        generalize U8.letter pos = L at *
        go_wp2_with fail
        go_region
        go_wp2_with fail
        go_region
        go_wp2_with fail
        refine (hset _ _ _ _ _).mono ?_
        rintro e W2 ⟨rfl, hbb⟩
        have hS : W2.cell? ⟨w.heap.size, 0, none⟩ = some (.int .u8 0) ∧ W2.cell? ⟨w.heap.size, 1, none⟩ = some (.int .u8 0) ∧ W2.cell? ⟨w.heap.size + 1, 0, none⟩ = some (.int .u8 ((U8.prsV f pos).toNat : Int)) ∧ W2.cell? ⟨w.heap.size + 1, 1, none⟩ = some (.int .u8 ((U8.prsT f pos).toNat : Int)) ∧ W2.frozen? ⟨w.heap.size, 0, none⟩ = false ∧ W2.frozen? ⟨w.heap.size, 1, none⟩ = false ∧ W2.frozen? ⟨w.heap.size + 1, 0, none⟩ = false ∧ W2.frozen? ⟨w.heap.size + 1, 1, none⟩ = false ∧ Below w.heap.size w W2 := by
          (repeat' with_reducible apply And.intro) <;> first | with_reducible assumption | ((repeat (first | with_reducible assumption | with_reducible exact Below.refl _ _ | with_reducible exact Mem.vsome ‹_› | ((with_reducible refine Mem.vnew ?_ ?_) <;> first | rfl | (simp; done)) | ((with_reducible refine Mem.cnew ?_ ?_) <;> first | rfl | (simp; done)) | ((with_reducible refine Mem.znew ?_) <;> first | rfl | (simp; done)) | with_reducible refine Mem.vdrew ?_ | with_reducible refine Mem.valloc _ ?_ | with_reducible refine Mem.vbelow ‹_› ?_ | with_reducible refine Mem.vset ?_ | with_reducible refine Mem.cdrew ?_ | with_reducible refine Mem.calloc _ ?_ | with_reducible refine Mem.bdrew ?_ | with_reducible refine Mem.cbelow ‹_› ?_ | with_reducible refine Mem.zdrew ?_ | with_reducible refine Mem.zalloc _ ?_ ?_ | with_reducible refine Mem.zbelow ‹_› ?_ ?_ | with_reducible refine Mem.zset ?_ | (with_reducible refine Mem.cset ?_ ?_; rotate_left; focus (first | (simp; done) | (simp; omega))) | (with_reducible refine Mem.balloc ?_ ?_ _; rotate_left; focus (first | (simp; done) | (simp; omega))) | (with_reducible refine Mem.bset ?_ ?_ _; rotate_left; focus (first | (simp; done) | (simp; omega))) | (with_reducible refine Mem.bbelow ?_ ?_ ‹_›; rotate_left; focus (first | (simp; done) | (simp; omega))))); done) | (simp [go_sem]; done) | (with_reducible refine Mem.cbelow ‹_› ?_; simp [go_sem, *]; done) | (with_reducible refine Mem.vbelow ‹_› (Mem.vof ?_); simp [go_sem]; done) | ((with_reducible refine Mem.zbelow ‹_› (Mem.vof ?_) ?_) <;> (simp [go_sem]; done)) | (simp [go_sem, *]; done)
        go_split_ands
        have hzW20 : w.heap.size < W2.heap.size := Mem.clt (a := ⟨w.heap.size, 0, none⟩) ‹_›
        have hzW21 : w.heap.size + 1 < W2.heap.size := Mem.clt (a := ⟨w.heap.size + 1, 0, none⟩) ‹_›
        clear hbb
        go_wp2_with fail
        refine Mem.gate (fun W => (W.cell? ⟨w.heap.size + 1, 0, none⟩ = some (.int .u8 ((U8.putB (U8.prsV f pos) (7 - pos) false).toNat : Int)) ∧ W.cell? ⟨w.heap.size + 1, 1, none⟩ = some (.int .u8 ((U8.putB (U8.prsT f pos) (7 - pos) false).toNat : Int))) ∧ W.cell? ⟨w.heap.size, 0, none⟩ = some (.int .u8 0) ∧ W.cell? ⟨w.heap.size, 1, none⟩ = some (.int .u8 0) ∧ W.frozen? ⟨w.heap.size, 0, none⟩ = false ∧ W.frozen? ⟨w.heap.size, 1, none⟩ = false ∧ W.frozen? ⟨w.heap.size + 1, 0, none⟩ = false ∧ W.frozen? ⟨w.heap.size + 1, 1, none⟩ = false ∧ Below w.heap.size w W) ?_ ?_
        · refine ⟨Mem.two_new rfl ?_ ?_, ?_⟩
          all_goals ((repeat' with_reducible apply And.intro) <;> first | with_reducible assumption | ((repeat (first | with_reducible assumption | with_reducible exact Below.refl _ _ | with_reducible exact Mem.vsome ‹_› | ((with_reducible refine Mem.vnew ?_ ?_) <;> first | rfl | (simp; done)) | ((with_reducible refine Mem.cnew ?_ ?_) <;> first | rfl | (simp; done)) | ((with_reducible refine Mem.znew ?_) <;> first | rfl | (simp; done)) | with_reducible refine Mem.vdrew ?_ | with_reducible refine Mem.valloc _ ?_ | with_reducible refine Mem.vbelow ‹_› ?_ | with_reducible refine Mem.vset ?_ | with_reducible refine Mem.cdrew ?_ | with_reducible refine Mem.calloc _ ?_ | with_reducible refine Mem.bdrew ?_ | with_reducible refine Mem.cbelow ‹_› ?_ | with_reducible refine Mem.zdrew ?_ | with_reducible refine Mem.zalloc _ ?_ ?_ | with_reducible refine Mem.zbelow ‹_› ?_ ?_ | with_reducible refine Mem.zset ?_ | (with_reducible refine Mem.cset ?_ ?_; rotate_left; focus (first | (simp; done) | (simp; omega))) | (with_reducible refine Mem.balloc ?_ ?_ _; rotate_left; focus (first | (simp; done) | (simp; omega))) | (with_reducible refine Mem.bset ?_ ?_ _; rotate_left; focus (first | (simp; done) | (simp; omega))) | (with_reducible refine Mem.bbelow ?_ ?_ ‹_›; rotate_left; focus (first | (simp; done) | (simp; omega))))); done) | (simp [go_sem]; done) | (with_reducible refine Mem.cbelow ‹_› ?_; simp [go_sem, *]; done) | (with_reducible refine Mem.vbelow ‹_› (Mem.vof ?_); simp [go_sem]; done) | ((with_reducible refine Mem.zbelow ‹_› (Mem.vof ?_) ?_) <;> (simp [go_sem]; done)) | (simp [go_sem, *]; done))
        rintro W3 ⟨⟨v0, v1⟩, hS4⟩
        go_roundg (gk - 1)
        case measure => exact hm
        case rel =>
          refine ⟨pos + 1, hk', rfl, hok', ?_⟩
          rw [hV, hT]
          go_split_ands
          (repeat' with_reducible apply And.intro) <;> first | with_reducible assumption | ((repeat (first | with_reducible assumption | with_reducible exact Below.refl _ _ | with_reducible exact Mem.vsome ‹_› | ((with_reducible refine Mem.vnew ?_ ?_) <;> first | rfl | (simp; done)) | ((with_reducible refine Mem.cnew ?_ ?_) <;> first | rfl | (simp; done)) | ((with_reducible refine Mem.znew ?_) <;> first | rfl | (simp; done)) | with_reducible refine Mem.vdrew ?_ | with_reducible refine Mem.valloc _ ?_ | with_reducible refine Mem.vbelow ‹_› ?_ | with_reducible refine Mem.vset ?_ | with_reducible refine Mem.cdrew ?_ | with_reducible refine Mem.calloc _ ?_ | with_reducible refine Mem.bdrew ?_ | with_reducible refine Mem.cbelow ‹_› ?_ | with_reducible refine Mem.zdrew ?_ | with_reducible refine Mem.zalloc _ ?_ ?_ | with_reducible refine Mem.zbelow ‹_› ?_ ?_ | with_reducible refine Mem.zset ?_ | (with_reducible refine Mem.cset ?_ ?_; rotate_left; focus (first | (simp; done) | (simp; omega))) | (with_reducible refine Mem.balloc ?_ ?_ _; rotate_left; focus (first | (simp; done) | (simp; omega))) | (with_reducible refine Mem.bset ?_ ?_ _; rotate_left; focus (first | (simp; done) | (simp; omega))) | (with_reducible refine Mem.bbelow ?_ ?_ ‹_›; rotate_left; focus (first | (simp; done) | (simp; omega))))); done) | (simp [go_sem]; done) | (with_reducible refine Mem.cbelow ‹_› ?_; simp [go_sem, *]; done) | (with_reducible refine Mem.vbelow ‹_› (Mem.vof ?_); simp [go_sem]; done) | ((with_reducible refine Mem.zbelow ‹_› (Mem.vof ?_) ?_) <;> (simp [go_sem]; done)) | (simp [go_sem, *]; done)
      · have hno := U8.prs_no (f := f) hp (U8.ok_none hx)
        have hn1 : (((f pos).toNat : Int) == ((U8.letter pos).toNat : Int)) = false := beq_eq_false_iff_ne.2 (U8.u8_ne hx.1)
        have hn2 : (((f pos).toNat : Int) == 63) = false := beq_eq_false_iff_ne.2 (U8.u8_63 hx.2.1)
        have hn3 : (((f pos).toNat : Int) != ((U8.letter pos + 32).toNat : Int)) = true := by simp only [bne, beq_eq_false_iff_ne.2 (U8.u8_ne hx.2.2), Bool.not_false]
        clear hok l63 m63 ml hx
        generalize f pos = x at *
        generalize U8.letter pos + 32 = M at *
        generalize U8.letter pos = L at *
        go_wp2_with fail
        go_region
        go_wp2_with fail
        go_region
        go_wp2_with fail
        refine Mem.gate (fun W => (W.cell? ⟨w.heap.size, 0, none⟩ = some (.int .u8 0) ∧ W.cell? ⟨w.heap.size, 1, none⟩ = some (.int .u8 0)) ∧ Below w.heap.size w W) ?_ ?_
        · (first | refine ⟨Mem.two_new rfl ?_ ?_, ?_⟩ | refine ⟨⟨?_, ?_⟩, ?_⟩)
          all_goals ((repeat' with_reducible apply And.intro) <;> first | with_reducible assumption | ((repeat (first | with_reducible assumption | with_reducible exact Below.refl _ _ | with_reducible exact Mem.vsome ‹_› | ((with_reducible refine Mem.vnew ?_ ?_) <;> first | rfl | (simp; done)) | ((with_reducible refine Mem.cnew ?_ ?_) <;> first | rfl | (simp; done)) | ((with_reducible refine Mem.znew ?_) <;> first | rfl | (simp; done)) | with_reducible refine Mem.vdrew ?_ | with_reducible refine Mem.valloc _ ?_ | with_reducible refine Mem.vbelow ‹_› ?_ | with_reducible refine Mem.vset ?_ | with_reducible refine Mem.cdrew ?_ | with_reducible refine Mem.calloc _ ?_ | with_reducible refine Mem.bdrew ?_ | with_reducible refine Mem.cbelow ‹_› ?_ | with_reducible refine Mem.zdrew ?_ | with_reducible refine Mem.zalloc _ ?_ ?_ | with_reducible refine Mem.zbelow ‹_› ?_ ?_ | with_reducible refine Mem.zset ?_ | (with_reducible refine Mem.cset ?_ ?_; rotate_left; focus (first | (simp; done) | (simp; omega))) | (with_reducible refine Mem.balloc ?_ ?_ _; rotate_left; focus (first | (simp; done) | (simp; omega))) | (with_reducible refine Mem.bset ?_ ?_ _; rotate_left; focus (first | (simp; done) | (simp; omega))) | (with_reducible refine Mem.bbelow ?_ ?_ ‹_›; rotate_left; focus (first | (simp; done) | (simp; omega))))); done) | (simp [go_sem]; done) | (with_reducible refine Mem.cbelow ‹_› ?_; simp [go_sem, *]; done) | (with_reducible refine Mem.vbelow ‹_› (Mem.vof ?_); simp [go_sem]; done) | ((with_reducible refine Mem.zbelow ‹_› (Mem.vof ?_) ?_) <;> (simp [go_sem]; done)) | (simp [go_sem, *]; done))
        rintro W3 ⟨⟨g0, g1⟩, hB⟩
        refine bodyPost_ret (v := .tuple #[.agg #[.int .u8 0, .int .u8 0], .bool false]) (by simp [results, Tryd.results10, go_sem, g0, g1]) rfl ⟨?_, hB⟩
        unfold U8.rprsR
        rw [if_neg (by rw [hno]; decide)]
    · obtain rfl : pos = 8 := by omega
      go_split_ands
      go_wp2_with fail
      refine Mem.gate (fun W => (W.cell? ⟨w.heap.size, 0, none⟩ = some (.int .u8 ((U8.prsV f 8).toNat : Int)) ∧ W.cell? ⟨w.heap.size, 1, none⟩ = some (.int .u8 ((U8.prsT f 8).toNat : Int))) ∧ Below w.heap.size w W) ?_ ?_
      · refine ⟨Mem.two_new rfl ?_ ?_, ?_⟩
        all_goals ((repeat' with_reducible apply And.intro) <;> first | with_reducible assumption | ((repeat (first | with_reducible assumption | with_reducible exact Below.refl _ _ | with_reducible exact Mem.vsome ‹_› | ((with_reducible refine Mem.vnew ?_ ?_) <;> first | rfl | (simp; done)) | ((with_reducible refine Mem.cnew ?_ ?_) <;> first | rfl | (simp; done)) | ((with_reducible refine Mem.znew ?_) <;> first | rfl | (simp; done)) | with_reducible refine Mem.vdrew ?_ | with_reducible refine Mem.valloc _ ?_ | with_reducible refine Mem.vbelow ‹_› ?_ | with_reducible refine Mem.vset ?_ | with_reducible refine Mem.cdrew ?_ | with_reducible refine Mem.calloc _ ?_ | with_reducible refine Mem.bdrew ?_ | with_reducible refine Mem.cbelow ‹_› ?_ | with_reducible refine Mem.zdrew ?_ | with_reducible refine Mem.zalloc _ ?_ ?_ | with_reducible refine Mem.zbelow ‹_› ?_ ?_ | with_reducible refine Mem.zset ?_ | (with_reducible refine Mem.cset ?_ ?_; rotate_left; focus (first | (simp; done) | (simp; omega))) | (with_reducible refine Mem.balloc ?_ ?_ _; rotate_left; focus (first | (simp; done) | (simp; omega))) | (with_reducible refine Mem.bset ?_ ?_ _; rotate_left; focus (first | (simp; done) | (simp; omega))) | (with_reducible refine Mem.bbelow ?_ ?_ ‹_›; rotate_left; focus (first | (simp; done) | (simp; omega))))); done) | (simp [go_sem]; done) | (with_reducible refine Mem.cbelow ‹_› ?_; simp [go_sem, *]; done) | (with_reducible refine Mem.vbelow ‹_› (Mem.vof ?_); simp [go_sem]; done) | ((with_reducible refine Mem.zbelow ‹_› (Mem.vof ?_) ?_) <;> (simp [go_sem]; done)) | (simp [go_sem, *]; done))
      rintro W3 ⟨⟨g0, g1⟩, hB⟩
      refine bodyPost_ret (v := .tuple #[.agg #[.int .u8 ((U8.prsV f 8).toNat : Int), .int .u8 ((U8.prsT f 8).toNat : Int)], .bool true]) (by simp [results, Tryd.results10, go_sem, g0, g1]) rfl ⟨?_, hB⟩
      unfold U8.rprsR
      rw [if_pos (U8.prs_yes hok)]

set_option maxHeartbeats 4000000 in
theorem rparse_len (s : ByteArray) (hs : s.size ≠ 8) (w : World) : Calls Tryd.prog 10 #[.string s] w fun e w' => e = .returned (.tuple #[.agg #[.int .u8 0, .int .u8 0], .bool false]) ∧ Below w.heap.size w w' := by
  have hz : ¬ ((s.size : Int) = 8) := by omega
  go_enter Tryd.func10, Tryd.ntmps10
  go_wp2
  refine Mem.gate (fun W => (W.cell? ⟨w.heap.size, 0, none⟩ = some (.int .u8 0) ∧ W.cell? ⟨w.heap.size, 1, none⟩ = some (.int .u8 0)) ∧ Below w.heap.size w W) ?_ ?_
  · refine ⟨⟨?_, ?_⟩, ?_⟩
    all_goals ((repeat' with_reducible apply And.intro) <;> first | with_reducible assumption | ((repeat (first | with_reducible assumption | with_reducible exact Below.refl _ _ | with_reducible exact Mem.vsome ‹_› | ((with_reducible refine Mem.vnew ?_ ?_) <;> first | rfl | (simp; done)) | ((with_reducible refine Mem.cnew ?_ ?_) <;> first | rfl | (simp; done)) | ((with_reducible refine Mem.znew ?_) <;> first | rfl | (simp; done)) | with_reducible refine Mem.vdrew ?_ | with_reducible refine Mem.valloc _ ?_ | with_reducible refine Mem.vbelow ‹_› ?_ | with_reducible refine Mem.vset ?_ | with_reducible refine Mem.cdrew ?_ | with_reducible refine Mem.calloc _ ?_ | with_reducible refine Mem.bdrew ?_ | with_reducible refine Mem.cbelow ‹_› ?_ | with_reducible refine Mem.zdrew ?_ | with_reducible refine Mem.zalloc _ ?_ ?_ | with_reducible refine Mem.zbelow ‹_› ?_ ?_ | with_reducible refine Mem.zset ?_ | (with_reducible refine Mem.cset ?_ ?_; rotate_left; focus (first | (simp; done) | (simp; omega))) | (with_reducible refine Mem.balloc ?_ ?_ _; rotate_left; focus (first | (simp; done) | (simp; omega))) | (with_reducible refine Mem.bset ?_ ?_ _; rotate_left; focus (first | (simp; done) | (simp; omega))) | (with_reducible refine Mem.bbelow ?_ ?_ ‹_›; rotate_left; focus (first | (simp; done) | (simp; omega))))); done) | (simp [go_sem]; done) | (with_reducible refine Mem.cbelow ‹_› ?_; simp [go_sem, *]; done) | (with_reducible refine Mem.vbelow ‹_› (Mem.vof ?_); simp [go_sem]; done) | ((with_reducible refine Mem.zbelow ‹_› (Mem.vof ?_) ?_) <;> (simp [go_sem]; done)) | (simp [go_sem, *]; done))
  rintro W3 ⟨⟨g0, g1⟩, hB⟩
  refine bodyPost_ret (v := .tuple #[.agg #[.int .u8 0, .int .u8 0], .bool false]) (by simp [results, Tryd.results10, go_sem, g0, g1]) rfl ⟨rfl, ?_⟩
  exact hB
end Go.Proofs.YtodfgcbgiaboiaaDoor
