/-
  Walks: cochineallaw01.TaintJoins returns true, whatever the two bytes.
-/
import Derived.Test.YtncebifekimoiaaAwake
import Derived.Test.YtncebifekimoiaaJOr
import Derived.Test.YtncebifekimoiaaJXor
import Derived.Test.YtncebifekimoiaaBAnd
import Derived.Test.YtncebifekimoiaaBOr
import Derived.Test.YtncebifekimoiaaBXor
namespace Go.Proofs.Ytncebifekimoiaa
open Go Go.RowKit

set_option maxHeartbeats 4000000 in
theorem ljoins (v t u s : BitVec 8) (w : World) : Calls Try.prog 4 #[.agg #[.int .u8 (v.toNat : Int), .int .u8 (t.toNat : Int)], .agg #[.int .u8 (u.toNat : Int), .int .u8 (s.toNat : Int)]] w fun e w' =>
    e = .returned (.bool true) ∧ Below w.heap.size w w' := by
  go_enter Try.func4, Try.ntmps4
  go_wp2_with fail
  refine (both_and _ _ _ _ _).mono ?_
  rintro e w1 ⟨rfl, h1⟩
  have hS : w1.cell? ⟨w.heap.size, 0, none⟩ = some (.int .u8 (v.toNat : Int)) ∧ w1.cell? ⟨w.heap.size, 1, none⟩ = some (.int .u8 (t.toNat : Int)) ∧ w1.cell? ⟨w.heap.size + 1, 0, none⟩ = some (.int .u8 (u.toNat : Int)) ∧ w1.cell? ⟨w.heap.size + 1, 1, none⟩ = some (.int .u8 (s.toNat : Int)) ∧ Below w.heap.size w w1 := by
    (repeat' with_reducible apply And.intro) <;> first | with_reducible assumption | (with_reducible refine Mem.cbelow ‹_› ?_; simp [go_sem]; done) | (with_reducible refine Mem.cbelow ‹_› ?_; simp [go_sem, *]; done) | (repeat (first | with_reducible assumption | with_reducible exact Below.refl _ _ | with_reducible refine Mem.vdrew ?_ | with_reducible refine Mem.valloc _ ?_ | with_reducible refine Mem.vbelow ‹_› ?_ | with_reducible refine Mem.vset ?_ | with_reducible refine Mem.cdrew ?_ | with_reducible refine Mem.calloc _ ?_ | with_reducible refine Mem.bdrew ?_ | with_reducible refine Mem.cbelow ‹_› ?_ | with_reducible refine Mem.zdrew ?_ | with_reducible refine Mem.zalloc _ ?_ ?_ | with_reducible refine Mem.zbelow ‹_› ?_ ?_ | with_reducible refine Mem.zset ?_ | (with_reducible refine Mem.cset ?_ ?_; rotate_left; focus (first | (simp; done) | (simp; omega))) | (with_reducible refine Mem.balloc ?_ ?_ _; rotate_left; focus (first | (simp; done) | (simp; omega))) | (with_reducible refine Mem.bset ?_ ?_ _; rotate_left; focus (first | (simp; done) | (simp; omega))) | (with_reducible refine Mem.bbelow ?_ ?_ ‹_›; rotate_left; focus (first | (simp; done) | (simp; omega)))))
  go_split_ands
  have hzw10 : w.heap.size < w1.heap.size := Mem.clt (a := ⟨w.heap.size, 0, none⟩) ‹_›
  have hzw11 : w.heap.size + 1 < w1.heap.size := Mem.clt (a := ⟨w.heap.size + 1, 0, none⟩) ‹_›
  clear h1
  go_wp2_with fail
  refine (both_or _ _ _ _ _).mono ?_
  rintro e w2 ⟨rfl, h2⟩
  have hS : w2.cell? ⟨w.heap.size, 0, none⟩ = some (.int .u8 (v.toNat : Int)) ∧ w2.cell? ⟨w.heap.size, 1, none⟩ = some (.int .u8 (t.toNat : Int)) ∧ w2.cell? ⟨w.heap.size + 1, 0, none⟩ = some (.int .u8 (u.toNat : Int)) ∧ w2.cell? ⟨w.heap.size + 1, 1, none⟩ = some (.int .u8 (s.toNat : Int)) ∧ w2.cell? ⟨w1.heap.size, 0, none⟩ = some (.int .u8 ((U8.andV v u).toNat : Int)) ∧ w2.cell? ⟨w1.heap.size, 1, none⟩ = some (.int .u8 ((U8.andT v t u s).toNat : Int)) ∧ Below w.heap.size w w2 := by
    (repeat' with_reducible apply And.intro) <;> first | with_reducible assumption | (with_reducible refine Mem.cbelow ‹_› ?_; simp [go_sem]; done) | (with_reducible refine Mem.cbelow ‹_› ?_; simp [go_sem, *]; done) | (repeat (first | with_reducible assumption | with_reducible exact Below.refl _ _ | with_reducible refine Mem.vdrew ?_ | with_reducible refine Mem.valloc _ ?_ | with_reducible refine Mem.vbelow ‹_› ?_ | with_reducible refine Mem.vset ?_ | with_reducible refine Mem.cdrew ?_ | with_reducible refine Mem.calloc _ ?_ | with_reducible refine Mem.bdrew ?_ | with_reducible refine Mem.cbelow ‹_› ?_ | with_reducible refine Mem.zdrew ?_ | with_reducible refine Mem.zalloc _ ?_ ?_ | with_reducible refine Mem.zbelow ‹_› ?_ ?_ | with_reducible refine Mem.zset ?_ | (with_reducible refine Mem.cset ?_ ?_; rotate_left; focus (first | (simp; done) | (simp; omega))) | (with_reducible refine Mem.balloc ?_ ?_ _; rotate_left; focus (first | (simp; done) | (simp; omega))) | (with_reducible refine Mem.bset ?_ ?_ _; rotate_left; focus (first | (simp; done) | (simp; omega))) | (with_reducible refine Mem.bbelow ?_ ?_ ‹_›; rotate_left; focus (first | (simp; done) | (simp; omega)))))
  go_split_ands
  have hzw20 : w.heap.size < w2.heap.size := Mem.clt (a := ⟨w.heap.size, 0, none⟩) ‹_›
  have hzw21 : w.heap.size + 1 < w2.heap.size := Mem.clt (a := ⟨w.heap.size + 1, 0, none⟩) ‹_›
  have hzw22 : w1.heap.size < w2.heap.size := Mem.clt (a := ⟨w1.heap.size, 0, none⟩) ‹_›
  clear h2
  go_wp2_with fail
  refine (both_xor _ _ _ _ _).mono ?_
  rintro e w3 ⟨rfl, h3⟩
  have hS : w3.cell? ⟨w.heap.size, 0, none⟩ = some (.int .u8 (v.toNat : Int)) ∧ w3.cell? ⟨w.heap.size, 1, none⟩ = some (.int .u8 (t.toNat : Int)) ∧ w3.cell? ⟨w.heap.size + 1, 0, none⟩ = some (.int .u8 (u.toNat : Int)) ∧ w3.cell? ⟨w.heap.size + 1, 1, none⟩ = some (.int .u8 (s.toNat : Int)) ∧ w3.cell? ⟨w1.heap.size, 0, none⟩ = some (.int .u8 ((U8.andV v u).toNat : Int)) ∧ w3.cell? ⟨w1.heap.size, 1, none⟩ = some (.int .u8 ((U8.andT v t u s).toNat : Int)) ∧ w3.cell? ⟨w2.heap.size, 0, none⟩ = some (.int .u8 ((U8.orV v u).toNat : Int)) ∧ w3.cell? ⟨w2.heap.size, 1, none⟩ = some (.int .u8 ((U8.orT v t u s).toNat : Int)) ∧ Below w.heap.size w w3 := by
    (repeat' with_reducible apply And.intro) <;> first | with_reducible assumption | (with_reducible refine Mem.cbelow ‹_› ?_; simp [go_sem]; done) | (with_reducible refine Mem.cbelow ‹_› ?_; simp [go_sem, *]; done) | (repeat (first | with_reducible assumption | with_reducible exact Below.refl _ _ | with_reducible refine Mem.vdrew ?_ | with_reducible refine Mem.valloc _ ?_ | with_reducible refine Mem.vbelow ‹_› ?_ | with_reducible refine Mem.vset ?_ | with_reducible refine Mem.cdrew ?_ | with_reducible refine Mem.calloc _ ?_ | with_reducible refine Mem.bdrew ?_ | with_reducible refine Mem.cbelow ‹_› ?_ | with_reducible refine Mem.zdrew ?_ | with_reducible refine Mem.zalloc _ ?_ ?_ | with_reducible refine Mem.zbelow ‹_› ?_ ?_ | with_reducible refine Mem.zset ?_ | (with_reducible refine Mem.cset ?_ ?_; rotate_left; focus (first | (simp; done) | (simp; omega))) | (with_reducible refine Mem.balloc ?_ ?_ _; rotate_left; focus (first | (simp; done) | (simp; omega))) | (with_reducible refine Mem.bset ?_ ?_ _; rotate_left; focus (first | (simp; done) | (simp; omega))) | (with_reducible refine Mem.bbelow ?_ ?_ ‹_›; rotate_left; focus (first | (simp; done) | (simp; omega)))))
  go_split_ands
  have hzw30 : w.heap.size < w3.heap.size := Mem.clt (a := ⟨w.heap.size, 0, none⟩) ‹_›
  have hzw31 : w.heap.size + 1 < w3.heap.size := Mem.clt (a := ⟨w.heap.size + 1, 0, none⟩) ‹_›
  have hzw32 : w1.heap.size < w3.heap.size := Mem.clt (a := ⟨w1.heap.size, 0, none⟩) ‹_›
  have hzw33 : w2.heap.size < w3.heap.size := Mem.clt (a := ⟨w2.heap.size, 0, none⟩) ‹_›
  clear h3
  go_wp2_with fail
  go_region_held3 (fun w' => w'.cell? ⟨w.heap.size, 0, none⟩ = some (.int .u8 (v.toNat : Int)) ∧ w'.cell? ⟨w.heap.size, 1, none⟩ = some (.int .u8 (t.toNat : Int)) ∧ w'.cell? ⟨w.heap.size + 1, 0, none⟩ = some (.int .u8 (u.toNat : Int)) ∧ w'.cell? ⟨w.heap.size + 1, 1, none⟩ = some (.int .u8 (s.toNat : Int)) ∧ w'.cell? ⟨w1.heap.size, 0, none⟩ = some (.int .u8 ((U8.andV v u).toNat : Int)) ∧ w'.cell? ⟨w1.heap.size, 1, none⟩ = some (.int .u8 ((U8.andT v t u s).toNat : Int)) ∧ w'.cell? ⟨w2.heap.size, 0, none⟩ = some (.int .u8 ((U8.orV v u).toNat : Int)) ∧ w'.cell? ⟨w2.heap.size, 1, none⟩ = some (.int .u8 ((U8.orT v t u s).toNat : Int)) ∧ w'.cell? ⟨w3.heap.size, 0, none⟩ = some (.int .u8 ((U8.xorV v u).toNat : Int)) ∧ w'.cell? ⟨w3.heap.size, 1, none⟩ = some (.int .u8 ((U8.xorT t s).toNat : Int)) ∧ Below w.heap.size w w') ((go_split_ands; (repeat' with_reducible apply And.intro) <;> first | with_reducible assumption | (simp [go_sem]; done) | (with_reducible refine Mem.vof ?_; simp [go_sem]; done) | (repeat (first | with_reducible assumption | with_reducible exact Below.refl _ _ | with_reducible refine Mem.vdrew ?_ | with_reducible refine Mem.valloc _ ?_ | with_reducible refine Mem.vbelow ‹_› ?_ | with_reducible refine Mem.vset ?_ | with_reducible refine Mem.cdrew ?_ | with_reducible refine Mem.calloc _ ?_ | with_reducible refine Mem.bdrew ?_ | with_reducible refine Mem.cbelow ‹_› ?_ | with_reducible refine Mem.zdrew ?_ | with_reducible refine Mem.zalloc _ ?_ ?_ | with_reducible refine Mem.zbelow ‹_› ?_ ?_ | with_reducible refine Mem.zset ?_ | (with_reducible refine Mem.cset ?_ ?_; rotate_left; focus (first | (simp; done) | (simp; omega))) | (with_reducible refine Mem.balloc ?_ ?_ _; rotate_left; focus (first | (simp; done) | (simp; omega))) | (with_reducible refine Mem.bset ?_ ?_ _; rotate_left; focus (first | (simp; done) | (simp; omega))) | (with_reducible refine Mem.bbelow ?_ ?_ ‹_›; rotate_left; focus (first | (simp; done) | (simp; omega)))))))
    (first | (go_at_call 16; refine (and_any _ _ _ _ _).mono ?_; rintro e w' ⟨rfl, hbb⟩) | (go_at_call 17; refine (or_any _ _ _ _ _).mono ?_; rintro e w' ⟨rfl, hbb⟩) | (go_at_call 18; refine (xor_any _ _ _ _ _).mono ?_; rintro e w' ⟨rfl, hbb⟩) | (go_at_call 14; refine (awake_any _).mono ?_; rintro e w' ⟨rfl, hbb⟩))
  go_wp2
  go_split_ands
  go_ret
  exact ⟨rfl, by assumption⟩
end Go.Proofs.Ytncebifekimoiaa
