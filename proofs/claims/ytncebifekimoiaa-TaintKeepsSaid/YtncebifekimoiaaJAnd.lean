/-
  Walks: what taint.And (or Or, or Xor) returns, whatever the bytes.
-/
import Derived.Test.YtncebifekimoiaaProg
import Derived.Test.YtncebifekimoiaaMem
import Derived.Test.YtncebifekimoiaaU8
import Derived.WalkLawsBesides
import Derived.Deep.RegionHeld3
namespace Go.Proofs.Ytncebifekimoiaa
open Go Go.RowKit

set_option maxHeartbeats 400000 in
theorem and1 (x y : Int) (w : World) :
    Calls Try.prog 39 #[.int .u8 x, .int .u8 y] w fun e w' => e = .returned (.int .u8 (bits .and .u8 x y)) ∧ w = w' := by
  go_enter Try.func39, Try.ntmps39
  go_wp2
  go_ret
  exact ⟨rfl, rfl⟩

set_option maxHeartbeats 800000 in
theorem and_counts (xv xt yv yt : Int) (p : Addr) (w : World) (hp : w.cell? p = some (.func (.func 39) #[] #[])) :
    Calls Try.prog 46 #[.agg #[.int .u8 xv, .int .u8 xt], .agg #[.int .u8 yv, .int .u8 yt], .pointer (some p)] w fun e w' =>
      e = .returned (.int .u8 (bits .and .u8 xt (bits .or .u8 yt (bits .xor .u8 (bits .and .u8 0 yv) (bits .and .u8 255 yv))))) ∧ Below w.heap.size w w' := by
  go_enter Try.func46, Try.ntmps46
  go_wp2
  go_region_held3 (fun w' => w'.cell? p = some (.func (.func 39) #[] #[]) ∧ w'.cell? ⟨w.heap.size, 1, none⟩ = some (.int .u8 xt) ∧ w'.cell? ⟨w.heap.size + 1, 0, none⟩ = some (.int .u8 yv) ∧ w'.cell? ⟨w.heap.size + 1, 1, none⟩ = some (.int .u8 yt) ∧ Below w.heap.size w w') ((go_split_ands; (repeat' with_reducible apply And.intro) <;> first | with_reducible assumption | (simp [go_sem]; done) | (with_reducible refine Mem.vof ?_; simp [go_sem]; done) | (repeat (first | with_reducible assumption | with_reducible exact Below.refl _ _ | with_reducible refine Mem.vdrew ?_ | with_reducible refine Mem.valloc _ ?_ | with_reducible refine Mem.vbelow ‹_› ?_ | with_reducible refine Mem.vset ?_ | with_reducible refine Mem.cdrew ?_ | with_reducible refine Mem.calloc _ ?_ | with_reducible refine Mem.bdrew ?_ | with_reducible refine Mem.cbelow ‹_› ?_ | with_reducible refine Mem.zdrew ?_ | with_reducible refine Mem.zalloc _ ?_ ?_ | with_reducible refine Mem.zbelow ‹_› ?_ ?_ | with_reducible refine Mem.zset ?_ | (with_reducible refine Mem.cset ?_ ?_; rotate_left; focus (first | (simp; done) | (simp; omega))) | (with_reducible refine Mem.balloc ?_ ?_ _; rotate_left; focus (first | (simp; done) | (simp; omega))) | (with_reducible refine Mem.bset ?_ ?_ _; rotate_left; focus (first | (simp; done) | (simp; omega))) | (with_reducible refine Mem.bbelow ?_ ?_ ‹_›; rotate_left; focus (first | (simp; done) | (simp; omega)))))))
    (first | (go_at_call 39; refine (and1 _ _ _).mono ?_; rintro e w' ⟨rfl, rfl⟩))
  go_wp2
  go_ret
  refine ⟨rfl, ?_⟩
  go_split_ands
  assumption

set_option maxHeartbeats 800000 in
theorem and_by (v t u s : Int) (w : World) :
    Calls Try.prog 38 #[.agg #[.int .u8 v, .int .u8 t, .int .u8 u, .int .u8 s], .func (.func 39) #[] #[]] w fun e w' =>
      e = .returned (.agg #[.int .u8 (bits .and .u8 v u), .int .u8 (bits .or .u8 (bits .and .u8 t (bits .or .u8 s (bits .xor .u8 (bits .and .u8 0 u) (bits .and .u8 255 u))))
        (bits .and .u8 s (bits .or .u8 t (bits .xor .u8 (bits .and .u8 0 v) (bits .and .u8 255 v)))))]) ∧ Below w.heap.size w w' := by
  have hmf : ∀ (fn : Fn) (first cap : Array Value) (w : World), (Instr.makeFunc fn first cap).run Try.prog w = .ok (.func fn first cap) w := fun _ _ _ _ => rfl
  go_enter Try.func38, Try.ntmps38
  go_wp2
  go_region_held3 (fun w' => w'.cell? ⟨w.heap.size, 0, none⟩ = some (.int .u8 v) ∧ w'.cell? ⟨w.heap.size, 1, none⟩ = some (.int .u8 t) ∧ w'.cell? ⟨w.heap.size, 2, none⟩ = some (.int .u8 u) ∧ w'.cell? ⟨w.heap.size, 3, none⟩ = some (.int .u8 s) ∧ w'.cell? ⟨w.heap.size + 1, 0, none⟩ = some (.func (.func 39) #[] #[]) ∧
      w'.cell? ⟨w.heap.size + 1 + 1, 0, none⟩ = some (Mem.val w' ⟨w.heap.size + 1 + 1, 0, none⟩) ∧ w'.cell? ⟨w.heap.size + 1 + 1, 1, none⟩ = some (Mem.val w' ⟨w.heap.size + 1 + 1, 1, none⟩) ∧ w'.frozen? ⟨w.heap.size + 1 + 1, 0, none⟩ = false ∧ w'.frozen? ⟨w.heap.size + 1 + 1, 1, none⟩ = false ∧ Below w.heap.size w w') ((go_split_ands; (repeat' with_reducible apply And.intro) <;> first | with_reducible assumption | (simp [go_sem]; done) | (with_reducible refine Mem.vof ?_; simp [go_sem]; done) | (repeat (first | with_reducible assumption | with_reducible exact Below.refl _ _ | with_reducible refine Mem.vdrew ?_ | with_reducible refine Mem.valloc _ ?_ | with_reducible refine Mem.vbelow ‹_› ?_ | with_reducible refine Mem.vset ?_ | with_reducible refine Mem.cdrew ?_ | with_reducible refine Mem.calloc _ ?_ | with_reducible refine Mem.bdrew ?_ | with_reducible refine Mem.cbelow ‹_› ?_ | with_reducible refine Mem.zdrew ?_ | with_reducible refine Mem.zalloc _ ?_ ?_ | with_reducible refine Mem.zbelow ‹_› ?_ ?_ | with_reducible refine Mem.zset ?_ | (with_reducible refine Mem.cset ?_ ?_; rotate_left; focus (first | (simp; done) | (simp; omega))) | (with_reducible refine Mem.balloc ?_ ?_ _; rotate_left; focus (first | (simp; done) | (simp; omega))) | (with_reducible refine Mem.bset ?_ ?_ _; rotate_left; focus (first | (simp; done) | (simp; omega))) | (with_reducible refine Mem.bbelow ?_ ?_ ‹_›; rotate_left; focus (first | (simp; done) | (simp; omega)))))))
    (first | (go_at_call 39; refine (and1 _ _ _).mono ?_; rintro e w' ⟨rfl, rfl⟩) | (go_at_call 46; refine (and_counts _ _ _ _ ⟨w.heap.size + 1, 0, none⟩ _ (by go_split_ands; assumption)).mono ?_; rintro e w' ⟨rfl, hbb⟩))
  go_wp2
  go_split_ands
  obtain ⟨g0, g1⟩ := Mem.two (g := w.heap.size + 1 + 1) ‹_› ‹_›
  refine bodyPost_ret (v := .agg #[.int .u8 (bits .and .u8 v u), .int .u8 (bits .or .u8 (bits .and .u8 t (bits .or .u8 s (bits .xor .u8 (bits .and .u8 0 u) (bits .and .u8 255 u))))
        (bits .and .u8 s (bits .or .u8 t (bits .xor .u8 (bits .and .u8 0 v) (bits .and .u8 255 v)))))]) (by simp [results, Try.results38, go_sem, g0, g1]) rfl ⟨rfl, ?_⟩
  assumption

theorem and_byc (v t u s : BitVec 8) (w : World) :
    Calls Try.prog 38 #[.agg #[.int .u8 (v.toNat : Int), .int .u8 (t.toNat : Int), .int .u8 (u.toNat : Int), .int .u8 (s.toNat : Int)], .func (.func 39) #[] #[]] w fun e w' => e = .returned (.agg #[.int .u8 ((U8.andV v u).toNat : Int), .int .u8 ((U8.andT v t u s).toNat : Int)]) ∧ Below w.heap.size w w' := by
  rw [← U8.and_raw v t u s, ← U8.and_V v u]
  exact and_by _ _ _ _ _

set_option maxHeartbeats 800000 in
theorem and_any (v t u s : BitVec 8) (w : World) :
    Calls Try.prog 16 #[.agg #[.int .u8 (v.toNat : Int), .int .u8 (t.toNat : Int)], .agg #[.int .u8 (u.toNat : Int), .int .u8 (s.toNat : Int)]] w fun e w' => e = .returned (.agg #[.int .u8 ((U8.andV v u).toNat : Int), .int .u8 ((U8.andT v t u s).toNat : Int)]) ∧ Below w.heap.size w w' := by
  have hmf : ∀ (fn : Fn) (first cap : Array Value) (w : World), (Instr.makeFunc fn first cap).run Try.prog w = .ok (.func fn first cap) w := fun _ _ _ _ => rfl
  go_enter Try.func16, Try.ntmps16
  go_wp2_with fail
  refine (and_byc _ _ _ _ _).mono ?_
  rintro e w1 ⟨rfl, hbb⟩
  have hc0 : w1.cell? ⟨w.heap.size + 1 + 1, 0, none⟩ = some (.int .u8 0) := Mem.cbelow hbb (by simp [go_sem])
  have hc1 : w1.cell? ⟨w.heap.size + 1 + 1, 1, none⟩ = some (.int .u8 0) := Mem.cbelow hbb (by simp [go_sem])
  have hf0 : w1.frozen? ⟨w.heap.size + 1 + 1, 0, none⟩ = false := (hbb.frozen (by simp)).trans (by simp [go_sem])
  have hf1 : w1.frozen? ⟨w.heap.size + 1 + 1, 1, none⟩ = false := (hbb.frozen (by simp)).trans (by simp [go_sem])
  have hbw : Below w.heap.size w w1 := Mem.bbelow (Mem.balloc (Mem.balloc (Mem.balloc (Below.refl _ _) (Nat.le_refl _) _) (Nat.le_refl _) _) (Nat.le_refl _) _) (Nat.le_refl _) hbb
  clear hbb
  go_wp2
  refine bodyPost_ret (v := .agg #[.int .u8 ((U8.andV v u).toNat : Int), .int .u8 ((U8.andT v t u s).toNat : Int)]) (by simp [results, Try.results16, go_sem, hc0, hc1]) rfl ⟨rfl, ?_⟩
  exact Mem.bset (Mem.bset hbw (by simp; omega) _) (by simp; omega) _

end Go.Proofs.Ytncebifekimoiaa
