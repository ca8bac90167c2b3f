/-
  Walks: what the functions of package taint return, whatever the bytes (Same, Of, And, Or, Xor, Zero, Erase).
-/
import Derived.Test.YtodfgcbgiaboiaaDoorProg
import Derived.Test.YtodfgcbgiaboiaaDoorMem
import Derived.Test.YtodfgcbgiaboiaaDoorU8
import Derived.WalkLawsBesides
import Derived.Deep.RegionHeld3
namespace Go.Proofs.YtodfgcbgiaboiaaDoor
open Go Go.RowKit

set_option maxHeartbeats 400000 in
theorem same_any (v t u s : BitVec 8) (w : World) :
    Calls Tryd.prog 13 #[.agg #[.int .u8 (v.toNat : Int), .int .u8 (t.toNat : Int)], .agg #[.int .u8 (u.toNat : Int), .int .u8 (s.toNat : Int)]] w fun e w' => e = .returned (.bool (U8.sameB v t u s)) ∧ Below w.heap.size w w' := by
  by_cases h : (t.toNat : Int) = (s.toNat : Int)
  · rw [← U8.same_yes h, U8.ieq_.1 h]
    clear h
    go_enter Tryd.func13, Tryd.ntmps13
    go_wp2
    go_ret
    exact ⟨rfl, Mem.balloc (Mem.balloc (Below.refl _ _) (Nat.le_refl _) _) (Nat.le_refl _) _⟩
  · rw [U8.same_no h]
    have hb : ((t.toNat : Int) == (s.toNat : Int)) = false := by simpa using h
    go_enter Tryd.func13, Tryd.ntmps13
    go_wp2
    go_ret
    exact ⟨rfl, Mem.balloc (Mem.balloc (Below.refl _ _) (Nat.le_refl _) _) (Nat.le_refl _) _⟩

set_option maxHeartbeats 400000 in
theorem of_any (x : Int) (w : World) :
    Calls Tryd.prog 19 #[.int .i64 x] w fun e w' => e = .returned (.agg #[.int .u8 (x % 256), .int .u8 0]) ∧ Below w.heap.size w w' := by
  go_enter Tryd.func19, Tryd.ntmps19
  go_wp2
  refine bodyPost_ret (v := .agg #[.int .u8 (x % 256), .int .u8 0]) (by simp [results, Tryd.results19, go_sem]) rfl ⟨rfl, ?_⟩
  exact Mem.balloc (Below.refl _ _) (Nat.le_refl _) _

set_option maxHeartbeats 400000 in
theorem zero_any (v t : BitVec 8) (w : World) :
    Calls Tryd.prog 28 #[.agg #[.int .u8 (v.toNat : Int), .int .u8 (t.toNat : Int)]] w fun e w' => e = .returned (.agg #[.bool (U8.zeroV v), .bool (U8.zeroT v t)]) ∧ Below w.heap.size w w' := by
  rw [← U8.zero_v]
  by_cases h : (t.toNat : Int) = 0
  · rw [← U8.zero_n v t h, h]
    clear h
    go_enter Tryd.func28, Tryd.ntmps28
    go_wp2
    refine bodyPost_ret (v := .agg #[.bool ((v.toNat : Int) == 0), .bool false]) (by simp [results, Tryd.results28, go_sem]) rfl ⟨rfl, ?_⟩
    exact Mem.balloc (Mem.balloc (Below.refl _ _) (Nat.le_refl _) _) (Nat.le_refl _) _
  · rw [← U8.zero_t v t h]
    go_enter Tryd.func28, Tryd.ntmps28
    go_wp2
    refine bodyPost_ret (v := .agg #[.bool ((v.toNat : Int) == 0), .bool (((t.toNat : Int) != 0) && (bits .andNot .u8 (v.toNat : Int) (t.toNat : Int) == 0))]) (by simp [results, Tryd.results28, go_sem]) rfl ⟨rfl, ?_⟩
    exact Mem.balloc (Mem.balloc (Below.refl _ _) (Nat.le_refl _) _) (Nat.le_refl _) _

end Go.Proofs.YtodfgcbgiaboiaaDoor
