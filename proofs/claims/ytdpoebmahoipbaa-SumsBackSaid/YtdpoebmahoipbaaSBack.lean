/-
  Walks: what sums.Add and sums.Sub return of bytes without secrets.
-/
-- KEEP3
import Derived.Test.YtdpoebmahoipbaaSHelp
import Derived.Test.YtdpoebmahoipbaaSLaw3
namespace Go.Proofs.Ytdpoebmahoipbaa
open Go Go.RowKit

theorem of_u8 (v : BitVec 8) (w : World) : Calls Try.prog 17 #[.int .i64 (v.toNat : Int)] w fun e w' => e = .returned (.agg #[.int .u8 (v.toNat : Int), .int .u8 0]) ∧ Below w.heap.size w w' := by
  have h := of_any (v.toNat : Int) w
  rw [show (v.toNat : Int) % 256 = (v.toNat : Int) from by have := v.isLt; omega] at h
  exact h
theorem addb_any {v u A : BitVec 8} {b n y z c : Bool} (h : U8.addS v 0#8 u 0#8 b false false false = ⟨A, 0#8, n, false, y, false, z, false, c, false⟩) (w : World) : Calls Try.prog 12 #[.agg #[.int .u8 (v.toNat : Int), .int .u8 0], .agg #[.int .u8 (u.toNat : Int), .int .u8 0], .agg #[.bool b, .bool false], .agg #[.bool false, .bool false]] w fun e w' =>
    e = .returned (.agg #[.int .u8 (A.toNat : Int), .int .u8 0, .bool n, .bool false, .bool y, .bool false, .bool z, .bool false, .bool c, .bool false]) ∧ Below w.heap.size w w' := by
  have g := add_any v 0#8 u 0#8 b false false false w
  rw [h] at g
  exact g
theorem subb_any {v u A : BitVec 8} {b n2 y2 z2 c2 : Bool} (h : U8.subS A 0#8 u 0#8 b false false false = ⟨v, 0#8, n2, false, y2, false, z2, false, c2, false⟩) (w : World) : Calls Try.prog 15 #[.agg #[.int .u8 (A.toNat : Int), .int .u8 0], .agg #[.int .u8 (u.toNat : Int), .int .u8 0], .agg #[.bool b, .bool false], .agg #[.bool false, .bool false]] w fun e w' =>
    e = .returned (.agg #[.int .u8 (v.toNat : Int), .int .u8 0, .bool n2, .bool false, .bool y2, .bool false, .bool z2, .bool false, .bool c2, .bool false]) ∧ Below w.heap.size w w' := by
  have g := sub_any A 0#8 u 0#8 b false false false w
  rw [h] at g
  exact g

end Go.Proofs.Ytdpoebmahoipbaa
