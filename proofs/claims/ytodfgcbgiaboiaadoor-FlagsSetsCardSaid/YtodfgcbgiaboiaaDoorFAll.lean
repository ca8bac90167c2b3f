/-
  Walks: flags.Get, Set, and the document's Bit, Put, at whatever place: one contract each.
-/
import Derived.Test.YtodfgcbgiaboiaaDoorFHelp
import Derived.Test.YtodfgcbgiaboiaaDoorRPutO
namespace Go.Proofs.YtodfgcbgiaboiaaDoor
open Go Go.RowKit

namespace U8
def setV (v : BitVec 8) (i : Int) (b : Bool) : BitVec 8 := if 0 ≤ i ∧ i < 8 then putB v i.toNat b else v
def getV (v : BitVec 8) (i : Int) : Bool := if 0 ≤ i ∧ i < 8 then bitB v i.toNat else false
theorem setV_in (v : BitVec 8) {n : Nat} (hn : n < 8) (b : Bool) : setV v (n : Int) b = putB v n b := by unfold setV; rw [if_pos ⟨by omega, by omega⟩]; rfl
theorem setV_out (v : BitVec 8) {i : Int} (h : i < 0 ∨ 7 < i) (b : Bool) : setV v i b = v := by unfold setV; rw [if_neg (by omega)]
theorem getV_in (v : BitVec 8) {n : Nat} (hn : n < 8) : getV v (n : Int) = bitB v n := by unfold getV; rw [if_pos ⟨by omega, by omega⟩]; rfl
theorem getV_out (v : BitVec 8) {i : Int} (h : i < 0 ∨ 7 < i) : getV v i = false := by unfold getV; rw [if_neg (by omega)]
theorem place_ways (i : Int) : (∃ n : Nat, n < 8 ∧ i = (n : Int)) ∨ (i < 0 ∨ 7 < i) := by
  by_cases h : 0 ≤ i ∧ i < 8
  · exact .inl ⟨i.toNat, by omega, by omega⟩
  · exact .inr (by omega)
end U8
theorem set_all (v t : BitVec 8) (i : Int) (b s : Bool) (w : World) : Calls Tryd.prog 18 #[.agg #[.int .u8 (v.toNat : Int), .int .u8 (t.toNat : Int)], .int .i64 i, .agg #[.bool b, .bool s]] w fun e w' => e = .returned (.agg #[.int .u8 ((U8.setV v i b).toNat : Int), .int .u8 ((U8.setV t i s).toNat : Int)]) ∧ Below w.heap.size w w' := by
  rcases U8.place_ways i with ⟨n, hn, rfl⟩ | h
  · rw [U8.setV_in v hn, U8.setV_in t hn]; exact set_any v t n hn b s w
  · rw [U8.setV_out v h, U8.setV_out t h]; exact set_out v t i h b s w
theorem get_all (v t : BitVec 8) (i : Int) (w : World) : Calls Tryd.prog 16 #[.agg #[.int .u8 (v.toNat : Int), .int .u8 (t.toNat : Int)], .int .i64 i] w fun e w' => e = .returned (.agg #[.bool (U8.getV v i), .bool (U8.getV t i)]) ∧ Below w.heap.size w w' := by
  rcases U8.place_ways i with ⟨n, hn, rfl⟩ | h
  · rw [U8.getV_in v hn, U8.getV_in t hn]; exact get_any v t n hn w
  · rw [U8.getV_out v h, U8.getV_out t h]; exact get_out v t i h w
theorem rput_all (v t : BitVec 8) (i : Int) (b s : Bool) (w : World) : Calls Tryd.prog 21 #[.agg #[.int .u8 (v.toNat : Int), .int .u8 (t.toNat : Int)], .int .i64 i, .agg #[.bool b, .bool s]] w fun e w' => e = .returned (.agg #[.int .u8 ((U8.setV v i b).toNat : Int), .int .u8 ((U8.setV t i s).toNat : Int)]) ∧ Below w.heap.size w w' := by
  rcases U8.place_ways i with ⟨n, hn, rfl⟩ | h
  · rw [U8.setV_in v hn, U8.setV_in t hn]; exact rput_any v t n hn b s w
  · rw [U8.setV_out v h, U8.setV_out t h]; exact rput_out v t i h b s w
theorem rbit_all (v t : BitVec 8) (i : Int) (w : World) : Calls Tryd.prog 20 #[.agg #[.int .u8 (v.toNat : Int), .int .u8 (t.toNat : Int)], .int .i64 i] w fun e w' => e = .returned (.agg #[.bool (U8.getV v i), .bool (U8.getV t i)]) ∧ Below w.heap.size w w' := by
  rcases U8.place_ways i with ⟨n, hn, rfl⟩ | h
  · rw [U8.getV_in v hn, U8.getV_in t hn]; exact rbit_any v t n hn w
  · rw [U8.getV_out v h, U8.getV_out t h]; exact rbit_out v t i h w
end Go.Proofs.YtodfgcbgiaboiaaDoor
