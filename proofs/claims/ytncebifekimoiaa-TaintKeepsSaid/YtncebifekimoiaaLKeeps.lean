/-
  Walks: cochineallaw01.TaintKeeps returns true, whatever the two bytes, and by what their secrets are turned.
-/
import Derived.Test.YtncebifekimoiaaLKeeps0
import Derived.Test.YtncebifekimoiaaLKeeps1
import Derived.Test.YtncebifekimoiaaLKeeps2
import Derived.Test.YtncebifekimoiaaLKeeps3
namespace Go.Proofs.Ytncebifekimoiaa
open Go Go.RowKit

theorem lkeeps (v t u s x y z : BitVec 8) (w : World) : Calls Try.prog 9 #[.agg #[.int .u8 (v.toNat : Int), .int .u8 (t.toNat : Int)], .agg #[.int .u8 (u.toNat : Int), .int .u8 (s.toNat : Int)], .agg #[.int .u8 (x.toNat : Int), .int .u8 (y.toNat : Int), .int .u8 (z.toNat : Int)]] w fun e w' =>
    e = .returned (.bool true) ∧ Below w.heap.size w w' := by
  have lv := Mem.hide (U8.oth_like v t x)
  have H7 := Mem.hide (lv.out 7 (by decide))
  have H0 := Mem.hide (lv.out 0 (by decide))
  have F7 : U8.bitB t 7 = true ∨ (U8.bitB t 7 = false ∧ U8.bitB (U8.othV v t x) 7 = U8.bitB v 7) := by
    cases h : U8.bitB t 7
    · exact .inr ⟨rfl, ((H7.out.resolve_left (by rw [h]; simp))).symm⟩
    · exact .inl rfl
  have F0 : U8.bitB t 0 = true ∨ (U8.bitB t 0 = false ∧ U8.bitB (U8.othV v t x) 0 = U8.bitB v 0) := by
    cases h : U8.bitB t 0
    · exact .inr ⟨rfl, ((H0.out.resolve_left (by rw [h]; simp))).symm⟩
    · exact .inl rfl
  rcases F7 with g7 | ⟨g7, k7⟩ <;> rcases F0 with g0 | ⟨g0, k0⟩
  · exact lkeeps_0 v t u s x y z (Mem.hide g7) (Mem.hide g0) w
  · exact lkeeps_1 v t u s x y z (Mem.hide g7) (Mem.hide g0) (Mem.hide k0) w
  · exact lkeeps_2 v t u s x y z (Mem.hide g7) (Mem.hide k7) (Mem.hide g0) w
  · exact lkeeps_3 v t u s x y z (Mem.hide g7) (Mem.hide k7) (Mem.hide g0) (Mem.hide k0) w
end Go.Proofs.Ytncebifekimoiaa
