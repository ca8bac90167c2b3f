/-
  Walks: cochineallaw01.TaintFewer returns true, whatever the two bytes, and which bits stay secret.
-/
import Derived.Test.YtncebifekimoiaaLFewer0
import Derived.Test.YtncebifekimoiaaLFewer1
import Derived.Test.YtncebifekimoiaaLFewer2
import Derived.Test.YtncebifekimoiaaLFewer3
import Derived.Test.YtncebifekimoiaaLFewer4
import Derived.Test.YtncebifekimoiaaLFewer5
import Derived.Test.YtncebifekimoiaaLFewer6
import Derived.Test.YtncebifekimoiaaLFewer7
namespace Go.Proofs.Ytncebifekimoiaa
open Go Go.RowKit

theorem lfewer (v t u s x y z : BitVec 8) (w : World) : Calls Try.prog 10 #[.agg #[.int .u8 (v.toNat : Int), .int .u8 (t.toNat : Int)], .agg #[.int .u8 (u.toNat : Int), .int .u8 (s.toNat : Int)], .agg #[.int .u8 (x.toNat : Int), .int .u8 (y.toNat : Int), .int .u8 (z.toNat : Int)]] w fun e w' =>
    e = .returned (.bool true) ∧ Below w.heap.size w w' := by
  have lt := Mem.hide (U8.sub_and t x)
  have ls := Mem.hide (U8.sub_and s y)
  have F7 : U8.bitB (fewT s y) 7 = false ∨ (U8.bitB (fewT s y) 7 = true ∧ U8.bitB s 7 = true) := by
    cases h : U8.bitB (fewT s y) 7
    · exact .inl rfl
    · exact .inr ⟨rfl, ls.out 7 (by decide) h⟩
  have F0 : U8.bitB (fewT s y) 0 = false ∨ (U8.bitB (fewT s y) 0 = true ∧ U8.bitB s 0 = true) := by
    cases h : U8.bitB (fewT s y) 0
    · exact .inl rfl
    · exact .inr ⟨rfl, ls.out 0 (by decide) h⟩
  have FZ : U8.zeroT v (fewT t x) = false ∨ (U8.zeroT v (fewT t x) = true ∧ U8.zeroT v t = true) := by
    cases h : U8.zeroT v (fewT t x)
    · exact .inl rfl
    · exact .inr ⟨rfl, U8.few_zero lt.out h⟩
  rcases F7 with g7 | ⟨g7, k7⟩ <;> rcases F0 with g0 | ⟨g0, k0⟩ <;> rcases FZ with gz | ⟨gz, kz⟩
  · exact lfewer_0 v t u s x y z (Mem.hide g7) (Mem.hide g0) (Mem.hide gz) w
  · exact lfewer_1 v t u s x y z (Mem.hide g7) (Mem.hide g0) (Mem.hide gz) (Mem.hide kz) w
  · exact lfewer_2 v t u s x y z (Mem.hide g7) (Mem.hide g0) (Mem.hide k0) (Mem.hide gz) w
  · exact lfewer_3 v t u s x y z (Mem.hide g7) (Mem.hide g0) (Mem.hide k0) (Mem.hide gz) (Mem.hide kz) w
  · exact lfewer_4 v t u s x y z (Mem.hide g7) (Mem.hide k7) (Mem.hide g0) (Mem.hide gz) w
  · exact lfewer_5 v t u s x y z (Mem.hide g7) (Mem.hide k7) (Mem.hide g0) (Mem.hide gz) (Mem.hide kz) w
  · exact lfewer_6 v t u s x y z (Mem.hide g7) (Mem.hide k7) (Mem.hide g0) (Mem.hide k0) (Mem.hide gz) w
  · exact lfewer_7 v t u s x y z (Mem.hide g7) (Mem.hide k7) (Mem.hide g0) (Mem.hide k0) (Mem.hide gz) (Mem.hide kz) w
end Go.Proofs.Ytncebifekimoiaa
