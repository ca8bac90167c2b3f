/-
  Walks: cochineallaw02.SumsFewer returns true, whatever the two bytes, the two bits, and which bits stay secret.
-/
import Derived.Test.YtdpoebmahoipbaaLSumsFewer0
import Derived.Test.YtdpoebmahoipbaaLSumsFewer1
import Derived.Test.YtdpoebmahoipbaaLSumsFewer2
import Derived.Test.YtdpoebmahoipbaaLSumsFewer3
namespace Go.Proofs.Ytdpoebmahoipbaa
open Go Go.RowKit

theorem lfewS (va ta vb tb : BitVec 8) (b s d e0 : Bool) (i j k m : BitVec 8) (w : World) : Calls Try.prog 8 #[.agg #[.int .u8 (va.toNat : Int), .int .u8 (ta.toNat : Int), .int .u8 (vb.toNat : Int), .int .u8 (tb.toNat : Int), .bool b, .bool s, .bool d, .bool e0, .int .u8 (i.toNat : Int), .int .u8 (j.toNat : Int), .int .u8 (k.toNat : Int), .int .u8 (m.toNat : Int)]] w fun e w' =>
    e = .returned (.bool true) ∧ Below w.heap.size w w' := by
  cases s <;> cases e0
  · exact lfew_0 va ta vb tb b d i j k m w
  · exact lfew_1 va ta vb tb b d i j k m w
  · exact lfew_2 va ta vb tb b d i j k m w
  · exact lfew_3 va ta vb tb b d i j k m w
end Go.Proofs.Ytdpoebmahoipbaa
