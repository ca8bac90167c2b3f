/-
  Walks: cochineallaw02.SumsBack returns true, whatever the two bytes and the bit.
-/
import Derived.Test.YtdpoebmahoipbaaLSumsBackA
import Derived.Test.YtdpoebmahoipbaaLSumsBackB
import Derived.Test.YtdpoebmahoipbaaLSumsBackC
import Derived.Test.YtdpoebmahoipbaaLSumsBackD
namespace Go.Proofs.Ytdpoebmahoipbaa
open Go Go.RowKit

theorem lback (v u : BitVec 8) (b : Bool) (w : World) : Calls Try.prog 5 #[.int .u8 (v.toNat : Int), .int .u8 (u.toNat : Int), .bool b] w fun e w' =>
    e = .returned (.bool true) ∧ Below w.heap.size w w' := by
  obtain ⟨A, n, y, z, c, h1, h2, h3, h4, hA, h5⟩ := U8.back_add v u b
  obtain ⟨n2, y2, z2, c2, h6⟩ := U8.back_sub v u b
  rw [hA] at h6
  cases b
  · rw [show U8.oneI false = 0 from rfl, Int.add_zero] at h5
    rcases h5 with ⟨rfl, h5⟩ | ⟨rfl, h5⟩
    · exact lback_ft v u A n y z n2 y2 z2 c2 (Mem.hide h1) (Mem.hide h2) (Mem.hide h3) (Mem.hide h4) (Mem.hide h5) (Mem.hide h6) w
    · exact lback_ff v u A n y z n2 y2 z2 c2 (Mem.hide h1) (Mem.hide h2) (Mem.hide h3) (Mem.hide h4) (Mem.hide h5) (Mem.hide h6) w
  · rcases h5 with ⟨rfl, h5⟩ | ⟨rfl, h5⟩
    · exact lback_tt v u A n y z n2 y2 z2 c2 (Mem.hide h1) (Mem.hide h2) (Mem.hide h3) (Mem.hide h4) (Mem.hide h5) (Mem.hide h6) w
    · exact lback_tf v u A n y z n2 y2 z2 c2 (Mem.hide h1) (Mem.hide h2) (Mem.hide h3) (Mem.hide h4) (Mem.hide h5) (Mem.hide h6) w
end Go.Proofs.Ytdpoebmahoipbaa
