/-
  Walks: flags.Parse and the document's Parse of any text: a register, or none.
-/
import Derived.Test.YtodfgcbgiaboiaaDoorParse
import Derived.Test.YtodfgcbgiaboiaaDoorParseL
namespace Go.Proofs.YtodfgcbgiaboiaaDoor
open Go Go.RowKit
theorem parse_yes (s : ByteArray) (hs : s.size = 8) (h : U8.prsOk (U8.byAt s) = true) (w : World) : Calls Tryd.prog 9 #[.string s] w fun e w' => e = .returned (.tuple #[.agg #[.int .u8 ((U8.prsV (U8.byAt s) 8).toNat : Int), .int .u8 ((U8.prsT (U8.byAt s) 8).toNat : Int)], .int .i64 0]) ∧ Below w.heap.size w w' := by
  have k := parse_8 s hs (U8.byAt s) (fun _ _ => rfl) w
  unfold U8.prsR at k
  rw [if_pos h] at k
  exact k
theorem parse_no (s : ByteArray) (h : s.size ≠ 8 ∨ U8.prsOk (U8.byAt s) = false) (w : World) : Calls Tryd.prog 9 #[.string s] w fun e w' => e = .returned (.tuple #[.agg #[.int .u8 0, .int .u8 0], .int .i64 11]) ∧ Below w.heap.size w w' := by
  by_cases hs : s.size = 8
  · have k := parse_8 s hs (U8.byAt s) (fun _ _ => rfl) w
    unfold U8.prsR at k
    rw [if_neg (by rw [h.resolve_left (fun e => e hs)]; decide)] at k
    exact k
  · exact parse_len s hs w
end Go.Proofs.YtodfgcbgiaboiaaDoor
