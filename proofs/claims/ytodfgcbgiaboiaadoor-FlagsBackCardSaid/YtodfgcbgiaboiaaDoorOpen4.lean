/-
  Opening arguments, more: a byte, a bool, two bits; two bytes, two bits and four bytes.
-/
import Derived.Test.YtodfgcbgiaboiaaDoorOpen
namespace Go.Proofs.YtodfgcbgiaboiaaDoor
open Go.ChangeShapes Go.WideShapes Go.ChangeAt Go.RowKit
namespace Open
section
variable {H : Type} {enc : TypeId × Value → H} {W : World} {base : Nat} {spare : Nat → Bool} {held : Bool}
theorem u8 {v : Value} {d : DataW H} {p : List MemPlace} {r : Reach} {b0 : Nat} (hv : Value.okWide Tryd.prog W r b0 5 v) (h : DataW.Trod enc Tryd.prog W base spare held 5 v d p) : ∃ x : BitVec 8, v = .int .u8 (x.toNat : Int) := by
  obtain ⟨x, rfl, -, -, wx⟩ := open_int Tryd.underlying5 hv h
  obtain ⟨b, rfl⟩ := U8.of_ wx
  exact ⟨b, rfl⟩
theorem bool {v : Value} {d : DataW H} {p : List MemPlace} {r : Reach} {b0 : Nat} (hv : Value.okWide Tryd.prog W r b0 4 v) (h : DataW.Trod enc Tryd.prog W base spare held 4 v d p) : ∃ x : Bool, v = .bool x := by
  obtain ⟨x, rfl, -⟩ := open_bool Tryd.underlying4 hv h
  exact ⟨x, rfl⟩
end
end Open
end Go.Proofs.YtodfgcbgiaboiaaDoor
