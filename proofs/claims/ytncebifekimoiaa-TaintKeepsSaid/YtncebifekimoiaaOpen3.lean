/-
  Opening arguments, more: three bytes.
-/
import Derived.Test.YtncebifekimoiaaOpen
namespace Go.Proofs.Ytncebifekimoiaa
open Go.ChangeShapes Go.WideShapes Go.ChangeAt Go.RowKit
namespace Open
section
variable {H : Type} {enc : TypeId × Value → H} {W : World} {base : Nat} {spare : Nat → Bool} {held : Bool}
theorem cellsThree : Try.prog.cellsOf 43 = 3 := by kernel_rfl
theorem three {v : Value} {d : DataW H} {p : List MemPlace} {r : Reach} {b0 : Nat} (hv : Value.okWide Try.prog W r b0 43 v) (h : DataW.Trod enc Try.prog W base spare held 43 v d p) : ∃ x y z : BitVec 8, v = .agg #[.int .u8 (x.toNat : Int), .int .u8 (y.toNat : Int), .int .u8 (z.toNat : Int)] := by
  obtain ⟨cs, rfl⟩ : ∃ cs, v = .agg cs := by
    simp only [Value.okWide, Try.underlying43] at hv
    obtain ⟨cs, h1, _⟩ := hv
    exact ⟨cs, h1⟩
  obtain ⟨fuel, hf⟩ := h
  obtain ⟨xs, n, -, -, hlen, hl, hg⟩ := DataW.trod_array Try.underlying43 hf
  obtain ⟨l⟩ := cs
  have hlen' : l.length = 3 := by rw [← cellsThree]; exact hlen
  obtain ⟨c0, c1, c2, rfl⟩ := len3 hlen'
  obtain ⟨y0, y1, y2, rfl⟩ := len3 hl
  have f0 := hg 0 (by decide)
  have f1 := hg 1 (by decide)
  have f2 := hg 2 (by decide)
  rw [cellsU8] at f0 f1 f2
  obtain ⟨a, ha⟩ := u8_cell f0
  obtain ⟨b, hb⟩ := u8_cell f1
  obtain ⟨c, hc⟩ := u8_cell f2
  simp [Value.cells] at ha hb hc
  exact ⟨a, b, c, by rw [ha, hb, hc]⟩
end
end Open
end Go.Proofs.Ytncebifekimoiaa
