/-
  Opening arguments, more: a byte, a bool, two bits; two bytes, two bits and four bytes.
-/
import Derived.Test.YtdpoebmahoipbaaOpen
namespace Go.Proofs.Ytdpoebmahoipbaa
open Go.ChangeShapes Go.WideShapes Go.ChangeAt Go.RowKit
namespace Open
section
variable {H : Type} {enc : TypeId × Value → H} {W : World} {base : Nat} {spare : Nat → Bool} {held : Bool}
theorem u8 {v : Value} {d : DataW H} {p : List MemPlace} {r : Reach} {b0 : Nat} (hv : Value.okWide Try.prog W r b0 5 v) (h : DataW.Trod enc Try.prog W base spare held 5 v d p) : ∃ x : BitVec 8, v = .int .u8 (x.toNat : Int) := by
  obtain ⟨x, rfl, -, -, wx⟩ := open_int Try.underlying5 hv h
  obtain ⟨b, rfl⟩ := U8.of_ wx
  exact ⟨b, rfl⟩
theorem bool {v : Value} {d : DataW H} {p : List MemPlace} {r : Reach} {b0 : Nat} (hv : Value.okWide Try.prog W r b0 4 v) (h : DataW.Trod enc Try.prog W base spare held 4 v d p) : ∃ x : Bool, v = .bool x := by
  obtain ⟨x, rfl, -⟩ := open_bool Try.underlying4 hv h
  exact ⟨x, rfl⟩
theorem cellsTwo : Try.prog.cellsOf 27 = 4 := by kernel_rfl
theorem cellsFour : Try.prog.cellsOf 42 = 12 := by kernel_rfl
theorem cellsArr : Try.prog.cellsOf 40 = 4 := by kernel_rfl
theorem two_cells {fuel : Nat} {cs : List Value} {x : DataW H × List MemPlace} (h : DataW.trod enc Try.prog W base spare held fuel 27 cs = some x) : ∃ b s d e : Bool, cs = [.bool b, .bool s, .bool d, .bool e] := by
  obtain ⟨xs, n, -, -, hlen, hl, hf⟩ := DataW.trod_struct Try.underlying27 h
  rw [cellsTwo] at hlen
  obtain ⟨c0, c1, c2, c3, rfl⟩ := len4 hlen
  obtain ⟨y0, y1, rfl⟩ := len2 (show xs.length = 2 from hl)
  have f0 : DataW.trod enc Try.prog W base spare held n 25 (([c0, c1, c2, c3].drop 0).take (Try.prog.cellsOf 25)) = some y0 := hf 0 _ rfl
  have f1 : DataW.trod enc Try.prog W base spare held n 25 (([c0, c1, c2, c3].drop 2).take (Try.prog.cellsOf 25)) = some y1 := hf 1 _ rfl
  rw [cellsBit] at f0 f1
  obtain ⟨a, a', ha⟩ := bit_cells f0
  obtain ⟨b, b', hb⟩ := bit_cells f1
  simp at ha hb
  exact ⟨a, a', b, b', by rw [ha.1, ha.2, hb.1, hb.2]⟩
theorem two {v : Value} {d : DataW H} {p : List MemPlace} {r : Reach} {b0 : Nat} (hv : Value.okWide Try.prog W r b0 27 v) (h : DataW.Trod enc Try.prog W base spare held 27 v d p) :
    ∃ b s d e : Bool, v = .agg #[.bool b, .bool s, .bool d, .bool e] := by
  obtain ⟨cs, rfl, -⟩ := okWide_struct Try.underlying27 hv
  obtain ⟨fuel, hf⟩ := h
  obtain ⟨b, s, d, e, he⟩ := two_cells hf
  exact ⟨b, s, d, e, by obtain ⟨l⟩ := cs; have e' : l = [.bool b, .bool s, .bool d, .bool e] := he; rw [e']⟩
theorem len12 {α : Type} {l : List α} (h : l.length = 12) : ∃ a b c d e f g h i j k m, l = [a, b, c, d, e, f, g, h, i, j, k, m] := by
  match l, h with
  | [a, b, c, d, e, f, g, h, i, j, k, m], _ => exact ⟨a, b, c, d, e, f, g, h, i, j, k, m, rfl⟩
theorem arr_cells {fuel : Nat} {cs : List Value} {x : DataW H × List MemPlace} (h : DataW.trod enc Try.prog W base spare held fuel 40 cs = some x) : ∃ i j k m : BitVec 8, cs = [.int .u8 (i.toNat : Int), .int .u8 (j.toNat : Int), .int .u8 (k.toNat : Int), .int .u8 (m.toNat : Int)] := by
  obtain ⟨xs, n, -, -, hlen, hl, hg⟩ := DataW.trod_array Try.underlying40 h
  rw [cellsArr] at hlen
  obtain ⟨c0, c1, c2, c3, rfl⟩ := len4 hlen
  obtain ⟨y0, y1, y2, y3, rfl⟩ := len4 hl
  have f0 := hg 0 (by decide)
  have f1 := hg 1 (by decide)
  have f2 := hg 2 (by decide)
  have f3 := hg 3 (by decide)
  rw [cellsU8] at f0 f1 f2 f3
  obtain ⟨a, ha⟩ := u8_cell f0
  obtain ⟨b, hb⟩ := u8_cell f1
  obtain ⟨c, hc⟩ := u8_cell f2
  obtain ⟨d, hd⟩ := u8_cell f3
  simp at ha hb hc hd
  exact ⟨a, b, c, d, by rw [ha, hb, hc, hd]⟩
theorem four {v : Value} {d : DataW H} {p : List MemPlace} {r : Reach} {b0 : Nat} (hv : Value.okWide Try.prog W r b0 42 v) (h : DataW.Trod enc Try.prog W base spare held 42 v d p) :
    ∃ (va ta vb tb : BitVec 8) (b s d e : Bool) (i j k m : BitVec 8), v = .agg #[.int .u8 (va.toNat : Int), .int .u8 (ta.toNat : Int), .int .u8 (vb.toNat : Int), .int .u8 (tb.toNat : Int), .bool b, .bool s, .bool d, .bool e, .int .u8 (i.toNat : Int), .int .u8 (j.toNat : Int), .int .u8 (k.toNat : Int), .int .u8 (m.toNat : Int)] := by
  obtain ⟨cs, rfl, -⟩ := okWide_struct Try.underlying42 hv
  obtain ⟨fuel, hfu⟩ := h
  obtain ⟨l⟩ := cs
  obtain ⟨xs, n, -, -, hlen, hl, hf⟩ := DataW.trod_struct Try.underlying42 hfu
  rw [cellsFour] at hlen
  change l.length = 12 at hlen
  obtain ⟨c0, c1, c2, c3, c4, c5, c6, c7, c8, c9, c10, c11, rfl⟩ := len12 hlen
  obtain ⟨y0, y1, y2, y3, rfl⟩ := len4 (show xs.length = 4 from hl)
  have f0 : DataW.trod enc Try.prog W base spare held n 23 (([c0, c1, c2, c3, c4, c5, c6, c7, c8, c9, c10, c11].drop 0).take (Try.prog.cellsOf 23)) = some y0 := hf 0 _ rfl
  have f1 : DataW.trod enc Try.prog W base spare held n 23 (([c0, c1, c2, c3, c4, c5, c6, c7, c8, c9, c10, c11].drop 2).take (Try.prog.cellsOf 23)) = some y1 := hf 1 _ rfl
  have f2 : DataW.trod enc Try.prog W base spare held n 27 (([c0, c1, c2, c3, c4, c5, c6, c7, c8, c9, c10, c11].drop 4).take (Try.prog.cellsOf 27)) = some y2 := hf 2 _ rfl
  have f3 : DataW.trod enc Try.prog W base spare held n 40 (([c0, c1, c2, c3, c4, c5, c6, c7, c8, c9, c10, c11].drop 8).take (Try.prog.cellsOf 40)) = some y3 := hf 3 _ rfl
  rw [cellsByte] at f0 f1
  rw [cellsTwo] at f2
  rw [cellsArr] at f3
  obtain ⟨va, ta, h0⟩ := byte_cells f0
  obtain ⟨vb, tb, h1⟩ := byte_cells f1
  obtain ⟨b, s, d, e, h2⟩ := two_cells f2
  obtain ⟨i, j, k, m, h3⟩ := arr_cells f3
  simp at h0 h1 h2 h3
  exact ⟨va, ta, vb, tb, b, s, d, e, i, j, k, m, by rw [h0.1, h0.2, h1.1, h1.2, h2.1, h2.2.1, h2.2.2.1, h2.2.2.2, h3.1, h3.2.1, h3.2.2.1, h3.2.2.2]⟩
end
end Open
end Go.Proofs.Ytdpoebmahoipbaa
