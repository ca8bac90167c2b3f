/-
  Opening arguments: what a value of each parameter type is, that can be read as data (api.Byte, api.Bit, three bytes).
-/
import Derived.Test.YtodfgcbgiaboiaaDoorProg
import Derived.Test.YtodfgcbgiaboiaaDoorU8
import Derived.ProofKit
import Derived.OpenShut
namespace Go.Proofs.YtodfgcbgiaboiaaDoor
open Go.ChangeShapes Go.WideShapes Go.ChangeAt Go.RowKit
namespace Open

theorem len2 {α : Type} {l : List α} (h : l.length = 2) : ∃ a b, l = [a, b] := by
  match l, h with
  | [a, b], _ => exact ⟨a, b, rfl⟩
theorem len3 {α : Type} {l : List α} (h : l.length = 3) : ∃ a b c, l = [a, b, c] := by
  match l, h with
  | [a, b, c], _ => exact ⟨a, b, c, rfl⟩
theorem len4 {α : Type} {l : List α} (h : l.length = 4) : ∃ a b c d, l = [a, b, c, d] := by
  match l, h with
  | [a, b, c, d], _ => exact ⟨a, b, c, d, rfl⟩

section
variable {H : Type} {enc : TypeId × Value → H} {W : World} {base : Nat} {spare : Nat → Bool} {held : Bool}
theorem cellsByte : Tryd.prog.cellsOf 23 = 2 := by kernel_rfl
theorem cellsBit : Tryd.prog.cellsOf 36 = 2 := by kernel_rfl
theorem cellsU8 : Tryd.prog.cellsOf 5 = 1 := by kernel_rfl
theorem cellsBool : Tryd.prog.cellsOf 4 = 1 := by kernel_rfl

theorem u8_cell {fuel : Nat} {cs : List Value} {x : DataW H × List MemPlace} (h : DataW.trod enc Tryd.prog W base spare held fuel 5 cs = some x) : ∃ b : BitVec 8, cs = [.int .u8 (b.toNat : Int)] := by
  obtain ⟨a, ha, -, wa⟩ := DataW.trod_int Tryd.underlying5 h
  obtain ⟨b, rfl⟩ := U8.of_ wa
  exact ⟨b, ha⟩
theorem bool_cell {fuel : Nat} {cs : List Value} {x : DataW H × List MemPlace} (h : DataW.trod enc Tryd.prog W base spare held fuel 4 cs = some x) : ∃ b : Bool, cs = [.bool b] := by
  obtain ⟨a, ha, -⟩ := DataW.trod_bool Tryd.underlying4 h
  exact ⟨a, ha⟩
theorem byte_cells {fuel : Nat} {cs : List Value} {x : DataW H × List MemPlace} (h : DataW.trod enc Tryd.prog W base spare held fuel 23 cs = some x) : ∃ v t : BitVec 8, cs = [.int .u8 (v.toNat : Int), .int .u8 (t.toNat : Int)] := by
  obtain ⟨xs, n, -, -, hlen, hl, hf⟩ := DataW.trod_struct Tryd.underlying23 h
  rw [cellsByte] at hlen
  obtain ⟨c0, c1, rfl⟩ := len2 hlen
  obtain ⟨y0, y1, rfl⟩ := len2 (show xs.length = 2 from hl)
  have f0 : DataW.trod enc Tryd.prog W base spare held n 5 (([c0, c1].drop 0).take (Tryd.prog.cellsOf 5)) = some y0 := hf 0 _ rfl
  have f1 : DataW.trod enc Tryd.prog W base spare held n 5 (([c0, c1].drop 1).take (Tryd.prog.cellsOf 5)) = some y1 := hf 1 _ rfl
  rw [cellsU8] at f0 f1
  obtain ⟨a, ha⟩ := u8_cell f0
  obtain ⟨b, hb⟩ := u8_cell f1
  simp at ha hb
  exact ⟨a, b, by rw [ha, hb]⟩
theorem bit_cells {fuel : Nat} {cs : List Value} {x : DataW H × List MemPlace} (h : DataW.trod enc Tryd.prog W base spare held fuel 36 cs = some x) : ∃ v t : Bool, cs = [.bool v, .bool t] := by
  obtain ⟨xs, n, -, -, hlen, hl, hf⟩ := DataW.trod_struct Tryd.underlying36 h
  rw [cellsBit] at hlen
  obtain ⟨c0, c1, rfl⟩ := len2 hlen
  obtain ⟨y0, y1, rfl⟩ := len2 (show xs.length = 2 from hl)
  have f0 : DataW.trod enc Tryd.prog W base spare held n 4 (([c0, c1].drop 0).take (Tryd.prog.cellsOf 4)) = some y0 := hf 0 _ rfl
  have f1 : DataW.trod enc Tryd.prog W base spare held n 4 (([c0, c1].drop 1).take (Tryd.prog.cellsOf 4)) = some y1 := hf 1 _ rfl
  rw [cellsBool] at f0 f1
  obtain ⟨a, ha⟩ := bool_cell f0
  obtain ⟨b, hb⟩ := bool_cell f1
  simp at ha hb
  exact ⟨a, b, by rw [ha, hb]⟩

theorem byte {v : Value} {d : DataW H} {p : List MemPlace} {r : Reach} {b0 : Nat} (hv : Value.okWide Tryd.prog W r b0 23 v) (h : DataW.Trod enc Tryd.prog W base spare held 23 v d p) : ∃ x y : BitVec 8, v = .agg #[.int .u8 (x.toNat : Int), .int .u8 (y.toNat : Int)] := by
  obtain ⟨cs, rfl, -⟩ := okWide_struct Tryd.underlying23 hv
  obtain ⟨fuel, hf⟩ := h
  obtain ⟨x, y, e⟩ := byte_cells hf
  exact ⟨x, y, by obtain ⟨l⟩ := cs; have e' : l = [.int .u8 (x.toNat : Int), .int .u8 (y.toNat : Int)] := e; rw [e']⟩
theorem bit {v : Value} {d : DataW H} {p : List MemPlace} {r : Reach} {b0 : Nat} (hv : Value.okWide Tryd.prog W r b0 36 v) (h : DataW.Trod enc Tryd.prog W base spare held 36 v d p) : ∃ x y : Bool, v = .agg #[.bool x, .bool y] := by
  obtain ⟨cs, rfl, -⟩ := okWide_struct Tryd.underlying36 hv
  obtain ⟨fuel, hf⟩ := h
  obtain ⟨x, y, e⟩ := bit_cells hf
  exact ⟨x, y, by obtain ⟨l⟩ := cs; have e' : l = [.bool x, .bool y] := e; rw [e']⟩
theorem int {v : Value} {d : DataW H} {p : List MemPlace} {r : Reach} {b0 : Nat} (hv : Value.okWide Tryd.prog W r b0 3 v) (h : DataW.Trod enc Tryd.prog W base spare held 3 v d p) : ∃ x : Int, v = .int .i64 x ∧ -9223372036854775808 ≤ x ∧ x ≤ 9223372036854775807 := by
  obtain ⟨x, rfl, -, -, wx⟩ := open_int Tryd.underlying3 hv h
  have hmin : IntKind.i64.min = -9223372036854775808 := rfl
  have hmax : IntKind.i64.max = 9223372036854775807 := rfl
  simp only [Lit.wf, Bool.and_eq_true, decide_eq_true_eq] at wx
  exact ⟨x, rfl, by omega, by omega⟩
end
end Open
end Go.Proofs.YtodfgcbgiaboiaaDoor
