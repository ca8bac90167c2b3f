/-
  Opening arguments, more: a place and a bit; a text.
-/
import Derived.Test.YtodfgcbgiaboiaaDoorOpen4
import Derived.ChangeMaps5
namespace Go.Proofs.YtodfgcbgiaboiaaDoor
open Go.ChangeShapes Go.WideShapes Go.ChangeAt Go.RowKit
namespace Open
section
variable {H : Type} {enc : TypeId × Value → H} {W : World} {base : Nat} {spare : Nat → Bool} {held : Bool}
theorem cellsPlace : Tryd.prog.cellsOf 41 = 3 := by kernel_rfl
theorem cellsInt : Tryd.prog.cellsOf 3 = 1 := by kernel_rfl
theorem place {v : Value} {d : DataW H} {p : List MemPlace} {r : Reach} {b0 : Nat} (hv : Value.okWide Tryd.prog W r b0 41 v) (h : DataW.Trod enc Tryd.prog W base spare held 41 v d p) :
    ∃ (x : Int) (b s : Bool), v = .agg #[.int .i64 x, .bool b, .bool s] ∧ -9223372036854775808 ≤ x ∧ x ≤ 9223372036854775807 := by
  obtain ⟨cs, rfl, -⟩ := okWide_struct Tryd.underlying41 hv
  obtain ⟨fuel, hfu⟩ := h
  obtain ⟨l⟩ := cs
  obtain ⟨xs, n, -, -, hlen, hl, hf⟩ := DataW.trod_struct Tryd.underlying41 hfu
  rw [cellsPlace] at hlen
  change l.length = 3 at hlen
  obtain ⟨c0, c1, c2, rfl⟩ := len3 hlen
  obtain ⟨y0, y1, rfl⟩ := len2 (show xs.length = 2 from hl)
  have f0 : DataW.trod enc Tryd.prog W base spare held n 3 (([c0, c1, c2].drop 0).take (Tryd.prog.cellsOf 3)) = some y0 := hf 0 _ rfl
  have f1 : DataW.trod enc Tryd.prog W base spare held n 36 (([c0, c1, c2].drop 1).take (Tryd.prog.cellsOf 36)) = some y1 := hf 1 _ rfl
  rw [cellsInt] at f0
  rw [cellsBit] at f1
  obtain ⟨x, hx, -, wx⟩ := DataW.trod_int Tryd.underlying3 f0
  obtain ⟨b, s, hb⟩ := bit_cells f1
  have hmin : IntKind.i64.min = -9223372036854775808 := rfl
  have hmax : IntKind.i64.max = 9223372036854775807 := rfl
  simp only [Lit.wf, Bool.and_eq_true, decide_eq_true_eq] at wx
  simp at hx hb
  exact ⟨x, b, s, by rw [hx, hb.1, hb.2], by omega, by omega⟩
theorem string {v : Value} {d : DataW H} {p : List MemPlace} {r : Reach} {b0 : Nat} (hv : Value.okWide Tryd.prog W r b0 9 v) (h : DataW.Trod enc Tryd.prog W base spare held 9 v d p) : ∃ s : ByteArray, v = .string s ∧ s.size ≤ maxLen := by
  obtain ⟨s, rfl, -, -, ws⟩ := Go.ChangeMaps.open_string Tryd.underlying9 hv h
  exact ⟨s, rfl, ws⟩
end
end Open
end Go.Proofs.YtodfgcbgiaboiaaDoor
