/-
  Small laws on memory for walks, more: a box of ten cells behind a new box.
-/
import Derived.Test.YtodfgcbgiaboiaaDoorMem9
namespace Go.Proofs.YtodfgcbgiaboiaaDoor
open Go Go.RowKit
namespace Mem

theorem ten_alloc {W : World} {g : Nat} {x0 x1 x2 x3 x4 x5 x6 x7 x8 x9 : Value} (o : Obj) (h :
    (W).cell? ⟨g, 0, none⟩ = some x0 ∧
    (W).cell? ⟨g, 1, none⟩ = some x1 ∧
    (W).cell? ⟨g, 2, none⟩ = some x2 ∧
    (W).cell? ⟨g, 3, none⟩ = some x3 ∧
    (W).cell? ⟨g, 4, none⟩ = some x4 ∧
    (W).cell? ⟨g, 5, none⟩ = some x5 ∧
    (W).cell? ⟨g, 6, none⟩ = some x6 ∧
    (W).cell? ⟨g, 7, none⟩ = some x7 ∧
    (W).cell? ⟨g, 8, none⟩ = some x8 ∧
    (W).cell? ⟨g, 9, none⟩ = some x9) :
    (W.alloc o).cell? ⟨g, 0, none⟩ = some x0 ∧
    (W.alloc o).cell? ⟨g, 1, none⟩ = some x1 ∧
    (W.alloc o).cell? ⟨g, 2, none⟩ = some x2 ∧
    (W.alloc o).cell? ⟨g, 3, none⟩ = some x3 ∧
    (W.alloc o).cell? ⟨g, 4, none⟩ = some x4 ∧
    (W.alloc o).cell? ⟨g, 5, none⟩ = some x5 ∧
    (W.alloc o).cell? ⟨g, 6, none⟩ = some x6 ∧
    (W.alloc o).cell? ⟨g, 7, none⟩ = some x7 ∧
    (W.alloc o).cell? ⟨g, 8, none⟩ = some x8 ∧
    (W.alloc o).cell? ⟨g, 9, none⟩ = some x9 := by
  obtain ⟨h0, h1, h2, h3, h4, h5, h6, h7, h8, h9⟩ := h
  exact ⟨calloc o h0, calloc o h1, calloc o h2, calloc o h3, calloc o h4, calloc o h5, calloc o h6, calloc o h7, calloc o h8, calloc o h9⟩

end Mem
end Go.Proofs.YtodfgcbgiaboiaaDoor
