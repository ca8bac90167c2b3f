/-
  Small laws on memory for walks, more: a struct of two cells, stored whole into a box that is known to be there.
-/
import Derived.Test.YtodfgcbgiaboiaaDoorMem2
namespace Go.Proofs.YtodfgcbgiaboiaaDoor
open Go Go.RowKit
namespace Mem

theorem two_set {W : World} {g : Nat} {x y : Value} (h0 : (W.cell? ⟨g, 0, none⟩).isSome = true) (h1 : (W.cell? ⟨g, 1, none⟩).isSome = true) :
    ((W.setCell ⟨g, 0, none⟩ x).setCell ⟨g, 1, none⟩ y).cell? ⟨g, 0, none⟩ = some x ∧ ((W.setCell ⟨g, 0, none⟩ x).setCell ⟨g, 1, none⟩ y).cell? ⟨g, 1, none⟩ = some y := by
  have hn : (⟨g, 1, none⟩ : Addr) ≠ ⟨g, 0, none⟩ := by simp
  have hn' : (⟨g, 0, none⟩ : Addr) ≠ ⟨g, 1, none⟩ := by simp
  refine ⟨?_, ?_⟩
  · rw [World.cell?_setCell_other _ _ _ _ hn]
    exact World.cell?_setCell_same' W _ x h0
  · refine World.cell?_setCell_same' _ _ y ?_
    rw [World.cell?_setCell_other _ _ _ _ hn']
    exact h1
end Mem
end Go.Proofs.YtodfgcbgiaboiaaDoor
