/-
  Small laws on memory for walks, more: boxes of two and of five cells.
-/
import Derived.Test.YtodfgcbgiaboiaaDoorMem11
namespace Go.Proofs.YtodfgcbgiaboiaaDoor
open Go Go.RowKit
namespace Mem

theorem two_new {W W' : World} {g : Nat} {x0 x1 : Value} (e : W' = ((W.setCell ⟨g, 0, none⟩ x0).setCell ⟨g, 1, none⟩ x1)) (h0 : W'.cell? ⟨g, 0, none⟩ = some (val W' ⟨g, 0, none⟩)) (h1 : W'.cell? ⟨g, 1, none⟩ = some (val W' ⟨g, 1, none⟩)) :
    W'.cell? ⟨g, 0, none⟩ = some x0 ∧ W'.cell? ⟨g, 1, none⟩ = some x1 := by
  subst e
  have n1_0 : (⟨g, 1, none⟩ : Addr) ≠ ⟨g, 0, none⟩ := by simp
  refine ⟨?_, ?_⟩
  · rw [World.cell?_setCell_other _ _ _ _ n1_0]
    exact got (isSome_set (vis h0) n1_0)
  · exact got (vis h1)
theorem box2 {W : World} {g : Nat} (h : Box W g 2) :
    (W.cell? ⟨g, 0, none⟩ = some (val W ⟨g, 0, none⟩) ∧ W.cell? ⟨g, 1, none⟩ = some (val W ⟨g, 1, none⟩)) ∧
    W.frozen? ⟨g, 0, none⟩ = false ∧ W.frozen? ⟨g, 1, none⟩ = false :=
  ⟨⟨(h 0 (by decide)).1, (h 1 (by decide)).1⟩, (h 0 (by decide)).2, (h 1 (by decide)).2⟩
theorem box5 {W : World} {g : Nat} (h : Box W g 5) :
    (W.cell? ⟨g, 0, none⟩ = some (val W ⟨g, 0, none⟩) ∧ W.cell? ⟨g, 1, none⟩ = some (val W ⟨g, 1, none⟩) ∧ W.cell? ⟨g, 2, none⟩ = some (val W ⟨g, 2, none⟩) ∧ W.cell? ⟨g, 3, none⟩ = some (val W ⟨g, 3, none⟩) ∧ W.cell? ⟨g, 4, none⟩ = some (val W ⟨g, 4, none⟩)) ∧
    W.frozen? ⟨g, 0, none⟩ = false ∧ W.frozen? ⟨g, 1, none⟩ = false ∧ W.frozen? ⟨g, 2, none⟩ = false ∧ W.frozen? ⟨g, 3, none⟩ = false ∧ W.frozen? ⟨g, 4, none⟩ = false :=
  ⟨⟨(h 0 (by decide)).1, (h 1 (by decide)).1, (h 2 (by decide)).1, (h 3 (by decide)).1, (h 4 (by decide)).1⟩, (h 0 (by decide)).2, (h 1 (by decide)).2, (h 2 (by decide)).2, (h 3 (by decide)).2, (h 4 (by decide)).2⟩
end Mem
end Go.Proofs.YtodfgcbgiaboiaaDoor
