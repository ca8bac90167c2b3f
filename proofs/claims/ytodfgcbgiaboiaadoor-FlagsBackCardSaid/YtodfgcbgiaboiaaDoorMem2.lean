/-
  Small laws on memory for walks, more: two structs of two cells each, stored whole.
-/
import Derived.Test.YtodfgcbgiaboiaaDoorMem
namespace Go.Proofs.YtodfgcbgiaboiaaDoor
open Go Go.RowKit
namespace Mem

theorem four {W : World} {g k : Nat} {x y z u : Value} (hk : g ≠ k)
    (h0 : ((((W.setCell ⟨g, 0, none⟩ x).setCell ⟨g, 1, none⟩ y).setCell ⟨k, 0, none⟩ z).setCell ⟨k, 1, none⟩ u).cell? ⟨g, 0, none⟩ = some (val ((((W.setCell ⟨g, 0, none⟩ x).setCell ⟨g, 1, none⟩ y).setCell ⟨k, 0, none⟩ z).setCell ⟨k, 1, none⟩ u) ⟨g, 0, none⟩))
    (h1 : ((((W.setCell ⟨g, 0, none⟩ x).setCell ⟨g, 1, none⟩ y).setCell ⟨k, 0, none⟩ z).setCell ⟨k, 1, none⟩ u).cell? ⟨g, 1, none⟩ = some (val ((((W.setCell ⟨g, 0, none⟩ x).setCell ⟨g, 1, none⟩ y).setCell ⟨k, 0, none⟩ z).setCell ⟨k, 1, none⟩ u) ⟨g, 1, none⟩))
    (h2 : ((((W.setCell ⟨g, 0, none⟩ x).setCell ⟨g, 1, none⟩ y).setCell ⟨k, 0, none⟩ z).setCell ⟨k, 1, none⟩ u).cell? ⟨k, 0, none⟩ = some (val ((((W.setCell ⟨g, 0, none⟩ x).setCell ⟨g, 1, none⟩ y).setCell ⟨k, 0, none⟩ z).setCell ⟨k, 1, none⟩ u) ⟨k, 0, none⟩))
    (h3 : ((((W.setCell ⟨g, 0, none⟩ x).setCell ⟨g, 1, none⟩ y).setCell ⟨k, 0, none⟩ z).setCell ⟨k, 1, none⟩ u).cell? ⟨k, 1, none⟩ = some (val ((((W.setCell ⟨g, 0, none⟩ x).setCell ⟨g, 1, none⟩ y).setCell ⟨k, 0, none⟩ z).setCell ⟨k, 1, none⟩ u) ⟨k, 1, none⟩)) :
    ((((W.setCell ⟨g, 0, none⟩ x).setCell ⟨g, 1, none⟩ y).setCell ⟨k, 0, none⟩ z).setCell ⟨k, 1, none⟩ u).cell? ⟨g, 0, none⟩ = some x ∧
    ((((W.setCell ⟨g, 0, none⟩ x).setCell ⟨g, 1, none⟩ y).setCell ⟨k, 0, none⟩ z).setCell ⟨k, 1, none⟩ u).cell? ⟨g, 1, none⟩ = some y ∧
    ((((W.setCell ⟨g, 0, none⟩ x).setCell ⟨g, 1, none⟩ y).setCell ⟨k, 0, none⟩ z).setCell ⟨k, 1, none⟩ u).cell? ⟨k, 0, none⟩ = some z ∧
    ((((W.setCell ⟨g, 0, none⟩ x).setCell ⟨g, 1, none⟩ y).setCell ⟨k, 0, none⟩ z).setCell ⟨k, 1, none⟩ u).cell? ⟨k, 1, none⟩ = some u := by
  have n1 : (⟨k, 1, none⟩ : Addr) ≠ ⟨g, 0, none⟩ := by intro e; injection e; omega
  have n2 : (⟨k, 0, none⟩ : Addr) ≠ ⟨g, 0, none⟩ := by intro e; injection e; omega
  have n3 : (⟨g, 1, none⟩ : Addr) ≠ ⟨g, 0, none⟩ := by simp
  have n4 : (⟨k, 1, none⟩ : Addr) ≠ ⟨g, 1, none⟩ := by intro e; injection e; omega
  have n5 : (⟨k, 0, none⟩ : Addr) ≠ ⟨g, 1, none⟩ := by intro e; injection e; omega
  have n6 : (⟨k, 1, none⟩ : Addr) ≠ ⟨k, 0, none⟩ := by simp
  refine ⟨?_, ?_, ?_, got (vis h3)⟩
  · rw [World.cell?_setCell_other _ _ _ _ n1, World.cell?_setCell_other _ _ _ _ n2, World.cell?_setCell_other _ _ _ _ n3]
    exact got (isSome_set (isSome_set (isSome_set (vis h0) n1) n2) n3)
  · rw [World.cell?_setCell_other _ _ _ _ n4, World.cell?_setCell_other _ _ _ _ n5]
    exact got (isSome_set (isSome_set (vis h1) n4) n5)
  · rw [World.cell?_setCell_other _ _ _ _ n6]
    exact got (isSome_set (vis h2) n6)
/-- A fact kept from the walk. -/
theorem hide {p : Prop} (h : p) : Hid p := h
theorem snoc {P : Nat → Prop} {j : Nat} (h : ∀ n, n < j → P n) (hj : P j) : ∀ n, n < j + 1 → P n := by
  intro n hn
  by_cases e : n = j
  · rw [e]; exact hj
  · exact h n (by omega)
end Mem
end Go.Proofs.YtodfgcbgiaboiaaDoor
