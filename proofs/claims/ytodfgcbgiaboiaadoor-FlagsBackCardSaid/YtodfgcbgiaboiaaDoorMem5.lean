/-
  Small laws on memory for walks, more: a box of several cells, stored whole.
-/
import Derived.Test.YtodfgcbgiaboiaaDoorMem
namespace Go.Proofs.YtodfgcbgiaboiaaDoor
open Go Go.RowKit
namespace Mem

theorem five {W W' : World} {g : Nat} {x0 x1 x2 x3 x4 : Value} (e : W' = (((((W.setCell ⟨g, 0, none⟩ x0).setCell ⟨g, 1, none⟩ x1).setCell ⟨g, 2, none⟩ x2).setCell ⟨g, 3, none⟩ x3).setCell ⟨g, 4, none⟩ x4))
    (h0 : W'.cell? ⟨g, 0, none⟩ = some (val W' ⟨g, 0, none⟩))
    (h1 : W'.cell? ⟨g, 1, none⟩ = some (val W' ⟨g, 1, none⟩))
    (h2 : W'.cell? ⟨g, 2, none⟩ = some (val W' ⟨g, 2, none⟩))
    (h3 : W'.cell? ⟨g, 3, none⟩ = some (val W' ⟨g, 3, none⟩))
    (h4 : W'.cell? ⟨g, 4, none⟩ = some (val W' ⟨g, 4, none⟩)) :
    W'.cell? ⟨g, 0, none⟩ = some x0 ∧
    W'.cell? ⟨g, 1, none⟩ = some x1 ∧
    W'.cell? ⟨g, 2, none⟩ = some x2 ∧
    W'.cell? ⟨g, 3, none⟩ = some x3 ∧
    W'.cell? ⟨g, 4, none⟩ = some x4 := by
  subst e
  have n1_0 : (⟨g, 1, none⟩ : Addr) ≠ ⟨g, 0, none⟩ := by simp
  have n2_0 : (⟨g, 2, none⟩ : Addr) ≠ ⟨g, 0, none⟩ := by simp
  have n3_0 : (⟨g, 3, none⟩ : Addr) ≠ ⟨g, 0, none⟩ := by simp
  have n4_0 : (⟨g, 4, none⟩ : Addr) ≠ ⟨g, 0, none⟩ := by simp
  have n2_1 : (⟨g, 2, none⟩ : Addr) ≠ ⟨g, 1, none⟩ := by simp
  have n3_1 : (⟨g, 3, none⟩ : Addr) ≠ ⟨g, 1, none⟩ := by simp
  have n4_1 : (⟨g, 4, none⟩ : Addr) ≠ ⟨g, 1, none⟩ := by simp
  have n3_2 : (⟨g, 3, none⟩ : Addr) ≠ ⟨g, 2, none⟩ := by simp
  have n4_2 : (⟨g, 4, none⟩ : Addr) ≠ ⟨g, 2, none⟩ := by simp
  have n4_3 : (⟨g, 4, none⟩ : Addr) ≠ ⟨g, 3, none⟩ := by simp
  refine ⟨?_, ?_, ?_, ?_, ?_⟩
  · rw [World.cell?_setCell_other _ _ _ _ n4_0, World.cell?_setCell_other _ _ _ _ n3_0, World.cell?_setCell_other _ _ _ _ n2_0, World.cell?_setCell_other _ _ _ _ n1_0]
    exact got (isSome_set (isSome_set (isSome_set (isSome_set (vis h0) n4_0) n3_0) n2_0) n1_0)
  · rw [World.cell?_setCell_other _ _ _ _ n4_1, World.cell?_setCell_other _ _ _ _ n3_1, World.cell?_setCell_other _ _ _ _ n2_1]
    exact got (isSome_set (isSome_set (isSome_set (vis h1) n4_1) n3_1) n2_1)
  · rw [World.cell?_setCell_other _ _ _ _ n4_2, World.cell?_setCell_other _ _ _ _ n3_2]
    exact got (isSome_set (isSome_set (vis h2) n4_2) n3_2)
  · rw [World.cell?_setCell_other _ _ _ _ n4_3]
    exact got (isSome_set (vis h3) n4_3)
  · exact got (vis h4)

theorem ten {W W' : World} {g : Nat} {x0 x1 x2 x3 x4 x5 x6 x7 x8 x9 : Value} (e : W' = ((((((((((W.setCell ⟨g, 0, none⟩ x0).setCell ⟨g, 1, none⟩ x1).setCell ⟨g, 2, none⟩ x2).setCell ⟨g, 3, none⟩ x3).setCell ⟨g, 4, none⟩ x4).setCell ⟨g, 5, none⟩ x5).setCell ⟨g, 6, none⟩ x6).setCell ⟨g, 7, none⟩ x7).setCell ⟨g, 8, none⟩ x8).setCell ⟨g, 9, none⟩ x9))
    (h0 : W'.cell? ⟨g, 0, none⟩ = some (val W' ⟨g, 0, none⟩))
    (h1 : W'.cell? ⟨g, 1, none⟩ = some (val W' ⟨g, 1, none⟩))
    (h2 : W'.cell? ⟨g, 2, none⟩ = some (val W' ⟨g, 2, none⟩))
    (h3 : W'.cell? ⟨g, 3, none⟩ = some (val W' ⟨g, 3, none⟩))
    (h4 : W'.cell? ⟨g, 4, none⟩ = some (val W' ⟨g, 4, none⟩))
    (h5 : W'.cell? ⟨g, 5, none⟩ = some (val W' ⟨g, 5, none⟩))
    (h6 : W'.cell? ⟨g, 6, none⟩ = some (val W' ⟨g, 6, none⟩))
    (h7 : W'.cell? ⟨g, 7, none⟩ = some (val W' ⟨g, 7, none⟩))
    (h8 : W'.cell? ⟨g, 8, none⟩ = some (val W' ⟨g, 8, none⟩))
    (h9 : W'.cell? ⟨g, 9, none⟩ = some (val W' ⟨g, 9, none⟩)) :
    W'.cell? ⟨g, 0, none⟩ = some x0 ∧
    W'.cell? ⟨g, 1, none⟩ = some x1 ∧
    W'.cell? ⟨g, 2, none⟩ = some x2 ∧
    W'.cell? ⟨g, 3, none⟩ = some x3 ∧
    W'.cell? ⟨g, 4, none⟩ = some x4 ∧
    W'.cell? ⟨g, 5, none⟩ = some x5 ∧
    W'.cell? ⟨g, 6, none⟩ = some x6 ∧
    W'.cell? ⟨g, 7, none⟩ = some x7 ∧
    W'.cell? ⟨g, 8, none⟩ = some x8 ∧
    W'.cell? ⟨g, 9, none⟩ = some x9 := by
  subst e
  have n1_0 : (⟨g, 1, none⟩ : Addr) ≠ ⟨g, 0, none⟩ := by simp
  have n2_0 : (⟨g, 2, none⟩ : Addr) ≠ ⟨g, 0, none⟩ := by simp
  have n3_0 : (⟨g, 3, none⟩ : Addr) ≠ ⟨g, 0, none⟩ := by simp
  have n4_0 : (⟨g, 4, none⟩ : Addr) ≠ ⟨g, 0, none⟩ := by simp
  have n5_0 : (⟨g, 5, none⟩ : Addr) ≠ ⟨g, 0, none⟩ := by simp
  have n6_0 : (⟨g, 6, none⟩ : Addr) ≠ ⟨g, 0, none⟩ := by simp
  have n7_0 : (⟨g, 7, none⟩ : Addr) ≠ ⟨g, 0, none⟩ := by simp
  have n8_0 : (⟨g, 8, none⟩ : Addr) ≠ ⟨g, 0, none⟩ := by simp
  have n9_0 : (⟨g, 9, none⟩ : Addr) ≠ ⟨g, 0, none⟩ := by simp
  have n2_1 : (⟨g, 2, none⟩ : Addr) ≠ ⟨g, 1, none⟩ := by simp
  have n3_1 : (⟨g, 3, none⟩ : Addr) ≠ ⟨g, 1, none⟩ := by simp
  have n4_1 : (⟨g, 4, none⟩ : Addr) ≠ ⟨g, 1, none⟩ := by simp
  have n5_1 : (⟨g, 5, none⟩ : Addr) ≠ ⟨g, 1, none⟩ := by simp
  have n6_1 : (⟨g, 6, none⟩ : Addr) ≠ ⟨g, 1, none⟩ := by simp
  have n7_1 : (⟨g, 7, none⟩ : Addr) ≠ ⟨g, 1, none⟩ := by simp
  have n8_1 : (⟨g, 8, none⟩ : Addr) ≠ ⟨g, 1, none⟩ := by simp
  have n9_1 : (⟨g, 9, none⟩ : Addr) ≠ ⟨g, 1, none⟩ := by simp
  have n3_2 : (⟨g, 3, none⟩ : Addr) ≠ ⟨g, 2, none⟩ := by simp
  have n4_2 : (⟨g, 4, none⟩ : Addr) ≠ ⟨g, 2, none⟩ := by simp
  have n5_2 : (⟨g, 5, none⟩ : Addr) ≠ ⟨g, 2, none⟩ := by simp
  have n6_2 : (⟨g, 6, none⟩ : Addr) ≠ ⟨g, 2, none⟩ := by simp
  have n7_2 : (⟨g, 7, none⟩ : Addr) ≠ ⟨g, 2, none⟩ := by simp
  have n8_2 : (⟨g, 8, none⟩ : Addr) ≠ ⟨g, 2, none⟩ := by simp
  have n9_2 : (⟨g, 9, none⟩ : Addr) ≠ ⟨g, 2, none⟩ := by simp
  have n4_3 : (⟨g, 4, none⟩ : Addr) ≠ ⟨g, 3, none⟩ := by simp
  have n5_3 : (⟨g, 5, none⟩ : Addr) ≠ ⟨g, 3, none⟩ := by simp
  have n6_3 : (⟨g, 6, none⟩ : Addr) ≠ ⟨g, 3, none⟩ := by simp
  have n7_3 : (⟨g, 7, none⟩ : Addr) ≠ ⟨g, 3, none⟩ := by simp
  have n8_3 : (⟨g, 8, none⟩ : Addr) ≠ ⟨g, 3, none⟩ := by simp
  have n9_3 : (⟨g, 9, none⟩ : Addr) ≠ ⟨g, 3, none⟩ := by simp
  have n5_4 : (⟨g, 5, none⟩ : Addr) ≠ ⟨g, 4, none⟩ := by simp
  have n6_4 : (⟨g, 6, none⟩ : Addr) ≠ ⟨g, 4, none⟩ := by simp
  have n7_4 : (⟨g, 7, none⟩ : Addr) ≠ ⟨g, 4, none⟩ := by simp
  have n8_4 : (⟨g, 8, none⟩ : Addr) ≠ ⟨g, 4, none⟩ := by simp
  have n9_4 : (⟨g, 9, none⟩ : Addr) ≠ ⟨g, 4, none⟩ := by simp
  have n6_5 : (⟨g, 6, none⟩ : Addr) ≠ ⟨g, 5, none⟩ := by simp
  have n7_5 : (⟨g, 7, none⟩ : Addr) ≠ ⟨g, 5, none⟩ := by simp
  have n8_5 : (⟨g, 8, none⟩ : Addr) ≠ ⟨g, 5, none⟩ := by simp
  have n9_5 : (⟨g, 9, none⟩ : Addr) ≠ ⟨g, 5, none⟩ := by simp
  have n7_6 : (⟨g, 7, none⟩ : Addr) ≠ ⟨g, 6, none⟩ := by simp
  have n8_6 : (⟨g, 8, none⟩ : Addr) ≠ ⟨g, 6, none⟩ := by simp
  have n9_6 : (⟨g, 9, none⟩ : Addr) ≠ ⟨g, 6, none⟩ := by simp
  have n8_7 : (⟨g, 8, none⟩ : Addr) ≠ ⟨g, 7, none⟩ := by simp
  have n9_7 : (⟨g, 9, none⟩ : Addr) ≠ ⟨g, 7, none⟩ := by simp
  have n9_8 : (⟨g, 9, none⟩ : Addr) ≠ ⟨g, 8, none⟩ := by simp
  refine ⟨?_, ?_, ?_, ?_, ?_, ?_, ?_, ?_, ?_, ?_⟩
  · rw [World.cell?_setCell_other _ _ _ _ n9_0, World.cell?_setCell_other _ _ _ _ n8_0, World.cell?_setCell_other _ _ _ _ n7_0, World.cell?_setCell_other _ _ _ _ n6_0, World.cell?_setCell_other _ _ _ _ n5_0, World.cell?_setCell_other _ _ _ _ n4_0, World.cell?_setCell_other _ _ _ _ n3_0, World.cell?_setCell_other _ _ _ _ n2_0, World.cell?_setCell_other _ _ _ _ n1_0]
    exact got (isSome_set (isSome_set (isSome_set (isSome_set (isSome_set (isSome_set (isSome_set (isSome_set (isSome_set (vis h0) n9_0) n8_0) n7_0) n6_0) n5_0) n4_0) n3_0) n2_0) n1_0)
  · rw [World.cell?_setCell_other _ _ _ _ n9_1, World.cell?_setCell_other _ _ _ _ n8_1, World.cell?_setCell_other _ _ _ _ n7_1, World.cell?_setCell_other _ _ _ _ n6_1, World.cell?_setCell_other _ _ _ _ n5_1, World.cell?_setCell_other _ _ _ _ n4_1, World.cell?_setCell_other _ _ _ _ n3_1, World.cell?_setCell_other _ _ _ _ n2_1]
    exact got (isSome_set (isSome_set (isSome_set (isSome_set (isSome_set (isSome_set (isSome_set (isSome_set (vis h1) n9_1) n8_1) n7_1) n6_1) n5_1) n4_1) n3_1) n2_1)
  · rw [World.cell?_setCell_other _ _ _ _ n9_2, World.cell?_setCell_other _ _ _ _ n8_2, World.cell?_setCell_other _ _ _ _ n7_2, World.cell?_setCell_other _ _ _ _ n6_2, World.cell?_setCell_other _ _ _ _ n5_2, World.cell?_setCell_other _ _ _ _ n4_2, World.cell?_setCell_other _ _ _ _ n3_2]
    exact got (isSome_set (isSome_set (isSome_set (isSome_set (isSome_set (isSome_set (isSome_set (vis h2) n9_2) n8_2) n7_2) n6_2) n5_2) n4_2) n3_2)
  · rw [World.cell?_setCell_other _ _ _ _ n9_3, World.cell?_setCell_other _ _ _ _ n8_3, World.cell?_setCell_other _ _ _ _ n7_3, World.cell?_setCell_other _ _ _ _ n6_3, World.cell?_setCell_other _ _ _ _ n5_3, World.cell?_setCell_other _ _ _ _ n4_3]
    exact got (isSome_set (isSome_set (isSome_set (isSome_set (isSome_set (isSome_set (vis h3) n9_3) n8_3) n7_3) n6_3) n5_3) n4_3)
  · rw [World.cell?_setCell_other _ _ _ _ n9_4, World.cell?_setCell_other _ _ _ _ n8_4, World.cell?_setCell_other _ _ _ _ n7_4, World.cell?_setCell_other _ _ _ _ n6_4, World.cell?_setCell_other _ _ _ _ n5_4]
    exact got (isSome_set (isSome_set (isSome_set (isSome_set (isSome_set (vis h4) n9_4) n8_4) n7_4) n6_4) n5_4)
  · rw [World.cell?_setCell_other _ _ _ _ n9_5, World.cell?_setCell_other _ _ _ _ n8_5, World.cell?_setCell_other _ _ _ _ n7_5, World.cell?_setCell_other _ _ _ _ n6_5]
    exact got (isSome_set (isSome_set (isSome_set (isSome_set (vis h5) n9_5) n8_5) n7_5) n6_5)
  · rw [World.cell?_setCell_other _ _ _ _ n9_6, World.cell?_setCell_other _ _ _ _ n8_6, World.cell?_setCell_other _ _ _ _ n7_6]
    exact got (isSome_set (isSome_set (isSome_set (vis h6) n9_6) n8_6) n7_6)
  · rw [World.cell?_setCell_other _ _ _ _ n9_7, World.cell?_setCell_other _ _ _ _ n8_7]
    exact got (isSome_set (isSome_set (vis h7) n9_7) n8_7)
  · rw [World.cell?_setCell_other _ _ _ _ n9_8]
    exact got (isSome_set (vis h8) n9_8)
  · exact got (vis h9)

end Mem
end Go.Proofs.YtodfgcbgiaboiaaDoor
