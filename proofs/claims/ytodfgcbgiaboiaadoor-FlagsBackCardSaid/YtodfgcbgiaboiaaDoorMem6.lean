/-
  Small laws on memory for walks, more: a box of ten cells, stored whole twice; a world at a door, by what is known of it.
-/
import Derived.Test.YtodfgcbgiaboiaaDoorMem5
namespace Go.Proofs.YtodfgcbgiaboiaaDoor
open Go Go.RowKit
namespace Mem

theorem door {R : Exit → Act → World → Prop} {E : Exit} {a : Act} {W : World} (F : World → Prop) (hF : F W) (h : ∀ W', F W' → R E a W') : R E a W := h W hF

theorem ten_twice {W W' : World} {g : Nat} {x0 x1 x2 x3 x4 x5 x6 x7 x8 x9 y0 y1 y2 y3 y4 y5 y6 y7 y8 y9 : Value} (e : W' = ((((((((((((((((((((W.setCell ⟨g, 0, none⟩ x0).setCell ⟨g, 1, none⟩ x1).setCell ⟨g, 2, none⟩ x2).setCell ⟨g, 3, none⟩ x3).setCell ⟨g, 4, none⟩ x4).setCell ⟨g, 5, none⟩ x5).setCell ⟨g, 6, none⟩ x6).setCell ⟨g, 7, none⟩ x7).setCell ⟨g, 8, none⟩ x8).setCell ⟨g, 9, none⟩ x9).setCell ⟨g, 0, none⟩ y0).setCell ⟨g, 1, none⟩ y1).setCell ⟨g, 2, none⟩ y2).setCell ⟨g, 3, none⟩ y3).setCell ⟨g, 4, none⟩ y4).setCell ⟨g, 5, none⟩ y5).setCell ⟨g, 6, none⟩ y6).setCell ⟨g, 7, none⟩ y7).setCell ⟨g, 8, none⟩ y8).setCell ⟨g, 9, none⟩ y9))
    (h0 : W.cell? ⟨g, 0, none⟩ = some (val W ⟨g, 0, none⟩))
    (h1 : W.cell? ⟨g, 1, none⟩ = some (val W ⟨g, 1, none⟩))
    (h2 : W.cell? ⟨g, 2, none⟩ = some (val W ⟨g, 2, none⟩))
    (h3 : W.cell? ⟨g, 3, none⟩ = some (val W ⟨g, 3, none⟩))
    (h4 : W.cell? ⟨g, 4, none⟩ = some (val W ⟨g, 4, none⟩))
    (h5 : W.cell? ⟨g, 5, none⟩ = some (val W ⟨g, 5, none⟩))
    (h6 : W.cell? ⟨g, 6, none⟩ = some (val W ⟨g, 6, none⟩))
    (h7 : W.cell? ⟨g, 7, none⟩ = some (val W ⟨g, 7, none⟩))
    (h8 : W.cell? ⟨g, 8, none⟩ = some (val W ⟨g, 8, none⟩))
    (h9 : W.cell? ⟨g, 9, none⟩ = some (val W ⟨g, 9, none⟩)) :
    W'.cell? ⟨g, 0, none⟩ = some y0 ∧
    W'.cell? ⟨g, 1, none⟩ = some y1 ∧
    W'.cell? ⟨g, 2, none⟩ = some y2 ∧
    W'.cell? ⟨g, 3, none⟩ = some y3 ∧
    W'.cell? ⟨g, 4, none⟩ = some y4 ∧
    W'.cell? ⟨g, 5, none⟩ = some y5 ∧
    W'.cell? ⟨g, 6, none⟩ = some y6 ∧
    W'.cell? ⟨g, 7, none⟩ = some y7 ∧
    W'.cell? ⟨g, 8, none⟩ = some y8 ∧
    W'.cell? ⟨g, 9, none⟩ = some y9 := by
  subst e
  exact ten rfl (vset (vset (vset (vset (vset (vset (vset (vset (vset (vset (vset (vset (vset (vset (vset (vset (vset (vset (vset (vset h0)))))))))))))))))))) (vset (vset (vset (vset (vset (vset (vset (vset (vset (vset (vset (vset (vset (vset (vset (vset (vset (vset (vset (vset h1)))))))))))))))))))) (vset (vset (vset (vset (vset (vset (vset (vset (vset (vset (vset (vset (vset (vset (vset (vset (vset (vset (vset (vset h2)))))))))))))))))))) (vset (vset (vset (vset (vset (vset (vset (vset (vset (vset (vset (vset (vset (vset (vset (vset (vset (vset (vset (vset h3)))))))))))))))))))) (vset (vset (vset (vset (vset (vset (vset (vset (vset (vset (vset (vset (vset (vset (vset (vset (vset (vset (vset (vset h4)))))))))))))))))))) (vset (vset (vset (vset (vset (vset (vset (vset (vset (vset (vset (vset (vset (vset (vset (vset (vset (vset (vset (vset h5)))))))))))))))))))) (vset (vset (vset (vset (vset (vset (vset (vset (vset (vset (vset (vset (vset (vset (vset (vset (vset (vset (vset (vset h6)))))))))))))))))))) (vset (vset (vset (vset (vset (vset (vset (vset (vset (vset (vset (vset (vset (vset (vset (vset (vset (vset (vset (vset h7)))))))))))))))))))) (vset (vset (vset (vset (vset (vset (vset (vset (vset (vset (vset (vset (vset (vset (vset (vset (vset (vset (vset (vset h8)))))))))))))))))))) (vset (vset (vset (vset (vset (vset (vset (vset (vset (vset (vset (vset (vset (vset (vset (vset (vset (vset (vset (vset h9))))))))))))))))))))

end Mem
end Go.Proofs.YtodfgcbgiaboiaaDoor
