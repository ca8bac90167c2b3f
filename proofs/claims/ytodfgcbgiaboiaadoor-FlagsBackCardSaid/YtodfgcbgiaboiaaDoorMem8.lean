/-
  Small laws on memory for walks, more: a box of ten cells, stored whole; a world at a gate, by what is known of it.
-/
import Derived.Test.YtodfgcbgiaboiaaDoorMem6
namespace Go.Proofs.YtodfgcbgiaboiaaDoor
open Go Go.RowKit
namespace Mem

theorem gate {R : World → Prop} {W : World} (F : World → Prop) (hF : F W) (h : ∀ W', F W' → R W') : R W := h W hF

theorem ten_once {W W' : World} {g : Nat} {x0 x1 x2 x3 x4 x5 x6 x7 x8 x9 : Value} (e : W' = ((((((((((W.setCell ⟨g, 0, none⟩ x0).setCell ⟨g, 1, none⟩ x1).setCell ⟨g, 2, none⟩ x2).setCell ⟨g, 3, none⟩ x3).setCell ⟨g, 4, none⟩ x4).setCell ⟨g, 5, none⟩ x5).setCell ⟨g, 6, none⟩ x6).setCell ⟨g, 7, none⟩ x7).setCell ⟨g, 8, none⟩ x8).setCell ⟨g, 9, none⟩ x9))
    (h0 : W.cell? ⟨g, 0, none⟩ = some (val W ⟨g, 0, none⟩))
    (h1 : W.cell? ⟨g, 1, none⟩ = some (val W ⟨g, 1, none⟩))
    (h2 : W.cell? ⟨g, 2, none⟩ = some (val W ⟨g, 2, none⟩))
    (h3 : W.cell? ⟨g, 3, none⟩ = some (val W ⟨g, 3, none⟩))
    (h4 : W.cell? ⟨g, 4, none⟩ = some (val W ⟨g, 4, none⟩))
    (h5 : W.cell? ⟨g, 5, none⟩ = some (val W ⟨g, 5, none⟩))
    (h6 : W.cell? ⟨g, 6, none⟩ = some (val W ⟨g, 6, none⟩))
    (h7 : W.cell? ⟨g, 7, none⟩ = some (val W ⟨g, 7, none⟩))
    (h8 : W.cell? ⟨g, 8, none⟩ = some (val W ⟨g, 8, none⟩))
    (h9 : W.cell? ⟨g, 9, none⟩ = some (val W ⟨g, 9, none⟩)) :
    W'.cell? ⟨g, 0, none⟩ = some x0 ∧
    W'.cell? ⟨g, 1, none⟩ = some x1 ∧
    W'.cell? ⟨g, 2, none⟩ = some x2 ∧
    W'.cell? ⟨g, 3, none⟩ = some x3 ∧
    W'.cell? ⟨g, 4, none⟩ = some x4 ∧
    W'.cell? ⟨g, 5, none⟩ = some x5 ∧
    W'.cell? ⟨g, 6, none⟩ = some x6 ∧
    W'.cell? ⟨g, 7, none⟩ = some x7 ∧
    W'.cell? ⟨g, 8, none⟩ = some x8 ∧
    W'.cell? ⟨g, 9, none⟩ = some x9 := by
  subst e
  exact ten rfl (vset (vset (vset (vset (vset (vset (vset (vset (vset (vset h0)))))))))) (vset (vset (vset (vset (vset (vset (vset (vset (vset (vset h1)))))))))) (vset (vset (vset (vset (vset (vset (vset (vset (vset (vset h2)))))))))) (vset (vset (vset (vset (vset (vset (vset (vset (vset (vset h3)))))))))) (vset (vset (vset (vset (vset (vset (vset (vset (vset (vset h4)))))))))) (vset (vset (vset (vset (vset (vset (vset (vset (vset (vset h5)))))))))) (vset (vset (vset (vset (vset (vset (vset (vset (vset (vset h6)))))))))) (vset (vset (vset (vset (vset (vset (vset (vset (vset (vset h7)))))))))) (vset (vset (vset (vset (vset (vset (vset (vset (vset (vset h8)))))))))) (vset (vset (vset (vset (vset (vset (vset (vset (vset (vset h9))))))))))

end Mem
end Go.Proofs.YtodfgcbgiaboiaaDoor
