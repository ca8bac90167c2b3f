/-
  Small laws on memory for walks, more: a new box among the calls of a drawn region.
-/
import Derived.Test.YtodfgcbgiaboiaaDoorMem10
import Derived.Test.YtodfgcbgiaboiaaDoorMem4
import Derived.Test.YtodfgcbgiaboiaaDoorMem7
namespace Go.Proofs.YtodfgcbgiaboiaaDoor
open Go Go.RowKit
namespace Mem

/-- Block g has n cells, and none of them is frozen. -/
def Box (W : World) (g n : Nat) : Prop := ∀ i, i < n → W.cell? ⟨g, i, none⟩ = some (val W ⟨g, i, none⟩) ∧ W.frozen? ⟨g, i, none⟩ = false
theorem box_keep {W W' : World} {g n : Nat} (h : Box W g n) (hb : Below W.heap.size W W') : Box W' g n := fun i hi => ⟨vbelow hb (h i hi).1, zbelow hb (h i hi).1 (h i hi).2⟩
theorem box_drew {W : World} {g n : Nat} (h : Box W g n) : Box W.drew g n := fun i hi => ⟨vdrew (h i hi).1, zdrew (h i hi).2⟩
theorem box_gate {R : World → Prop} {X : World} {cs : List Value} {t : TypeId} (n : Nat) (hn : cs.length = n) (h : Box (X.alloc (.cells cs.toArray t)) X.heap.size n → R (X.alloc (.cells cs.toArray t))) : R (X.alloc (.cells cs.toArray t)) :=
  h fun i hi => ⟨vnew rfl (by rw [List.getElem?_toArray, List.getElem?_eq_getElem (by omega)]; rfl), znew rfl⟩

theorem box_gated {R : World → Prop} {X : World} {cs : List Value} {t : TypeId} (n : Nat) (hn : cs.length = n) (h : Box (X.alloc (.cells cs.toArray t)).drew X.heap.size n → R (X.alloc (.cells cs.toArray t)).drew) : R (X.alloc (.cells cs.toArray t)).drew :=
  box_gate (R := fun W => R W.drew) n hn fun hb => h (box_drew hb)

section
variable {P : Program} {l : List Oper} {Q : Exit → Act → World → Prop} {md : Region.Mode} {S : World → Prop}
theorem rg_two {fuel : Nat} {listed : Array Bool} {a : Act} {w : World} {o o' : Oper} {r r' : List Oper} (i j : Nat) (hd : l.drop i = o :: r) (hd' : l.drop j = o' :: r')
    (hr : Region.ready md l.toArray listed = [i, j]) (hw : Region.wanted o (yielded l.toArray a.tmps) = true) (hw' : Region.wanted o' (yielded l.toArray a.tmps) = true)
    (h : ∀ K' : Act → World → Prop, Shut (∀ a w, S w → (S w → wpAnyH P md l.toArray Q S fuel (listed.setIfInBounds i true) a w) → K' a w) → Oper.wp P o a w K' Q)
    (h' : ∀ K' : Act → World → Prop, Shut (∀ a w, S w → (S w → wpAnyH P md l.toArray Q S fuel (listed.setIfInBounds j true) a w) → K' a w) → Oper.wp P o' a w K' Q) : wpAnyH P md l.toArray Q S (fuel + 1) listed a w :=
  wpAnyH_ready hr (by simp) (AllReadyH.cons (rg_at hd) (fun K hK => by rw [if_pos hw]; exact h K hK) (AllReadyH.cons (rg_at hd') (fun K hK => by rw [if_pos hw']; exact h' K hK) AllReadyH.nil))
end
theorem box10 {W : World} {g : Nat} (h : Box W g 10) :
    (W.cell? ⟨g, 0, none⟩ = some (val W ⟨g, 0, none⟩) ∧ W.cell? ⟨g, 1, none⟩ = some (val W ⟨g, 1, none⟩) ∧ W.cell? ⟨g, 2, none⟩ = some (val W ⟨g, 2, none⟩) ∧ W.cell? ⟨g, 3, none⟩ = some (val W ⟨g, 3, none⟩) ∧ W.cell? ⟨g, 4, none⟩ = some (val W ⟨g, 4, none⟩) ∧ W.cell? ⟨g, 5, none⟩ = some (val W ⟨g, 5, none⟩) ∧ W.cell? ⟨g, 6, none⟩ = some (val W ⟨g, 6, none⟩) ∧ W.cell? ⟨g, 7, none⟩ = some (val W ⟨g, 7, none⟩) ∧ W.cell? ⟨g, 8, none⟩ = some (val W ⟨g, 8, none⟩) ∧ W.cell? ⟨g, 9, none⟩ = some (val W ⟨g, 9, none⟩)) ∧
    W.frozen? ⟨g, 0, none⟩ = false ∧ W.frozen? ⟨g, 1, none⟩ = false ∧ W.frozen? ⟨g, 2, none⟩ = false ∧ W.frozen? ⟨g, 3, none⟩ = false ∧ W.frozen? ⟨g, 4, none⟩ = false ∧ W.frozen? ⟨g, 5, none⟩ = false ∧ W.frozen? ⟨g, 6, none⟩ = false ∧ W.frozen? ⟨g, 7, none⟩ = false ∧ W.frozen? ⟨g, 8, none⟩ = false ∧ W.frozen? ⟨g, 9, none⟩ = false :=
  ⟨⟨(h 0 (by decide)).1, (h 1 (by decide)).1, (h 2 (by decide)).1, (h 3 (by decide)).1, (h 4 (by decide)).1, (h 5 (by decide)).1, (h 6 (by decide)).1, (h 7 (by decide)).1, (h 8 (by decide)).1, (h 9 (by decide)).1⟩,
    (h 0 (by decide)).2, (h 1 (by decide)).2, (h 2 (by decide)).2, (h 3 (by decide)).2, (h 4 (by decide)).2, (h 5 (by decide)).2, (h 6 (by decide)).2, (h 7 (by decide)).2, (h 8 (by decide)).2, (h 9 (by decide)).2⟩
end Mem
end Go.Proofs.YtodfgcbgiaboiaaDoor
