/-
  Small laws on drawn regions: one operation of the region is taken, left out, or called, by its number.
-/
import Derived.Deep.RegionHeld3
import Derived.WalkMore
namespace Go.Proofs.YtodfgcbgiaboiaaDoor
open Go
namespace Mem

section
variable {P : Program} {l : List Oper} {Q : Exit → Act → World → Prop} {md : Region.Mode} {S : World → Prop}

theorem rg_at {i : Nat} {o : Oper} {r : List Oper} (hd : l.drop i = o :: r) : (l.toArray)[i]? = some o := by
  have h : (l.drop i)[0]? = some o := by rw [hd]; rfl
  rw [List.getElem?_drop] at h
  simpa using h

theorem rg_take {fuel : Nat} {listed : Array Bool} {a : Act} {w : World} {o : Oper} {r : List Oper} {v : Value} (i : Nat) (hd : l.drop i = o :: r)
    (hs : Region.noSelect l.toArray = true) (hf : Region.free md l.toArray listed i = true) (hr : (Region.ready md l.toArray listed).contains i = true)
    (hQ : ∀ c a w, Q (.panic c) (a.put o.dst v) w → Q (.panic c) a w) (hw : Region.wanted o (yielded l.toArray a.tmps) = true)
    (hy : ∀ w, S w → (execOp a.eval o).run P w = .ok (.value v) w) (hS : S w)
    (h : wpAnyH P md l.toArray Q S fuel (listed.setIfInBounds i true) (a.put o.dst v) w) : wpAnyH P md l.toArray Q S (fuel + 1) listed a w :=
  wpAnyH_take (rg_at hd) hs hf hr hQ (Or.inl ⟨hw, hy⟩) hS h

theorem rg_off {fuel : Nat} {listed : Array Bool} {a : Act} {w : World} {o : Oper} {r : List Oper} (i : Nat) (hd : l.drop i = o :: r)
    (hs : Region.noSelect l.toArray = true) (hf : Region.free md l.toArray listed i = true) (hr : (Region.ready md l.toArray listed).contains i = true)
    (hQ : ∀ c a w, Q (.panic c) (a.put o.dst undef) w → Q (.panic c) a w) (hw : Region.wanted o (yielded l.toArray a.tmps) = false) (hS : S w)
    (h : wpAnyH P md l.toArray Q S fuel (listed.setIfInBounds i true) (a.put o.dst undef) w) : wpAnyH P md l.toArray Q S (fuel + 1) listed a w :=
  wpAnyH_take (rg_at hd) hs hf hr hQ (Or.inr ⟨hw, rfl⟩) hS h

theorem rg_call {fuel : Nat} {listed : Array Bool} {a : Act} {w : World} {o : Oper} {r : List Oper} (i : Nat) (hd : l.drop i = o :: r)
    (hr : Region.ready md l.toArray listed = [i]) (hw : Region.wanted o (yielded l.toArray a.tmps) = true)
    (h : ∀ K' : Act → World → Prop, Shut (∀ a w, S w → (S w → wpAnyH P md l.toArray Q S fuel (listed.setIfInBounds i true) a w) → K' a w) → Oper.wp P o a w K' Q) : wpAnyH P md l.toArray Q S (fuel + 1) listed a w :=
  wpAnyH_ready hr (by simp) (AllReadyH.cons (rg_at hd) (fun K hK => by rw [if_pos hw]; exact h K hK) AllReadyH.nil)
end
end Mem
end Go.Proofs.YtodfgcbgiaboiaaDoor
