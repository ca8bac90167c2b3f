/-
  Small laws on memory for walks: a cell that is known stays known behind new blocks, draws, stores elsewhere and calls that leave old blocks as they are; the same for 'Below'. No Go text, no program in sight.
-/
import Derived.WalkKit
import Derived.Below
namespace Go.Proofs.YtodfgcbgiaboiaaDoor
open Go Go.RowKit
namespace Mem

theorem clt {W : World} {a : Addr} {v : Value} (h : W.cell? a = some v) : a.block < W.heap.size := World.block_lt_of_cell? _ _ h
theorem cdrew {W : World} {a : Addr} {v : Value} (h : W.cell? a = some v) : W.drew.cell? a = some v := h
theorem calloc {W : World} {a : Addr} {v : Value} (o : Obj) (h : W.cell? a = some v) : (W.alloc o).cell? a = some v := by
  rw [World.cell?_alloc_lt _ _ _ (clt h)]; exact h
theorem cset {W : World} {a p : Addr} {u v : Value} (h : W.cell? a = some v) (hn : p.block ≠ a.block) : (W.setCell p u).cell? a = some v :=
  (World.cell?_of_block (Below.heap_setCell W p u a.block (Ne.symm hn))).trans h
theorem cbelow {W W' : World} {a : Addr} {v : Value} (hb : Below W.heap.size W W') (h : W.cell? a = some v) : W'.cell? a = some v := (hb.cell (clt h)).trans h
theorem bdrew {B : Nat} {a w : World} (h : Below B a w) : Below B a w.drew := ⟨h.os, h.tape, h.output, h.size, h.block⟩
theorem balloc {B : Nat} {a w : World} (h : Below B a w) (hB : B ≤ a.heap.size) (o : Obj) : Below B a (w.alloc o) := h.alloc (Nat.le_trans hB h.size) o
theorem bset {B : Nat} {a w : World} (h : Below B a w) {p : Addr} (hp : B ≤ p.block) (u : Value) : Below B a (w.setCell p u) := h.setCell hp u
theorem bbelow {B : Nat} {a w w' : World} (h : Below B a w) (hB : B ≤ a.heap.size) (hb : Below w.heap.size w w') : Below B a w' := h.trans (hb.mono (Nat.le_trans hB h.size))

/-- What a cell holds; a plain name, so that no walk looks behind it. -/
def val (W : World) (a : Addr) : Value := (W.cell? a).getD undef
theorem vof {W : World} {a : Addr} (h : (W.cell? a).isSome = true) : W.cell? a = some (val W a) := by
  unfold val
  cases hc : W.cell? a with
  | none => rw [hc] at h; cases h
  | some v => rfl
theorem vis {W : World} {a : Addr} (h : W.cell? a = some (val W a)) : (W.cell? a).isSome = true := by rw [h]; rfl
theorem vdrew {W : World} {a : Addr} (h : W.cell? a = some (val W a)) : W.drew.cell? a = some (val W.drew a) := h
theorem vblock {W W' : World} {a : Addr} (hk : W'.heap[a.block]? = W.heap[a.block]?) (h : W.cell? a = some (val W a)) : W'.cell? a = some (val W' a) :=
  vof (by rw [World.cell?_of_block hk]; exact vis h)
theorem valloc {W : World} {a : Addr} (o : Obj) (h : W.cell? a = some (val W a)) : (W.alloc o).cell? a = some (val (W.alloc o) a) := vblock (Below.heap_alloc W o a.block (clt h)) h
theorem vbelow {W W' : World} {a : Addr} (hb : Below W.heap.size W W') (h : W.cell? a = some (val W a)) : W'.cell? a = some (val W' a) := vblock (hb.block _ (clt h)) h
theorem vset {W : World} {a p : Addr} {u : Value} (h : W.cell? a = some (val W a)) : (W.setCell p u).cell? a = some (val (W.setCell p u) a) := by
  by_cases e : p = a
  · subst e; exact vof (by rw [World.cell?_setCell_same' W p u (vis h)]; rfl)
  · exact vof (by rw [World.cell?_setCell_other _ _ _ _ e]; exact vis h)
/-- What was stored into a cell that is there stands there. -/
theorem got {W : World} {a : Addr} {x : Value} (h : ((W.setCell a x).cell? a).isSome = true) : (W.setCell a x).cell? a = some x := by
  cases hc : W.cell? a with
  | some v => exact World.cell?_setCell_same _ _ _ hc
  | none =>
    exfalso
    revert h hc
    unfold World.cell? World.setCell
    simp only [Array.getElem?_modify, if_pos]
    cases W.heap[a.block]? with
    | none => simp
    | some o =>
      cases o with
      | cells c e f =>
        simp only [Option.map_some]
        by_cases hs : a.spot.isSome = true
        · simp [hs]
        · simp [hs]
      | _ => simp
theorem isSome_set {W : World} {a p : Addr} {u : Value} (h : ((W.setCell p u).cell? a).isSome = true) (hn : p ≠ a) : (W.cell? a).isSome = true := by
  rw [World.cell?_setCell_other _ _ _ _ hn] at h; exact h
/-- A struct of two cells, stored whole. -/
theorem two {W : World} {g : Nat} {x y : Value} (h0 : ((W.setCell ⟨g, 0, none⟩ x).setCell ⟨g, 1, none⟩ y).cell? ⟨g, 0, none⟩ = some (val ((W.setCell ⟨g, 0, none⟩ x).setCell ⟨g, 1, none⟩ y) ⟨g, 0, none⟩))
    (h1 : ((W.setCell ⟨g, 0, none⟩ x).setCell ⟨g, 1, none⟩ y).cell? ⟨g, 1, none⟩ = some (val ((W.setCell ⟨g, 0, none⟩ x).setCell ⟨g, 1, none⟩ y) ⟨g, 1, none⟩)) :
    ((W.setCell ⟨g, 0, none⟩ x).setCell ⟨g, 1, none⟩ y).cell? ⟨g, 0, none⟩ = some x ∧ ((W.setCell ⟨g, 0, none⟩ x).setCell ⟨g, 1, none⟩ y).cell? ⟨g, 1, none⟩ = some y := by
  have hn : (⟨g, 1, none⟩ : Addr) ≠ ⟨g, 0, none⟩ := by simp
  refine ⟨?_, got (vis h1)⟩
  rw [World.cell?_setCell_other _ _ _ _ hn]
  exact got (isSome_set (vis h0) hn)
/-- A cell that may be written. -/
theorem zdrew {W : World} {a : Addr} (h : W.frozen? a = false) : W.drew.frozen? a = false := h
theorem zblock {W W' : World} {a : Addr} (hk : W'.heap[a.block]? = W.heap[a.block]?) (h : W.frozen? a = false) : W'.frozen? a = false := by rw [World.frozen?_of_block hk]; exact h
theorem zalloc {W : World} {a : Addr} (o : Obj) (hs : W.cell? a = some (val W a)) (h : W.frozen? a = false) : (W.alloc o).frozen? a = false := zblock (Below.heap_alloc W o a.block (clt hs)) h
theorem zbelow {W W' : World} {a : Addr} (hb : Below W.heap.size W W') (hs : W.cell? a = some (val W a)) (h : W.frozen? a = false) : W'.frozen? a = false := zblock (hb.block _ (clt hs)) h
theorem zset {W : World} {a p : Addr} {u : Value} (h : W.frozen? a = false) : (W.setCell p u).frozen? a = false := by rw [World.frozen?_setCell]; exact h

end Mem
end Go.Proofs.YtodfgcbgiaboiaaDoor
