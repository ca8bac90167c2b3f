/-
  Small laws on memory for walks, more: the cells of a block that was laid just now.
-/
import Derived.Test.YtodfgcbgiaboiaaDoorMem3
namespace Go.Proofs.YtodfgcbgiaboiaaDoor
open Go Go.RowKit
namespace Mem

theorem cnew {W : World} {c : Array Value} {t : TypeId} {n i : Nat} {v : Value} (hn : n = W.heap.size) (h : c[i]? = some v) : (W.alloc (.cells c t)).cell? ⟨n, i, none⟩ = some v := by
  rw [World.cell?_alloc_at c t n i hn]; exact h
theorem vnew {W : World} {c : Array Value} {t : TypeId} {n i : Nat} (hn : n = W.heap.size) (h : (c[i]?).isSome = true) : (W.alloc (.cells c t)).cell? ⟨n, i, none⟩ = some (val (W.alloc (.cells c t)) ⟨n, i, none⟩) :=
  vof (by rw [World.cell?_alloc_at c t n i hn]; exact h)
theorem znew {W : World} {c : Array Value} {t : TypeId} {n i : Nat} (hn : n = W.heap.size) : (W.alloc (.cells c t)).frozen? ⟨n, i, none⟩ = false := World.frozen?_alloc_at c t n i hn
end Mem
end Go.Proofs.YtodfgcbgiaboiaaDoor
