/-
  Small laws on memory for walks, more: a string's iterator stays.
-/
import Derived.Test.YtodfgcbgiaboiaaDoorMem12
import Derived.Lib.OthersKept
namespace Go.Proofs.YtodfgcbgiaboiaaDoor
open Go Go.RowKit
namespace Mem
/-- In block b an iterator over the string s stands at pos. -/
def It (W : World) (b : Nat) (s : ByteArray) (pos : Nat) : Prop := W.heap[b]? = some (.stringIter s pos)
theorem itlt {W : World} {b : Nat} {s : ByteArray} {pos : Nat} (h : It W b s pos) : b < W.heap.size := (Array.getElem?_eq_some_iff.1 h).1
theorem itdrew {W : World} {b : Nat} {s : ByteArray} {pos : Nat} (h : It W b s pos) : It W.drew b s pos := h
theorem italloc {W : World} {b : Nat} {s : ByteArray} {pos : Nat} (o : Obj) (h : It W b s pos) : It (W.alloc o) b s pos := (Below.heap_alloc W o b (itlt h)).trans h
theorem itset {W : World} {b : Nat} {s : ByteArray} {pos : Nat} {a : Addr} {v : Value} (h : It W b s pos) : It (W.setCell a v) b s pos := by
  have h' : W.heap[b]? = some (.stringIter s pos) := h
  show (W.setCell a v).heap[b]? = _
  unfold World.setCell
  by_cases e : a.block = b
  · subst e
    simp [Array.getElem?_modify, h']
  · simp [Array.getElem?_modify, e, h']
theorem itbelow {W W' : World} {b : Nat} {s : ByteArray} {pos : Nat} (hb : Below W.heap.size W W') (h : It W b s pos) : It W' b s pos := (hb.block b (itlt h)).trans h
end Mem
end Go.Proofs.YtodfgcbgiaboiaaDoor
