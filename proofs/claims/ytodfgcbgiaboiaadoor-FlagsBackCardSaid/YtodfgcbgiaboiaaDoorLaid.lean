/-
  The rows' witness: a world in which the three listed tables of Go's library hold what the rows say.
-/
import Derived.Test.YtodfgcbgiaboiaaDoorRows
import Derived.Test.YtodfgcbgiaboiaaDoorShelf
import Derived.Lib.LaidCaseMet
import Derived.Lib.LaidU8
import Derived.PinnedBridge
import Derived.LaidMore
import Derived.RowKit
import Derived.Stop.Joined
namespace Go.Proofs.YtodfgcbgiaboiaaDoor
open Go.RowKit

noncomputable def laidWorld (os : Os) : World :=
  let N := (World.settled Tryd.prog os).heap.size
  let w0 := World.holding Tryd.prog os ⟨#[.cells Lib.caseCells5 (Tryd.lays262_ren.t 208)], #[], []⟩
  let put (h : Array Obj) (g : Nat) (cs : Array Value) : Array Obj := h.modify g fun
    | .cells _ t frozen => .cells cs t frozen
    | o => o
  let h2 := put w0.heap 2 (Lib.firstTab.map fun z => Value.int .u8 z).toArray
  let h3 := put h2 3 ((List.range 16).flatMap fun i => [Value.int .u8 (Lib.accLo i), Value.int .u8 (Lib.accHi i)]).toArray
  let h5 := put h3 0 #[.slice (some ⟨N, 0, none⟩) 336 336]
  { w0 with heap := h5 }
theorem laid_met0 (os : Os) (args : Array Value) : laidMet Tryd.prog ([("unicode/utf8.acceptRanges", Lib.acceptData), ("unicode/utf8.first", Lib.firstData)] ++ [("unicode.CaseRanges", Lib.caseData)]) ((laidWorld os).forCall (fun _ _ => 0) ⟨#[], args, []⟩).memory :=
  laidMet_with_case (ρ := Tryd.lays262_ren) { Tryd.lays262 with } Tryd.lays262.t206 ⟨by kernel_rfl, by kernel_rfl, by kernel_rfl, by kernel_rfl, by kernel_rfl, by kernel_rfl⟩
    (l := [("unicode/utf8.acceptRanges", Lib.acceptData), ("unicode/utf8.first", Lib.firstData)])
    10 (by kernel_rfl) (by kernel_rfl) (by kernel_rfl) ((World.settled Tryd.prog default).heap.size) (Tryd.lays262_ren.t 208) (of_decide_eq_true (by kernel_rfl)) (by kernel_rfl) (by kernel_rfl) (by kernel_rfl)
theorem laid_swap {P : Program} {x y z : String × DataW Unit} {w : World} (h : laidMet P [x, y, z] w) : laidMet P [x, z, y] w := by
  obtain ⟨ps, ⟨g0, t0, c0, f0, p0, q0, a0, b0, d0, e0, ⟨g1, t1, c1, f1, p1, q1, a1, b1, d1, e1, ⟨g2, t2, c2, f2, p2, q2, a2, b2, d2, e2, rfl, rfl⟩, rfl⟩, rfl⟩, hn, hc⟩ := h
  have perm : List.Perm (MemPlace.row ⟨g0, 0, none⟩ c0.size ++ p0 ++ (MemPlace.row ⟨g1, 0, none⟩ c1.size ++ p1 ++ (MemPlace.row ⟨g2, 0, none⟩ c2.size ++ p2 ++ []))) (MemPlace.row ⟨g0, 0, none⟩ c0.size ++ p0 ++ (MemPlace.row ⟨g2, 0, none⟩ c2.size ++ p2 ++ (MemPlace.row ⟨g1, 0, none⟩ c1.size ++ p1 ++ []))) := by
    refine List.Perm.append_left _ ?_
    rw [List.append_nil, List.append_nil]
    exact List.perm_append_comm
  exact ⟨_, ⟨g0, t0, c0, f0, p0, _, a0, b0, d0, e0, ⟨g2, t2, c2, f2, p2, _, a2, b2, d2, e2, ⟨g1, t1, c1, f1, p1, [], a1, b1, d1, e1, rfl, rfl⟩, rfl⟩, rfl⟩, perm.nodup_iff.1 hn, fun b off hm => hc b off (perm.mem_iff.2 hm)⟩
def theLaid : List (String × DataW Unit) := [("unicode/utf8.acceptRanges", Rows.laid_unicode_utf8_acceptRanges), ("unicode.CaseRanges", Rows.laid_unicode_CaseRanges), ("unicode/utf8.first", Rows.laid_unicode_utf8_first)]
theorem laid_met (os : Os) (args : Array Value) : laidMetH Tryd.prog theLaid ((laidWorld os).forCall (fun _ _ => 0) ⟨#[], args, []⟩).memory := by
  rw [MakeChecks.laidMetH_plain _ _ _ (by kernel_rfl)]
  have h := laid_swap (laid_met0 os args)
  rw [← Pinned.caseRanges_eq, ← Pinned.utf8First_eq] at h
  exact h
end Go.Proofs.YtodfgcbgiaboiaaDoor
