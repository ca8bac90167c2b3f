/-
  No cell of these rows narrows 'for every input' (looked for: loops, veiled, ifaces, maps, wideKeys, modest, calm, conditions, laid).
  DERIVED. THE GIVEN ROWS OF THIS SEAT. 8 by the template 'for every input the law returns true; each argument reads behind the call as it read before'; 0 by the template 'total and deterministic' (their statements: YtncebifekimoiaaTotals.lean).
  GIVEN WITH THE SEED: the statements are not yours to turn. If you find one false, say at which input.
  Laid BY PROGRAM, IN A SANDBOX (cutbox-rows.mjs): the forced cells as the released guide's own fill.sh prints them over the translation 40ecd262d6ac772d… (all of the seat's roots in one cut). By AI agents, Wed Nov 11 2026. No macro, syntax, notation, axiom, sorry.
-/
import Derived.Test.YtncebifekimoiaaChecked
import GoSem.Claim
import GoSem.ClaimJoined
import GoSem.ClaimMapViews
import Derived.JoinedTies
import Derived.KernelRfl
namespace Go.Proofs.Ytncebifekimoiaa
/- THE CELL 'sum', in the pinned program and in every row, IS THE sha256 OF THE DUMP (.gsa) THAT YtncebifekimoiaaProg.lean LOADS. Nothing in Lean hashes anything: it is a label: what it is worth is what the hold of that sum in a sandbox is worth. -/
noncomputable def Try.pinned : Pinned := { name := "ytncebifekimoiaa", sum := "40ecd262d6ac772d1b2d0d82208d595f511aa933296b11bc2d54a39251ff8328", checked := Try.checked }
namespace Rows
def none {H : Type} : Left H := { results := [], args := [] }

/-- 'cochineallaw01.TaintSame': WHATEVER THE INPUT: true; the input reads as it did. -/
def taintSameSpec : ChangeSpec := { name := "taintSame", fn := fun _ => fun
  | [d1, d2, d3] => { results := [.lit (.bool true)], args := [d1, d2, d3] }
  | _ => none }
def taintSameRow : OpenClaim := { program := "ytncebifekimoiaa", sum := "40ecd262d6ac772d1b2d0d82208d595f511aa933296b11bc2d54a39251ff8328", func := "cochineal/cochineallaw01.TaintSame", spec := "taintSame", unfollowed := true, recurses := true, apart := false }
def TaintSameSaid : Prop := taintSameRow.holds Try.pinned (OpenSpec.ofChange taintSameSpec)

/-- ITS FALSE NEIGHBOUR: 'it returns false'. Refute it at one input. -/
def taintSameWrong : ChangeSpec := { name := "taintSame", fn := fun _ => fun
  | [d1, d2, d3] => { results := [.lit (.bool false)], args := [d1, d2, d3] }
  | _ => none }
def TaintSameWrongFalsely : Prop := taintSameRow.holds Try.pinned (OpenSpec.ofChange taintSameWrong)

/-- 'cochineallaw01.TaintJoins': WHATEVER THE INPUT: true; the input reads as it did. -/
def taintJoinsSpec : ChangeSpec := { name := "taintJoins", fn := fun _ => fun
  | [d1, d2] => { results := [.lit (.bool true)], args := [d1, d2] }
  | _ => none }
def taintJoinsRow : OpenClaim := { program := "ytncebifekimoiaa", sum := "40ecd262d6ac772d1b2d0d82208d595f511aa933296b11bc2d54a39251ff8328", func := "cochineal/cochineallaw01.TaintJoins", spec := "taintJoins", unfollowed := true, recurses := true, apart := false }
def TaintJoinsSaid : Prop := taintJoinsRow.holds Try.pinned (OpenSpec.ofChange taintJoinsSpec)

/-- ITS FALSE NEIGHBOUR: 'it returns false'. Refute it at one input. -/
def taintJoinsWrong : ChangeSpec := { name := "taintJoins", fn := fun _ => fun
  | [d1, d2] => { results := [.lit (.bool false)], args := [d1, d2] }
  | _ => none }
def TaintJoinsWrongFalsely : Prop := taintJoinsRow.holds Try.pinned (OpenSpec.ofChange taintJoinsWrong)

/-- 'cochineallaw01.TaintTight': WHATEVER THE INPUT: true; the input reads as it did. -/
def taintTightSpec : ChangeSpec := { name := "taintTight", fn := fun _ => fun
  | [d1, d2] => { results := [.lit (.bool true)], args := [d1, d2] }
  | _ => none }
def taintTightRow : OpenClaim := { program := "ytncebifekimoiaa", sum := "40ecd262d6ac772d1b2d0d82208d595f511aa933296b11bc2d54a39251ff8328", func := "cochineal/cochineallaw01.TaintTight", spec := "taintTight", unfollowed := true, recurses := true, apart := false }
def TaintTightSaid : Prop := taintTightRow.holds Try.pinned (OpenSpec.ofChange taintTightSpec)

/-- ITS FALSE NEIGHBOUR: 'it returns false'. Refute it at one input. -/
def taintTightWrong : ChangeSpec := { name := "taintTight", fn := fun _ => fun
  | [d1, d2] => { results := [.lit (.bool false)], args := [d1, d2] }
  | _ => none }
def TaintTightWrongFalsely : Prop := taintTightRow.holds Try.pinned (OpenSpec.ofChange taintTightWrong)

/-- 'cochineallaw01.TaintMoves': WHATEVER THE INPUT: true; the input reads as it did. -/
def taintMovesSpec : ChangeSpec := { name := "taintMoves", fn := fun _ => fun
  | [d1, d2] => { results := [.lit (.bool true)], args := [d1, d2] }
  | _ => none }
def taintMovesRow : OpenClaim := { program := "ytncebifekimoiaa", sum := "40ecd262d6ac772d1b2d0d82208d595f511aa933296b11bc2d54a39251ff8328", func := "cochineal/cochineallaw01.TaintMoves", spec := "taintMoves", unfollowed := true, recurses := true, apart := false }
def TaintMovesSaid : Prop := taintMovesRow.holds Try.pinned (OpenSpec.ofChange taintMovesSpec)

/-- ITS FALSE NEIGHBOUR: 'it returns false'. Refute it at one input. -/
def taintMovesWrong : ChangeSpec := { name := "taintMoves", fn := fun _ => fun
  | [d1, d2] => { results := [.lit (.bool false)], args := [d1, d2] }
  | _ => none }
def TaintMovesWrongFalsely : Prop := taintMovesRow.holds Try.pinned (OpenSpec.ofChange taintMovesWrong)

/-- 'cochineallaw01.TaintBits': WHATEVER THE INPUT: true; the input reads as it did. -/
def taintBitsSpec : ChangeSpec := { name := "taintBits", fn := fun _ => fun
  | [d1, d2, d3] => { results := [.lit (.bool true)], args := [d1, d2, d3] }
  | _ => none }
def taintBitsRow : OpenClaim := { program := "ytncebifekimoiaa", sum := "40ecd262d6ac772d1b2d0d82208d595f511aa933296b11bc2d54a39251ff8328", func := "cochineal/cochineallaw01.TaintBits", spec := "taintBits", unfollowed := true, recurses := true, apart := false }
def TaintBitsSaid : Prop := taintBitsRow.holds Try.pinned (OpenSpec.ofChange taintBitsSpec)

/-- ITS FALSE NEIGHBOUR: 'it returns false'. Refute it at one input. -/
def taintBitsWrong : ChangeSpec := { name := "taintBits", fn := fun _ => fun
  | [d1, d2, d3] => { results := [.lit (.bool false)], args := [d1, d2, d3] }
  | _ => none }
def TaintBitsWrongFalsely : Prop := taintBitsRow.holds Try.pinned (OpenSpec.ofChange taintBitsWrong)

/-- 'cochineallaw01.TaintBack': WHATEVER THE INPUT: true; the input reads as it did. -/
def taintBackSpec : ChangeSpec := { name := "taintBack", fn := fun _ => fun
  | [d1, d2] => { results := [.lit (.bool true)], args := [d1, d2] }
  | _ => none }
def taintBackRow : OpenClaim := { program := "ytncebifekimoiaa", sum := "40ecd262d6ac772d1b2d0d82208d595f511aa933296b11bc2d54a39251ff8328", func := "cochineal/cochineallaw01.TaintBack", spec := "taintBack", unfollowed := true, recurses := true, apart := false }
def TaintBackSaid : Prop := taintBackRow.holds Try.pinned (OpenSpec.ofChange taintBackSpec)

/-- ITS FALSE NEIGHBOUR: 'it returns false'. Refute it at one input. -/
def taintBackWrong : ChangeSpec := { name := "taintBack", fn := fun _ => fun
  | [d1, d2] => { results := [.lit (.bool false)], args := [d1, d2] }
  | _ => none }
def TaintBackWrongFalsely : Prop := taintBackRow.holds Try.pinned (OpenSpec.ofChange taintBackWrong)

/-- 'cochineallaw01.TaintKeeps': WHATEVER THE INPUT: true; the input reads as it did. -/
def taintKeepsSpec : ChangeSpec := { name := "taintKeeps", fn := fun _ => fun
  | [d1, d2, d3] => { results := [.lit (.bool true)], args := [d1, d2, d3] }
  | _ => none }
def taintKeepsRow : OpenClaim := { program := "ytncebifekimoiaa", sum := "40ecd262d6ac772d1b2d0d82208d595f511aa933296b11bc2d54a39251ff8328", func := "cochineal/cochineallaw01.TaintKeeps", spec := "taintKeeps", unfollowed := true, recurses := true, apart := false }
def TaintKeepsSaid : Prop := taintKeepsRow.holds Try.pinned (OpenSpec.ofChange taintKeepsSpec)

/-- ITS FALSE NEIGHBOUR: 'it returns false'. Refute it at one input. -/
def taintKeepsWrong : ChangeSpec := { name := "taintKeeps", fn := fun _ => fun
  | [d1, d2, d3] => { results := [.lit (.bool false)], args := [d1, d2, d3] }
  | _ => none }
def TaintKeepsWrongFalsely : Prop := taintKeepsRow.holds Try.pinned (OpenSpec.ofChange taintKeepsWrong)

/-- 'cochineallaw01.TaintFewer': WHATEVER THE INPUT: true; the input reads as it did. -/
def taintFewerSpec : ChangeSpec := { name := "taintFewer", fn := fun _ => fun
  | [d1, d2, d3] => { results := [.lit (.bool true)], args := [d1, d2, d3] }
  | _ => none }
def taintFewerRow : OpenClaim := { program := "ytncebifekimoiaa", sum := "40ecd262d6ac772d1b2d0d82208d595f511aa933296b11bc2d54a39251ff8328", func := "cochineal/cochineallaw01.TaintFewer", spec := "taintFewer", unfollowed := true, recurses := true, apart := false }
def TaintFewerSaid : Prop := taintFewerRow.holds Try.pinned (OpenSpec.ofChange taintFewerSpec)

/-- ITS FALSE NEIGHBOUR: 'it returns false'. Refute it at one input. -/
def taintFewerWrong : ChangeSpec := { name := "taintFewer", fn := fun _ => fun
  | [d1, d2, d3] => { results := [.lit (.bool false)], args := [d1, d2, d3] }
  | _ => none }
def TaintFewerWrongFalsely : Prop := taintFewerRow.holds Try.pinned (OpenSpec.ofChange taintFewerWrong)

/- THE SECOND FORM. 'bulk': how many values and letters a reading holds, each counted each time it is reached (what is shared counts as often as it is met; a slice's spare places count too). A statement '..UptoSaid' is the law's where the arguments, and the package variables that the reading takes, are together of bulk at most 1048576: NARROWER than '..Said'. Prove '..Said' where nothing that the law and all that it calls make is longer than what came in: it says more and counts as full. Else prove '..UptoSaid'. A law counts once. -/
mutual
def uptoBulk {H : Type} : DataW H → Nat
  | .lit (.string bytes) => bytes.length + 1
  | .lit _ => 1
  | .nil => 1
  | .ptr d => uptoBulk d + 1
  | .slice elems spare => uptoBulkAll elems + uptoBulkAll spare + 1
  | .agg parts => uptoBulkAll parts + 1
  | .iface _ d => uptoBulk d + 1
  | .map entries => uptoBulkEntries entries + 1
  | .held _ => 1
def uptoBulkAll {H : Type} : List (DataW H) → Nat
  | [] => 0
  | d :: r => uptoBulk d + uptoBulkAll r
def uptoBulkEntries {H : Type} : List (Lit × DataW H) → Nat
  | [] => 0
  | x :: r => uptoBulkEntry x + uptoBulkEntries r
def uptoBulkEntry {H : Type} : Lit × DataW H → Nat
  | (.string bytes, d) => bytes.length + uptoBulk d + 1
  | (_, d) => uptoBulk d + 1
 end
def uptoSmall : (H : Type) → List (DataW H) → Bool := fun _ ds => decide (uptoBulkAll ds ≤ 1048576)
def OpenSpec.upto (s : _root_.Go.ChangeSpec) : _root_.Go.OpenSpec := { _root_.Go.OpenSpec.ofChange s with cond := some uptoSmall }

/-- 'cochineallaw01.TaintSame', WHERE WHAT IT READS IS OF BULK AT MOST 1048576: true; the input reads as it did. -/
def taintSameUptoRow : OpenClaim := { program := "ytncebifekimoiaa", sum := "40ecd262d6ac772d1b2d0d82208d595f511aa933296b11bc2d54a39251ff8328", func := "cochineal/cochineallaw01.TaintSame", spec := "taintSame", unfollowed := true, recurses := true, apart := false, narrowed := true }
def TaintSameUptoSaid : Prop := taintSameUptoRow.holds Try.pinned (OpenSpec.upto taintSameSpec)

/-- 'cochineallaw01.TaintJoins', WHERE WHAT IT READS IS OF BULK AT MOST 1048576: true; the input reads as it did. -/
def taintJoinsUptoRow : OpenClaim := { program := "ytncebifekimoiaa", sum := "40ecd262d6ac772d1b2d0d82208d595f511aa933296b11bc2d54a39251ff8328", func := "cochineal/cochineallaw01.TaintJoins", spec := "taintJoins", unfollowed := true, recurses := true, apart := false, narrowed := true }
def TaintJoinsUptoSaid : Prop := taintJoinsUptoRow.holds Try.pinned (OpenSpec.upto taintJoinsSpec)

/-- 'cochineallaw01.TaintTight', WHERE WHAT IT READS IS OF BULK AT MOST 1048576: true; the input reads as it did. -/
def taintTightUptoRow : OpenClaim := { program := "ytncebifekimoiaa", sum := "40ecd262d6ac772d1b2d0d82208d595f511aa933296b11bc2d54a39251ff8328", func := "cochineal/cochineallaw01.TaintTight", spec := "taintTight", unfollowed := true, recurses := true, apart := false, narrowed := true }
def TaintTightUptoSaid : Prop := taintTightUptoRow.holds Try.pinned (OpenSpec.upto taintTightSpec)

/-- 'cochineallaw01.TaintMoves', WHERE WHAT IT READS IS OF BULK AT MOST 1048576: true; the input reads as it did. -/
def taintMovesUptoRow : OpenClaim := { program := "ytncebifekimoiaa", sum := "40ecd262d6ac772d1b2d0d82208d595f511aa933296b11bc2d54a39251ff8328", func := "cochineal/cochineallaw01.TaintMoves", spec := "taintMoves", unfollowed := true, recurses := true, apart := false, narrowed := true }
def TaintMovesUptoSaid : Prop := taintMovesUptoRow.holds Try.pinned (OpenSpec.upto taintMovesSpec)

/-- 'cochineallaw01.TaintBits', WHERE WHAT IT READS IS OF BULK AT MOST 1048576: true; the input reads as it did. -/
def taintBitsUptoRow : OpenClaim := { program := "ytncebifekimoiaa", sum := "40ecd262d6ac772d1b2d0d82208d595f511aa933296b11bc2d54a39251ff8328", func := "cochineal/cochineallaw01.TaintBits", spec := "taintBits", unfollowed := true, recurses := true, apart := false, narrowed := true }
def TaintBitsUptoSaid : Prop := taintBitsUptoRow.holds Try.pinned (OpenSpec.upto taintBitsSpec)

/-- 'cochineallaw01.TaintBack', WHERE WHAT IT READS IS OF BULK AT MOST 1048576: true; the input reads as it did. -/
def taintBackUptoRow : OpenClaim := { program := "ytncebifekimoiaa", sum := "40ecd262d6ac772d1b2d0d82208d595f511aa933296b11bc2d54a39251ff8328", func := "cochineal/cochineallaw01.TaintBack", spec := "taintBack", unfollowed := true, recurses := true, apart := false, narrowed := true }
def TaintBackUptoSaid : Prop := taintBackUptoRow.holds Try.pinned (OpenSpec.upto taintBackSpec)

/-- 'cochineallaw01.TaintKeeps', WHERE WHAT IT READS IS OF BULK AT MOST 1048576: true; the input reads as it did. -/
def taintKeepsUptoRow : OpenClaim := { program := "ytncebifekimoiaa", sum := "40ecd262d6ac772d1b2d0d82208d595f511aa933296b11bc2d54a39251ff8328", func := "cochineal/cochineallaw01.TaintKeeps", spec := "taintKeeps", unfollowed := true, recurses := true, apart := false, narrowed := true }
def TaintKeepsUptoSaid : Prop := taintKeepsUptoRow.holds Try.pinned (OpenSpec.upto taintKeepsSpec)

/-- 'cochineallaw01.TaintFewer', WHERE WHAT IT READS IS OF BULK AT MOST 1048576: true; the input reads as it did. -/
def taintFewerUptoRow : OpenClaim := { program := "ytncebifekimoiaa", sum := "40ecd262d6ac772d1b2d0d82208d595f511aa933296b11bc2d54a39251ff8328", func := "cochineal/cochineallaw01.TaintFewer", spec := "taintFewer", unfollowed := true, recurses := true, apart := false, narrowed := true }
def TaintFewerUptoSaid : Prop := taintFewerUptoRow.holds Try.pinned (OpenSpec.upto taintFewerSpec)

end Rows
end Go.Proofs.Ytncebifekimoiaa
