/-
  No cell of these rows narrows 'for every input' (looked for: loops, veiled, ifaces, maps, wideKeys, modest, calm, conditions, laid).
  DERIVED. THE GIVEN ROWS OF THIS SEAT. 8 by the template 'for every input the law returns true; each argument reads behind the call as it read before'; 0 by the template 'total and deterministic' (their statements: YtdpoebmahoipbaaTotals.lean).
  GIVEN WITH THE SEED: the statements are not yours to turn. If you find one false, say at which input.
  Laid BY PROGRAM, IN A SANDBOX (cutbox-rows.mjs): the forced cells as the released guide's own fill.sh prints them over the translation e5ecfdf00a76e7e3… (all of the seat's roots in one cut). By AI agents, Wed Nov 11 2026. No macro, syntax, notation, axiom, sorry.
-/
import Derived.Test.YtdpoebmahoipbaaChecked
import GoSem.Claim
import GoSem.ClaimJoined
import GoSem.ClaimMapViews
import Derived.JoinedTies
import Derived.KernelRfl
namespace Go.Proofs.Ytdpoebmahoipbaa
/- THE CELL 'sum', in the pinned program and in every row, IS THE sha256 OF THE DUMP (.gsa) THAT YtdpoebmahoipbaaProg.lean LOADS. Nothing in Lean hashes anything: it is a label: what it is worth is what the hold of that sum in a sandbox is worth. -/
noncomputable def Try.pinned : Pinned := { name := "ytdpoebmahoipbaa", sum := "e5ecfdf00a76e7e3910c7c17b068c528de5d1eee543da455ddb9b08d6500393a", checked := Try.checked }
namespace Rows
def none {H : Type} : Left H := { results := [], args := [] }

/-- 'cochineallaw02.SumsAdd': WHATEVER THE INPUT: true; the input reads as it did. -/
def sumsAddSpec : ChangeSpec := { name := "sumsAdd", fn := fun _ => fun
  | [d1, d2, d3] => { results := [.lit (.bool true)], args := [d1, d2, d3] }
  | _ => none }
def sumsAddRow : OpenClaim := { program := "ytdpoebmahoipbaa", sum := "e5ecfdf00a76e7e3910c7c17b068c528de5d1eee543da455ddb9b08d6500393a", func := "cochineal/cochineallaw02.SumsAdd", spec := "sumsAdd", unfollowed := true, recurses := true, apart := false }
def SumsAddSaid : Prop := sumsAddRow.holds Try.pinned (OpenSpec.ofChange sumsAddSpec)

/-- ITS FALSE NEIGHBOUR: 'it returns false'. Refute it at one input. -/
def sumsAddWrong : ChangeSpec := { name := "sumsAdd", fn := fun _ => fun
  | [d1, d2, d3] => { results := [.lit (.bool false)], args := [d1, d2, d3] }
  | _ => none }
def SumsAddWrongFalsely : Prop := sumsAddRow.holds Try.pinned (OpenSpec.ofChange sumsAddWrong)

/-- 'cochineallaw02.SumsSub': WHATEVER THE INPUT: true; the input reads as it did. -/
def sumsSubSpec : ChangeSpec := { name := "sumsSub", fn := fun _ => fun
  | [d1, d2, d3] => { results := [.lit (.bool true)], args := [d1, d2, d3] }
  | _ => none }
def sumsSubRow : OpenClaim := { program := "ytdpoebmahoipbaa", sum := "e5ecfdf00a76e7e3910c7c17b068c528de5d1eee543da455ddb9b08d6500393a", func := "cochineal/cochineallaw02.SumsSub", spec := "sumsSub", unfollowed := true, recurses := true, apart := false }
def SumsSubSaid : Prop := sumsSubRow.holds Try.pinned (OpenSpec.ofChange sumsSubSpec)

/-- ITS FALSE NEIGHBOUR: 'it returns false'. Refute it at one input. -/
def sumsSubWrong : ChangeSpec := { name := "sumsSub", fn := fun _ => fun
  | [d1, d2, d3] => { results := [.lit (.bool false)], args := [d1, d2, d3] }
  | _ => none }
def SumsSubWrongFalsely : Prop := sumsSubRow.holds Try.pinned (OpenSpec.ofChange sumsSubWrong)

/-- 'cochineallaw02.SumsBack': WHATEVER THE INPUT: true; the input reads as it did. -/
def sumsBackSpec : ChangeSpec := { name := "sumsBack", fn := fun _ => fun
  | [d1, d2, d3] => { results := [.lit (.bool true)], args := [d1, d2, d3] }
  | _ => none }
def sumsBackRow : OpenClaim := { program := "ytdpoebmahoipbaa", sum := "e5ecfdf00a76e7e3910c7c17b068c528de5d1eee543da455ddb9b08d6500393a", func := "cochineal/cochineallaw02.SumsBack", spec := "sumsBack", unfollowed := true, recurses := true, apart := false }
def SumsBackSaid : Prop := sumsBackRow.holds Try.pinned (OpenSpec.ofChange sumsBackSpec)

/-- ITS FALSE NEIGHBOUR: 'it returns false'. Refute it at one input. -/
def sumsBackWrong : ChangeSpec := { name := "sumsBack", fn := fun _ => fun
  | [d1, d2, d3] => { results := [.lit (.bool false)], args := [d1, d2, d3] }
  | _ => none }
def SumsBackWrongFalsely : Prop := sumsBackRow.holds Try.pinned (OpenSpec.ofChange sumsBackWrong)

/-- 'cochineallaw02.SumsDigits': WHATEVER THE INPUT: true; the input reads as it did. -/
def sumsDigitsSpec : ChangeSpec := { name := "sumsDigits", fn := fun _ => fun
  | [d1, d2, d3] => { results := [.lit (.bool true)], args := [d1, d2, d3] }
  | _ => none }
def sumsDigitsRow : OpenClaim := { program := "ytdpoebmahoipbaa", sum := "e5ecfdf00a76e7e3910c7c17b068c528de5d1eee543da455ddb9b08d6500393a", func := "cochineal/cochineallaw02.SumsDigits", spec := "sumsDigits", unfollowed := true, recurses := true, apart := false }
def SumsDigitsSaid : Prop := sumsDigitsRow.holds Try.pinned (OpenSpec.ofChange sumsDigitsSpec)

/-- ITS FALSE NEIGHBOUR: 'it returns false'. Refute it at one input. -/
def sumsDigitsWrong : ChangeSpec := { name := "sumsDigits", fn := fun _ => fun
  | [d1, d2, d3] => { results := [.lit (.bool false)], args := [d1, d2, d3] }
  | _ => none }
def SumsDigitsWrongFalsely : Prop := sumsDigitsRow.holds Try.pinned (OpenSpec.ofChange sumsDigitsWrong)

/-- 'cochineallaw02.SumsSigns': WHATEVER THE INPUT: true; the input reads as it did. -/
def sumsSignsSpec : ChangeSpec := { name := "sumsSigns", fn := fun _ => fun
  | [d1, d2, d3] => { results := [.lit (.bool true)], args := [d1, d2, d3] }
  | _ => none }
def sumsSignsRow : OpenClaim := { program := "ytdpoebmahoipbaa", sum := "e5ecfdf00a76e7e3910c7c17b068c528de5d1eee543da455ddb9b08d6500393a", func := "cochineal/cochineallaw02.SumsSigns", spec := "sumsSigns", unfollowed := true, recurses := true, apart := false }
def SumsSignsSaid : Prop := sumsSignsRow.holds Try.pinned (OpenSpec.ofChange sumsSignsSpec)

/-- ITS FALSE NEIGHBOUR: 'it returns false'. Refute it at one input. -/
def sumsSignsWrong : ChangeSpec := { name := "sumsSigns", fn := fun _ => fun
  | [d1, d2, d3] => { results := [.lit (.bool false)], args := [d1, d2, d3] }
  | _ => none }
def SumsSignsWrongFalsely : Prop := sumsSignsRow.holds Try.pinned (OpenSpec.ofChange sumsSignsWrong)

/-- 'cochineallaw02.SumsFewer': WHATEVER THE INPUT: true; the input reads as it did. -/
def sumsFewerSpec : ChangeSpec := { name := "sumsFewer", fn := fun _ => fun
  | [d] => { results := [.lit (.bool true)], args := [d] }
  | _ => none }
def sumsFewerRow : OpenClaim := { program := "ytdpoebmahoipbaa", sum := "e5ecfdf00a76e7e3910c7c17b068c528de5d1eee543da455ddb9b08d6500393a", func := "cochineal/cochineallaw02.SumsFewer", spec := "sumsFewer", unfollowed := true, recurses := true, apart := false }
def SumsFewerSaid : Prop := sumsFewerRow.holds Try.pinned (OpenSpec.ofChange sumsFewerSpec)

/-- ITS FALSE NEIGHBOUR: 'it returns false'. Refute it at one input. -/
def sumsFewerWrong : ChangeSpec := { name := "sumsFewer", fn := fun _ => fun
  | [d] => { results := [.lit (.bool false)], args := [d] }
  | _ => none }
def SumsFewerWrongFalsely : Prop := sumsFewerRow.holds Try.pinned (OpenSpec.ofChange sumsFewerWrong)

/-- 'cochineallaw02.SumsCompare': WHATEVER THE INPUT: true; the input reads as it did. -/
def sumsCompareSpec : ChangeSpec := { name := "sumsCompare", fn := fun _ => fun
  | [d1, d2, d3] => { results := [.lit (.bool true)], args := [d1, d2, d3] }
  | _ => none }
def sumsCompareRow : OpenClaim := { program := "ytdpoebmahoipbaa", sum := "e5ecfdf00a76e7e3910c7c17b068c528de5d1eee543da455ddb9b08d6500393a", func := "cochineal/cochineallaw02.SumsCompare", spec := "sumsCompare", unfollowed := true, recurses := true, apart := false }
def SumsCompareSaid : Prop := sumsCompareRow.holds Try.pinned (OpenSpec.ofChange sumsCompareSpec)

/-- ITS FALSE NEIGHBOUR: 'it returns false'. Refute it at one input. -/
def sumsCompareWrong : ChangeSpec := { name := "sumsCompare", fn := fun _ => fun
  | [d1, d2, d3] => { results := [.lit (.bool false)], args := [d1, d2, d3] }
  | _ => none }
def SumsCompareWrongFalsely : Prop := sumsCompareRow.holds Try.pinned (OpenSpec.ofChange sumsCompareWrong)

/-- 'cochineallaw02.SumsKeep': WHATEVER THE INPUT: true; the input reads as it did. -/
def sumsKeepSpec : ChangeSpec := { name := "sumsKeep", fn := fun _ => fun
  | [d] => { results := [.lit (.bool true)], args := [d] }
  | _ => none }
def sumsKeepRow : OpenClaim := { program := "ytdpoebmahoipbaa", sum := "e5ecfdf00a76e7e3910c7c17b068c528de5d1eee543da455ddb9b08d6500393a", func := "cochineal/cochineallaw02.SumsKeep", spec := "sumsKeep", unfollowed := true, recurses := true, apart := false }
def SumsKeepSaid : Prop := sumsKeepRow.holds Try.pinned (OpenSpec.ofChange sumsKeepSpec)

/-- ITS FALSE NEIGHBOUR: 'it returns false'. Refute it at one input. -/
def sumsKeepWrong : ChangeSpec := { name := "sumsKeep", fn := fun _ => fun
  | [d] => { results := [.lit (.bool false)], args := [d] }
  | _ => none }
def SumsKeepWrongFalsely : Prop := sumsKeepRow.holds Try.pinned (OpenSpec.ofChange sumsKeepWrong)

/- THE SECOND FORM. 'bulk': how many values and letters a reading holds, each counted each time it is reached (what is shared counts as often as it is met; a slice's spare places count too). A statement '..UptoSaid' is the law's where the arguments, and the package variables that the reading takes, are together of bulk at most 1048576: NARROWER than '..Said'. Prove '..Said' where nothing that the law and all that it calls make is longer than what came in: it says more and counts as full. Else prove '..UptoSaid'. A law counts once. -/
mutual
def uptoBulk {H : Type} : DataW H → Nat
  | .lit (.string bytes) => bytes.length + 1
  | .lit _ => 1
  | .nil => 1
  | .ptr d => uptoBulk d + 1
  | .slice elems spare => uptoBulkAll elems + uptoBulkAll spare + 1
  | .agg parts => uptoBulkAll parts + 1
  | .iface _ d => uptoBulk d + 1
  | .map entries => uptoBulkEntries entries + 1
  | .held _ => 1
def uptoBulkAll {H : Type} : List (DataW H) → Nat
  | [] => 0
  | d :: r => uptoBulk d + uptoBulkAll r
def uptoBulkEntries {H : Type} : List (Lit × DataW H) → Nat
  | [] => 0
  | x :: r => uptoBulkEntry x + uptoBulkEntries r
def uptoBulkEntry {H : Type} : Lit × DataW H → Nat
  | (.string bytes, d) => bytes.length + uptoBulk d + 1
  | (_, d) => uptoBulk d + 1
 end
def uptoSmall : (H : Type) → List (DataW H) → Bool := fun _ ds => decide (uptoBulkAll ds ≤ 1048576)
def OpenSpec.upto (s : _root_.Go.ChangeSpec) : _root_.Go.OpenSpec := { _root_.Go.OpenSpec.ofChange s with cond := some uptoSmall }

/-- 'cochineallaw02.SumsAdd', WHERE WHAT IT READS IS OF BULK AT MOST 1048576: true; the input reads as it did. -/
def sumsAddUptoRow : OpenClaim := { program := "ytdpoebmahoipbaa", sum := "e5ecfdf00a76e7e3910c7c17b068c528de5d1eee543da455ddb9b08d6500393a", func := "cochineal/cochineallaw02.SumsAdd", spec := "sumsAdd", unfollowed := true, recurses := true, apart := false, narrowed := true }
def SumsAddUptoSaid : Prop := sumsAddUptoRow.holds Try.pinned (OpenSpec.upto sumsAddSpec)

/-- 'cochineallaw02.SumsSub', WHERE WHAT IT READS IS OF BULK AT MOST 1048576: true; the input reads as it did. -/
def sumsSubUptoRow : OpenClaim := { program := "ytdpoebmahoipbaa", sum := "e5ecfdf00a76e7e3910c7c17b068c528de5d1eee543da455ddb9b08d6500393a", func := "cochineal/cochineallaw02.SumsSub", spec := "sumsSub", unfollowed := true, recurses := true, apart := false, narrowed := true }
def SumsSubUptoSaid : Prop := sumsSubUptoRow.holds Try.pinned (OpenSpec.upto sumsSubSpec)

/-- 'cochineallaw02.SumsBack', WHERE WHAT IT READS IS OF BULK AT MOST 1048576: true; the input reads as it did. -/
def sumsBackUptoRow : OpenClaim := { program := "ytdpoebmahoipbaa", sum := "e5ecfdf00a76e7e3910c7c17b068c528de5d1eee543da455ddb9b08d6500393a", func := "cochineal/cochineallaw02.SumsBack", spec := "sumsBack", unfollowed := true, recurses := true, apart := false, narrowed := true }
def SumsBackUptoSaid : Prop := sumsBackUptoRow.holds Try.pinned (OpenSpec.upto sumsBackSpec)

/-- 'cochineallaw02.SumsDigits', WHERE WHAT IT READS IS OF BULK AT MOST 1048576: true; the input reads as it did. -/
def sumsDigitsUptoRow : OpenClaim := { program := "ytdpoebmahoipbaa", sum := "e5ecfdf00a76e7e3910c7c17b068c528de5d1eee543da455ddb9b08d6500393a", func := "cochineal/cochineallaw02.SumsDigits", spec := "sumsDigits", unfollowed := true, recurses := true, apart := false, narrowed := true }
def SumsDigitsUptoSaid : Prop := sumsDigitsUptoRow.holds Try.pinned (OpenSpec.upto sumsDigitsSpec)

/-- 'cochineallaw02.SumsSigns', WHERE WHAT IT READS IS OF BULK AT MOST 1048576: true; the input reads as it did. -/
def sumsSignsUptoRow : OpenClaim := { program := "ytdpoebmahoipbaa", sum := "e5ecfdf00a76e7e3910c7c17b068c528de5d1eee543da455ddb9b08d6500393a", func := "cochineal/cochineallaw02.SumsSigns", spec := "sumsSigns", unfollowed := true, recurses := true, apart := false, narrowed := true }
def SumsSignsUptoSaid : Prop := sumsSignsUptoRow.holds Try.pinned (OpenSpec.upto sumsSignsSpec)

/-- 'cochineallaw02.SumsFewer', WHERE WHAT IT READS IS OF BULK AT MOST 1048576: true; the input reads as it did. -/
def sumsFewerUptoRow : OpenClaim := { program := "ytdpoebmahoipbaa", sum := "e5ecfdf00a76e7e3910c7c17b068c528de5d1eee543da455ddb9b08d6500393a", func := "cochineal/cochineallaw02.SumsFewer", spec := "sumsFewer", unfollowed := true, recurses := true, apart := false, narrowed := true }
def SumsFewerUptoSaid : Prop := sumsFewerUptoRow.holds Try.pinned (OpenSpec.upto sumsFewerSpec)

/-- 'cochineallaw02.SumsCompare', WHERE WHAT IT READS IS OF BULK AT MOST 1048576: true; the input reads as it did. -/
def sumsCompareUptoRow : OpenClaim := { program := "ytdpoebmahoipbaa", sum := "e5ecfdf00a76e7e3910c7c17b068c528de5d1eee543da455ddb9b08d6500393a", func := "cochineal/cochineallaw02.SumsCompare", spec := "sumsCompare", unfollowed := true, recurses := true, apart := false, narrowed := true }
def SumsCompareUptoSaid : Prop := sumsCompareUptoRow.holds Try.pinned (OpenSpec.upto sumsCompareSpec)

/-- 'cochineallaw02.SumsKeep', WHERE WHAT IT READS IS OF BULK AT MOST 1048576: true; the input reads as it did. -/
def sumsKeepUptoRow : OpenClaim := { program := "ytdpoebmahoipbaa", sum := "e5ecfdf00a76e7e3910c7c17b068c528de5d1eee543da455ddb9b08d6500393a", func := "cochineal/cochineallaw02.SumsKeep", spec := "sumsKeep", unfollowed := true, recurses := true, apart := false, narrowed := true }
def SumsKeepUptoSaid : Prop := sumsKeepUptoRow.holds Try.pinned (OpenSpec.upto sumsKeepSpec)

end Rows
end Go.Proofs.Ytdpoebmahoipbaa
