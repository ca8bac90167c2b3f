/-
  NARROWER THAN 'FOR EVERY INPUT', by the rows' own cells (each row's printed sentence says how): FlagsWrite: laid · FlagsBack: laid · FlagsSets: laid · FlagsTell: laid · FlagsTurn: laid.
  DERIVED. THE GIVEN ROWS OF THIS SEAT. 5 by the template 'for every input the law returns true; each argument reads behind the call as it read before'; 0 by the template 'total and deterministic' (their statements: YtodfgcbgiaboiaaDoorTotals.lean).
  GIVEN WITH THE SEED: the statements are not yours to turn. If you find one false, say at which input.
  Laid BY PROGRAM, IN A SANDBOX (cutbox-rows.mjs): the forced cells as the released guide's own fill.sh prints them over the translation 4c8feda2f00a66ac… (all of the seat's roots in one cut). By AI agents, Wed Nov 11 2026. No macro, syntax, notation, axiom, sorry.
-/
import Derived.Test.YtodfgcbgiaboiaaDoorChecked
import GoSem.PinnedTables
import GoSem.Claim
import GoSem.ClaimJoined
import GoSem.ClaimMapViews
import Derived.JoinedTies
import Derived.KernelRfl
namespace Go.Proofs.YtodfgcbgiaboiaaDoor
/- THE CELL 'sum', in the pinned program and in every row, IS THE sha256 OF THE DUMP (.gsa) THAT YtodfgcbgiaboiaaDoorProg.lean LOADS. Nothing in Lean hashes anything: it is a label: what it is worth is what the hold of that sum in a sandbox is worth. -/
noncomputable def Tryd.pinned : Pinned := { name := "ytodfgcbgiaboiaadoor", sum := "4c8feda2f00a66ac623c1d0122eaa07354b352b508b4e65b9193a3694e702c98", checked := Tryd.checked }
namespace Rows
def none {H : Type} : Left H := { results := [], args := [] }

/- WHAT THE LISTED PACKAGE-LEVEL VARIABLES READ AS WHEN THE CALL BEGINS. Each datum BY PROGRAM (the guide's laid-datum.mjs) off the statement by which the dump's own 'gosem.cut.vars' lays the variable. In a bare row this is a premise. The card (YtodfgcbgiaboiaaDoorCards.lean) ties it to the program's text. -/
def laid_unicode_utf8_acceptRanges {H : Type} : DataW H := .agg [.agg [.lit (.int .u8 128), .lit (.int .u8 191)], .agg [.lit (.int .u8 160), .lit (.int .u8 191)], .agg [.lit (.int .u8 128), .lit (.int .u8 159)], .agg [.lit (.int .u8 144), .lit (.int .u8 191)], .agg [.lit (.int .u8 128), .lit (.int .u8 143)], .agg [.lit (.int .u8 0), .lit (.int .u8 0)], .agg [.lit (.int .u8 0), .lit (.int .u8 0)], .agg [.lit (.int .u8 0), .lit (.int .u8 0)], .agg [.lit (.int .u8 0), .lit (.int .u8 0)], .agg [.lit (.int .u8 0), .lit (.int .u8 0)], .agg [.lit (.int .u8 0), .lit (.int .u8 0)], .agg [.lit (.int .u8 0), .lit (.int .u8 0)], .agg [.lit (.int .u8 0), .lit (.int .u8 0)], .agg [.lit (.int .u8 0), .lit (.int .u8 0)], .agg [.lit (.int .u8 0), .lit (.int .u8 0)], .agg [.lit (.int .u8 0), .lit (.int .u8 0)]]
/-- One of Go's own tables, pinned by name: the form's constant. -/
def laid_unicode_CaseRanges : DataW Unit := Go.Pinned.caseRanges
/-- One of Go's own tables, pinned by name: the form's constant. -/
def laid_unicode_utf8_first : DataW Unit := Go.Pinned.utf8First

/-- 'cochineallaw03.FlagsWrite': WHATEVER THE INPUT: true; the input reads as it did. -/
def flagsWriteSpec : ChangeSpec := { name := "flagsWrite", fn := fun _ => fun
  | [d1, d2] => { results := [.lit (.bool true)], args := [d1, d2] }
  | _ => none }
def flagsWriteRow : OpenClaim := { program := "ytodfgcbgiaboiaadoor", sum := "4c8feda2f00a66ac623c1d0122eaa07354b352b508b4e65b9193a3694e702c98", func := "cochineal/cochineallaw03.FlagsWrite", spec := "flagsWrite", inPlace := ["internal/abi.NoEscape", "internal/bytealg.MakeNoZero"], unfollowed := true, recurses := true, named := ["unicode/utf8.first", "unicode/utf8.acceptRanges", "unicode.CaseRanges"], apart := false, laid := [("unicode/utf8.acceptRanges", laid_unicode_utf8_acceptRanges), ("unicode.CaseRanges", laid_unicode_CaseRanges), ("unicode/utf8.first", laid_unicode_utf8_first)] }
def FlagsWriteSaid : Prop := flagsWriteRow.holds Tryd.pinned (OpenSpec.ofChange flagsWriteSpec)

/-- ITS FALSE NEIGHBOUR: 'it returns false'. Refute it at one input. -/
def flagsWriteWrong : ChangeSpec := { name := "flagsWrite", fn := fun _ => fun
  | [d1, d2] => { results := [.lit (.bool false)], args := [d1, d2] }
  | _ => none }
def FlagsWriteWrongFalsely : Prop := flagsWriteRow.holds Tryd.pinned (OpenSpec.ofChange flagsWriteWrong)

/-- 'cochineallaw03.FlagsBack': WHATEVER THE INPUT: true; the input reads as it did. -/
def flagsBackSpec : ChangeSpec := { name := "flagsBack", fn := fun _ => fun
  | [d1, d2] => { results := [.lit (.bool true)], args := [d1, d2] }
  | _ => none }
def flagsBackRow : OpenClaim := { program := "ytodfgcbgiaboiaadoor", sum := "4c8feda2f00a66ac623c1d0122eaa07354b352b508b4e65b9193a3694e702c98", func := "cochineal/cochineallaw03.FlagsBack", spec := "flagsBack", inPlace := ["internal/abi.NoEscape", "internal/bytealg.MakeNoZero"], unfollowed := true, recurses := true, named := ["unicode/utf8.first", "unicode/utf8.acceptRanges", "unicode.CaseRanges"], apart := false, laid := [("unicode/utf8.acceptRanges", laid_unicode_utf8_acceptRanges), ("unicode.CaseRanges", laid_unicode_CaseRanges), ("unicode/utf8.first", laid_unicode_utf8_first)] }
def FlagsBackSaid : Prop := flagsBackRow.holds Tryd.pinned (OpenSpec.ofChange flagsBackSpec)

/-- ITS FALSE NEIGHBOUR: 'it returns false'. Refute it at one input. -/
def flagsBackWrong : ChangeSpec := { name := "flagsBack", fn := fun _ => fun
  | [d1, d2] => { results := [.lit (.bool false)], args := [d1, d2] }
  | _ => none }
def FlagsBackWrongFalsely : Prop := flagsBackRow.holds Tryd.pinned (OpenSpec.ofChange flagsBackWrong)

/-- 'cochineallaw03.FlagsSets': WHATEVER THE INPUT: true; the input reads as it did. -/
def flagsSetsSpec : ChangeSpec := { name := "flagsSets", fn := fun _ => fun
  | [d1, d2, d3] => { results := [.lit (.bool true)], args := [d1, d2, d3] }
  | _ => none }
def flagsSetsRow : OpenClaim := { program := "ytodfgcbgiaboiaadoor", sum := "4c8feda2f00a66ac623c1d0122eaa07354b352b508b4e65b9193a3694e702c98", func := "cochineal/cochineallaw03.FlagsSets", spec := "flagsSets", inPlace := ["internal/abi.NoEscape", "internal/bytealg.MakeNoZero"], unfollowed := true, recurses := true, named := ["unicode/utf8.first", "unicode/utf8.acceptRanges", "unicode.CaseRanges"], apart := false, laid := [("unicode/utf8.acceptRanges", laid_unicode_utf8_acceptRanges), ("unicode.CaseRanges", laid_unicode_CaseRanges), ("unicode/utf8.first", laid_unicode_utf8_first)] }
def FlagsSetsSaid : Prop := flagsSetsRow.holds Tryd.pinned (OpenSpec.ofChange flagsSetsSpec)

/-- ITS FALSE NEIGHBOUR: 'it returns false'. Refute it at one input. -/
def flagsSetsWrong : ChangeSpec := { name := "flagsSets", fn := fun _ => fun
  | [d1, d2, d3] => { results := [.lit (.bool false)], args := [d1, d2, d3] }
  | _ => none }
def FlagsSetsWrongFalsely : Prop := flagsSetsRow.holds Tryd.pinned (OpenSpec.ofChange flagsSetsWrong)

/-- 'cochineallaw03.FlagsTell': WHATEVER THE INPUT: true; the input reads as it did. -/
def flagsTellSpec : ChangeSpec := { name := "flagsTell", fn := fun _ => fun
  | [d1, d2] => { results := [.lit (.bool true)], args := [d1, d2] }
  | _ => none }
def flagsTellRow : OpenClaim := { program := "ytodfgcbgiaboiaadoor", sum := "4c8feda2f00a66ac623c1d0122eaa07354b352b508b4e65b9193a3694e702c98", func := "cochineal/cochineallaw03.FlagsTell", spec := "flagsTell", inPlace := ["internal/abi.NoEscape", "internal/bytealg.MakeNoZero"], unfollowed := true, recurses := true, named := ["unicode/utf8.first", "unicode/utf8.acceptRanges", "unicode.CaseRanges"], apart := false, laid := [("unicode/utf8.acceptRanges", laid_unicode_utf8_acceptRanges), ("unicode.CaseRanges", laid_unicode_CaseRanges), ("unicode/utf8.first", laid_unicode_utf8_first)] }
def FlagsTellSaid : Prop := flagsTellRow.holds Tryd.pinned (OpenSpec.ofChange flagsTellSpec)

/-- ITS FALSE NEIGHBOUR: 'it returns false'. Refute it at one input. -/
def flagsTellWrong : ChangeSpec := { name := "flagsTell", fn := fun _ => fun
  | [d1, d2] => { results := [.lit (.bool false)], args := [d1, d2] }
  | _ => none }
def FlagsTellWrongFalsely : Prop := flagsTellRow.holds Tryd.pinned (OpenSpec.ofChange flagsTellWrong)

/-- 'cochineallaw03.FlagsTurn': WHATEVER THE INPUT: true; the input reads as it did. -/
def flagsTurnSpec : ChangeSpec := { name := "flagsTurn", fn := fun _ => fun
  | [d1, d2, d3] => { results := [.lit (.bool true)], args := [d1, d2, d3] }
  | _ => none }
def flagsTurnRow : OpenClaim := { program := "ytodfgcbgiaboiaadoor", sum := "4c8feda2f00a66ac623c1d0122eaa07354b352b508b4e65b9193a3694e702c98", func := "cochineal/cochineallaw03.FlagsTurn", spec := "flagsTurn", inPlace := ["internal/abi.NoEscape", "internal/bytealg.MakeNoZero"], unfollowed := true, recurses := true, named := ["unicode/utf8.first", "unicode/utf8.acceptRanges", "unicode.CaseRanges"], apart := false, laid := [("unicode/utf8.acceptRanges", laid_unicode_utf8_acceptRanges), ("unicode.CaseRanges", laid_unicode_CaseRanges), ("unicode/utf8.first", laid_unicode_utf8_first)] }
def FlagsTurnSaid : Prop := flagsTurnRow.holds Tryd.pinned (OpenSpec.ofChange flagsTurnSpec)

/-- ITS FALSE NEIGHBOUR: 'it returns false'. Refute it at one input. -/
def flagsTurnWrong : ChangeSpec := { name := "flagsTurn", fn := fun _ => fun
  | [d1, d2, d3] => { results := [.lit (.bool false)], args := [d1, d2, d3] }
  | _ => none }
def FlagsTurnWrongFalsely : Prop := flagsTurnRow.holds Tryd.pinned (OpenSpec.ofChange flagsTurnWrong)

/- THE SECOND FORM. 'bulk': how many values and letters a reading holds, each counted each time it is reached (what is shared counts as often as it is met; a slice's spare places count too). A statement '..UptoSaid' is the law's where the arguments, and the package variables that the reading takes, are together of bulk at most 1048576: NARROWER than '..Said'. Prove '..Said' where nothing that the law and all that it calls make is longer than what came in: it says more and counts as full. Else prove '..UptoSaid'. A law counts once. -/
mutual
def uptoBulk {H : Type} : DataW H → Nat
  | .lit (.string bytes) => bytes.length + 1
  | .lit _ => 1
  | .nil => 1
  | .ptr d => uptoBulk d + 1
  | .slice elems spare => uptoBulkAll elems + uptoBulkAll spare + 1
  | .agg parts => uptoBulkAll parts + 1
  | .iface _ d => uptoBulk d + 1
  | .map entries => uptoBulkEntries entries + 1
  | .held _ => 1
def uptoBulkAll {H : Type} : List (DataW H) → Nat
  | [] => 0
  | d :: r => uptoBulk d + uptoBulkAll r
def uptoBulkEntries {H : Type} : List (Lit × DataW H) → Nat
  | [] => 0
  | x :: r => uptoBulkEntry x + uptoBulkEntries r
def uptoBulkEntry {H : Type} : Lit × DataW H → Nat
  | (.string bytes, d) => bytes.length + uptoBulk d + 1
  | (_, d) => uptoBulk d + 1
 end
def uptoSmall : (H : Type) → List (DataW H) → Bool := fun _ ds => decide (uptoBulkAll ds ≤ 1048576)
def OpenSpec.upto (s : _root_.Go.ChangeSpec) : _root_.Go.OpenSpec := { _root_.Go.OpenSpec.ofChange s with cond := some uptoSmall }

/-- 'cochineallaw03.FlagsWrite', WHERE WHAT IT READS IS OF BULK AT MOST 1048576: true; the input reads as it did. -/
def flagsWriteUptoRow : OpenClaim := { program := "ytodfgcbgiaboiaadoor", sum := "4c8feda2f00a66ac623c1d0122eaa07354b352b508b4e65b9193a3694e702c98", func := "cochineal/cochineallaw03.FlagsWrite", spec := "flagsWrite", inPlace := ["internal/abi.NoEscape", "internal/bytealg.MakeNoZero"], unfollowed := true, recurses := true, named := ["unicode/utf8.first", "unicode/utf8.acceptRanges", "unicode.CaseRanges"], apart := false, laid := [("unicode/utf8.acceptRanges", laid_unicode_utf8_acceptRanges), ("unicode.CaseRanges", laid_unicode_CaseRanges), ("unicode/utf8.first", laid_unicode_utf8_first)], narrowed := true }
def FlagsWriteUptoSaid : Prop := flagsWriteUptoRow.holds Tryd.pinned (OpenSpec.upto flagsWriteSpec)

/-- 'cochineallaw03.FlagsBack', WHERE WHAT IT READS IS OF BULK AT MOST 1048576: true; the input reads as it did. -/
def flagsBackUptoRow : OpenClaim := { program := "ytodfgcbgiaboiaadoor", sum := "4c8feda2f00a66ac623c1d0122eaa07354b352b508b4e65b9193a3694e702c98", func := "cochineal/cochineallaw03.FlagsBack", spec := "flagsBack", inPlace := ["internal/abi.NoEscape", "internal/bytealg.MakeNoZero"], unfollowed := true, recurses := true, named := ["unicode/utf8.first", "unicode/utf8.acceptRanges", "unicode.CaseRanges"], apart := false, laid := [("unicode/utf8.acceptRanges", laid_unicode_utf8_acceptRanges), ("unicode.CaseRanges", laid_unicode_CaseRanges), ("unicode/utf8.first", laid_unicode_utf8_first)], narrowed := true }
def FlagsBackUptoSaid : Prop := flagsBackUptoRow.holds Tryd.pinned (OpenSpec.upto flagsBackSpec)

/-- 'cochineallaw03.FlagsSets', WHERE WHAT IT READS IS OF BULK AT MOST 1048576: true; the input reads as it did. -/
def flagsSetsUptoRow : OpenClaim := { program := "ytodfgcbgiaboiaadoor", sum := "4c8feda2f00a66ac623c1d0122eaa07354b352b508b4e65b9193a3694e702c98", func := "cochineal/cochineallaw03.FlagsSets", spec := "flagsSets", inPlace := ["internal/abi.NoEscape", "internal/bytealg.MakeNoZero"], unfollowed := true, recurses := true, named := ["unicode/utf8.first", "unicode/utf8.acceptRanges", "unicode.CaseRanges"], apart := false, laid := [("unicode/utf8.acceptRanges", laid_unicode_utf8_acceptRanges), ("unicode.CaseRanges", laid_unicode_CaseRanges), ("unicode/utf8.first", laid_unicode_utf8_first)], narrowed := true }
def FlagsSetsUptoSaid : Prop := flagsSetsUptoRow.holds Tryd.pinned (OpenSpec.upto flagsSetsSpec)

/-- 'cochineallaw03.FlagsTell', WHERE WHAT IT READS IS OF BULK AT MOST 1048576: true; the input reads as it did. -/
def flagsTellUptoRow : OpenClaim := { program := "ytodfgcbgiaboiaadoor", sum := "4c8feda2f00a66ac623c1d0122eaa07354b352b508b4e65b9193a3694e702c98", func := "cochineal/cochineallaw03.FlagsTell", spec := "flagsTell", inPlace := ["internal/abi.NoEscape", "internal/bytealg.MakeNoZero"], unfollowed := true, recurses := true, named := ["unicode/utf8.first", "unicode/utf8.acceptRanges", "unicode.CaseRanges"], apart := false, laid := [("unicode/utf8.acceptRanges", laid_unicode_utf8_acceptRanges), ("unicode.CaseRanges", laid_unicode_CaseRanges), ("unicode/utf8.first", laid_unicode_utf8_first)], narrowed := true }
def FlagsTellUptoSaid : Prop := flagsTellUptoRow.holds Tryd.pinned (OpenSpec.upto flagsTellSpec)

/-- 'cochineallaw03.FlagsTurn', WHERE WHAT IT READS IS OF BULK AT MOST 1048576: true; the input reads as it did. -/
def flagsTurnUptoRow : OpenClaim := { program := "ytodfgcbgiaboiaadoor", sum := "4c8feda2f00a66ac623c1d0122eaa07354b352b508b4e65b9193a3694e702c98", func := "cochineal/cochineallaw03.FlagsTurn", spec := "flagsTurn", inPlace := ["internal/abi.NoEscape", "internal/bytealg.MakeNoZero"], unfollowed := true, recurses := true, named := ["unicode/utf8.first", "unicode/utf8.acceptRanges", "unicode.CaseRanges"], apart := false, laid := [("unicode/utf8.acceptRanges", laid_unicode_utf8_acceptRanges), ("unicode.CaseRanges", laid_unicode_CaseRanges), ("unicode/utf8.first", laid_unicode_utf8_first)], narrowed := true }
def FlagsTurnUptoSaid : Prop := flagsTurnUptoRow.holds Tryd.pinned (OpenSpec.upto flagsTurnSpec)

end Rows
end Go.Proofs.YtodfgcbgiaboiaaDoor
