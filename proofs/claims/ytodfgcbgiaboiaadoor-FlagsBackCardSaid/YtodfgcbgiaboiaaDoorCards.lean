/-
  DERIVED. GIVEN WITH THE SEED: THE CARDS: each row of YtodfgcbgiaboiaaDoorRows.lean that lists a variable, with what it lists TIED to the program's text (the seventh form; the later family's looks); each row that meets fmt, with fmt's text TOLD by the authors' own Lean function (tested against real Go, not proved from fmt's source: count such statements apart). THE CARD IS WHAT COUNTS. Prove the row's statement (the work); the ties are given (YtodfgcbgiaboiaaDoorTie.lean); close each card by the builder's one call (the guide's Derived/Test/ToyasCard.lean, 'card_holds'). Laid BY PROGRAM, IN A SANDBOX (cutbox-door.mjs). By AI agents, Wed Nov 11 2026. No macro, syntax, notation, axiom, sorry.
-/
import Derived.Test.YtodfgcbgiaboiaaDoorRows
import GoSem.ClaimSeven
namespace Go.Proofs.YtodfgcbgiaboiaaDoor
namespace Rows

/-- THE TIED CARD OF 'cochineallaw03.FlagsWrite'. -/
def flagsWriteCard : Claim7 := { stood := { row := flagsWriteRow, standIns := [], harness := (true, "82afcfb3055caf66755b2e765996a4bd005f7c7b056b88487d8c47b2c93c6185"), looks := false }, kinds := [], alts := [], laidByText := true, laidKinds := [.data, .pinned, .pinned], laidTests := true, laidLooks := .later }
def FlagsWriteCardSaid : Prop := Claim7.holds Tryd.pinned (.plain (OpenSpec.ofChange flagsWriteSpec)) flagsWriteCard

/-- THE TIED CARD OF 'cochineallaw03.FlagsBack'. -/
def flagsBackCard : Claim7 := { stood := { row := flagsBackRow, standIns := [], harness := (true, "82afcfb3055caf66755b2e765996a4bd005f7c7b056b88487d8c47b2c93c6185"), looks := false }, kinds := [], alts := [], laidByText := true, laidKinds := [.data, .pinned, .pinned], laidTests := true, laidLooks := .later }
def FlagsBackCardSaid : Prop := Claim7.holds Tryd.pinned (.plain (OpenSpec.ofChange flagsBackSpec)) flagsBackCard

/-- THE TIED CARD OF 'cochineallaw03.FlagsSets'. -/
def flagsSetsCard : Claim7 := { stood := { row := flagsSetsRow, standIns := [], harness := (true, "82afcfb3055caf66755b2e765996a4bd005f7c7b056b88487d8c47b2c93c6185"), looks := false }, kinds := [], alts := [], laidByText := true, laidKinds := [.data, .pinned, .pinned], laidTests := true, laidLooks := .later }
def FlagsSetsCardSaid : Prop := Claim7.holds Tryd.pinned (.plain (OpenSpec.ofChange flagsSetsSpec)) flagsSetsCard

/-- THE TIED CARD OF 'cochineallaw03.FlagsTell'. -/
def flagsTellCard : Claim7 := { stood := { row := flagsTellRow, standIns := [], harness := (true, "82afcfb3055caf66755b2e765996a4bd005f7c7b056b88487d8c47b2c93c6185"), looks := false }, kinds := [], alts := [], laidByText := true, laidKinds := [.data, .pinned, .pinned], laidTests := true, laidLooks := .later }
def FlagsTellCardSaid : Prop := Claim7.holds Tryd.pinned (.plain (OpenSpec.ofChange flagsTellSpec)) flagsTellCard

/-- THE TIED CARD OF 'cochineallaw03.FlagsTurn'. -/
def flagsTurnCard : Claim7 := { stood := { row := flagsTurnRow, standIns := [], harness := (true, "82afcfb3055caf66755b2e765996a4bd005f7c7b056b88487d8c47b2c93c6185"), looks := false }, kinds := [], alts := [], laidByText := true, laidKinds := [.data, .pinned, .pinned], laidTests := true, laidLooks := .later }
def FlagsTurnCardSaid : Prop := Claim7.holds Tryd.pinned (.plain (OpenSpec.ofChange flagsTurnSpec)) flagsTurnCard

/-- THE SECOND FORM's CARD OF 'cochineallaw03.FlagsWrite'. -/
def flagsWriteUptoCard : Claim7 := { stood := { row := flagsWriteUptoRow, standIns := [], harness := (true, "82afcfb3055caf66755b2e765996a4bd005f7c7b056b88487d8c47b2c93c6185"), looks := false }, kinds := [], alts := [], laidByText := true, laidKinds := [.data, .pinned, .pinned], laidTests := true, laidLooks := .later }
def FlagsWriteUptoCardSaid : Prop := Claim7.holds Tryd.pinned (.plain (OpenSpec.upto flagsWriteSpec)) flagsWriteUptoCard

/-- THE SECOND FORM's CARD OF 'cochineallaw03.FlagsBack'. -/
def flagsBackUptoCard : Claim7 := { stood := { row := flagsBackUptoRow, standIns := [], harness := (true, "82afcfb3055caf66755b2e765996a4bd005f7c7b056b88487d8c47b2c93c6185"), looks := false }, kinds := [], alts := [], laidByText := true, laidKinds := [.data, .pinned, .pinned], laidTests := true, laidLooks := .later }
def FlagsBackUptoCardSaid : Prop := Claim7.holds Tryd.pinned (.plain (OpenSpec.upto flagsBackSpec)) flagsBackUptoCard

/-- THE SECOND FORM's CARD OF 'cochineallaw03.FlagsSets'. -/
def flagsSetsUptoCard : Claim7 := { stood := { row := flagsSetsUptoRow, standIns := [], harness := (true, "82afcfb3055caf66755b2e765996a4bd005f7c7b056b88487d8c47b2c93c6185"), looks := false }, kinds := [], alts := [], laidByText := true, laidKinds := [.data, .pinned, .pinned], laidTests := true, laidLooks := .later }
def FlagsSetsUptoCardSaid : Prop := Claim7.holds Tryd.pinned (.plain (OpenSpec.upto flagsSetsSpec)) flagsSetsUptoCard

/-- THE SECOND FORM's CARD OF 'cochineallaw03.FlagsTell'. -/
def flagsTellUptoCard : Claim7 := { stood := { row := flagsTellUptoRow, standIns := [], harness := (true, "82afcfb3055caf66755b2e765996a4bd005f7c7b056b88487d8c47b2c93c6185"), looks := false }, kinds := [], alts := [], laidByText := true, laidKinds := [.data, .pinned, .pinned], laidTests := true, laidLooks := .later }
def FlagsTellUptoCardSaid : Prop := Claim7.holds Tryd.pinned (.plain (OpenSpec.upto flagsTellSpec)) flagsTellUptoCard

/-- THE SECOND FORM's CARD OF 'cochineallaw03.FlagsTurn'. -/
def flagsTurnUptoCard : Claim7 := { stood := { row := flagsTurnUptoRow, standIns := [], harness := (true, "82afcfb3055caf66755b2e765996a4bd005f7c7b056b88487d8c47b2c93c6185"), looks := false }, kinds := [], alts := [], laidByText := true, laidKinds := [.data, .pinned, .pinned], laidTests := true, laidLooks := .later }
def FlagsTurnUptoCardSaid : Prop := Claim7.holds Tryd.pinned (.plain (OpenSpec.upto flagsTurnSpec)) flagsTurnUptoCard
end Rows
end Go.Proofs.YtodfgcbgiaboiaaDoor
