/-
  DERIVED. GIVEN WITH THE SEED: THE CARDS: each row of YtaoaknafiegfoaaGreatDoorRows.lean that lists a variable, with what it lists TIED to the program's text (the seventh form; the later family's looks); each row that meets fmt, with fmt's text TOLD by the authors' own Lean function (tested against real Go, not proved from fmt's source: count such statements apart). THE CARD IS WHAT COUNTS. Prove the row's statement (the work); the ties are given (YtaoaknafiegfoaaGreatDoorTie.lean); close each card by the builder's one call (the guide's Derived/Test/ToyasCard.lean, 'card_holds'). Laid BY PROGRAM, IN A SANDBOX (cutbox-door.mjs). By AI agents, Wed Nov 11 2026. No macro, syntax, notation, axiom, sorry.
-/
import Derived.Test.YtaoaknafiegfoaaGreatDoorRows
import GoSem.ClaimSeven
namespace Go.Proofs.YtaoaknafiegfoaaGreatDoor
namespace Rows

/-- THE TIED CARD OF 'billiardtop.WholeScripts'. -/
def wholeScriptsCard : Claim7 := { stood := { row := wholeScriptsRow, standIns := [], harness := (true, "60fad30dfb67d9dd14e679b449d58df77fa72712b07425b57b34720f96154737"), looks := false }, kinds := [], alts := [], laidByText := true, laidKinds := [.data, .data], laidTests := true, laidLooks := .later }
def WholeScriptsCardSaid : Prop := Claim7.holds Tryz.pinned (.plain (OpenSpec.ofChange wholeScriptsSpec)) wholeScriptsCard

/-- THE TIED CARD OF 'billiardtop.WholePermuted'. -/
def wholePermutedCard : Claim7 := { stood := { row := wholePermutedRow, standIns := [], harness := (true, "60fad30dfb67d9dd14e679b449d58df77fa72712b07425b57b34720f96154737"), looks := false }, kinds := [], alts := [], laidByText := true, laidKinds := [.data, .data], laidTests := true, laidLooks := .later }
def WholePermutedCardSaid : Prop := Claim7.holds Tryz.pinned (.plain (OpenSpec.ofChange wholePermutedSpec)) wholePermutedCard

/-- THE TIED CARD OF 'billiardtop.WholeStatic'. -/
def wholeStaticCard : Claim7 := { stood := { row := wholeStaticRow, standIns := [], harness := (true, "60fad30dfb67d9dd14e679b449d58df77fa72712b07425b57b34720f96154737"), looks := false }, kinds := [], alts := [], laidByText := true, laidKinds := [.data, .data], laidTests := true, laidLooks := .later }
def WholeStaticCardSaid : Prop := Claim7.holds Tryz.pinned (.plain (OpenSpec.ofChange wholeStaticSpec)) wholeStaticCard

/-- THE TIED CARD OF 'billiardlaw23.ScriptOutcomes'. -/
def scriptOutcomesCard : Claim7 := { stood := { row := scriptOutcomesRow, standIns := [], harness := (true, "60fad30dfb67d9dd14e679b449d58df77fa72712b07425b57b34720f96154737"), looks := false }, kinds := [], alts := [], laidByText := true, laidKinds := [.data, .data], laidTests := true, laidLooks := .later }
def ScriptOutcomesCardSaid : Prop := Claim7.holds Tryz.pinned (.plain (OpenSpec.ofChange scriptOutcomesSpec)) scriptOutcomesCard

/-- THE TIED CARD OF 'billiardlaw23.ScriptSplits'. -/
def scriptSplitsCard : Claim7 := { stood := { row := scriptSplitsRow, standIns := [], harness := (true, "60fad30dfb67d9dd14e679b449d58df77fa72712b07425b57b34720f96154737"), looks := false }, kinds := [], alts := [], laidByText := true, laidKinds := [.data, .data], laidTests := true, laidLooks := .later }
def ScriptSplitsCardSaid : Prop := Claim7.holds Tryz.pinned (.plain (OpenSpec.ofChange scriptSplitsSpec)) scriptSplitsCard

/-- THE TIED CARD OF 'billiardlaw23.ScriptErrors'. -/
def scriptErrorsCard : Claim7 := { stood := { row := scriptErrorsRow, standIns := [], harness := (true, "60fad30dfb67d9dd14e679b449d58df77fa72712b07425b57b34720f96154737"), looks := false }, kinds := [], alts := [], laidByText := true, laidKinds := [.data, .data], laidTests := true, laidLooks := .later }
def ScriptErrorsCardSaid : Prop := Claim7.holds Tryz.pinned (.plain (OpenSpec.ofChange scriptErrorsSpec)) scriptErrorsCard

/-- THE TIED CARD OF 'billiardlaw23.ScriptUnknown'. -/
def scriptUnknownCard : Claim7 := { stood := { row := scriptUnknownRow, standIns := [], harness := (true, "60fad30dfb67d9dd14e679b449d58df77fa72712b07425b57b34720f96154737"), looks := false }, kinds := [], alts := [], laidByText := true, laidKinds := [.data, .data], laidTests := true, laidLooks := .later }
def ScriptUnknownCardSaid : Prop := Claim7.holds Tryz.pinned (.plain (OpenSpec.ofChange scriptUnknownSpec)) scriptUnknownCard

/-- THE TIED CARD OF 'billiardlaw28.ReplayMatchesReference'. -/
def replayMatchesReferenceCard : Claim7 := { stood := { row := replayMatchesReferenceRow, standIns := [], harness := (true, "60fad30dfb67d9dd14e679b449d58df77fa72712b07425b57b34720f96154737"), looks := false }, kinds := [], alts := [], laidByText := true, laidKinds := [.data, .data], laidTests := true, laidLooks := .later }
def ReplayMatchesReferenceCardSaid : Prop := Claim7.holds Tryz.pinned (.plain (OpenSpec.ofChange replayMatchesReferenceSpec)) replayMatchesReferenceCard

/-- THE TIED CARD OF 'billiardlaw28.ReplayVerifies'. -/
def replayVerifiesCard : Claim7 := { stood := { row := replayVerifiesRow, standIns := [], harness := (true, "60fad30dfb67d9dd14e679b449d58df77fa72712b07425b57b34720f96154737"), looks := false }, kinds := [], alts := [], laidByText := true, laidKinds := [.data, .data], laidTests := true, laidLooks := .later }
def ReplayVerifiesCardSaid : Prop := Claim7.holds Tryz.pinned (.plain (OpenSpec.ofChange replayVerifiesSpec)) replayVerifiesCard

/-- THE TIED CARD OF 'billiardlaw28.ReplayChecks'. -/
def replayChecksCard : Claim7 := { stood := { row := replayChecksRow, standIns := [], harness := (true, "60fad30dfb67d9dd14e679b449d58df77fa72712b07425b57b34720f96154737"), looks := false }, kinds := [], alts := [], laidByText := true, laidKinds := [.data, .data], laidTests := true, laidLooks := .later }
def ReplayChecksCardSaid : Prop := Claim7.holds Tryz.pinned (.plain (OpenSpec.ofChange replayChecksSpec)) replayChecksCard

/-- THE TIED CARD OF 'billiardlaw28.ReplayAppends'. -/
def replayAppendsCard : Claim7 := { stood := { row := replayAppendsRow, standIns := [], harness := (true, "60fad30dfb67d9dd14e679b449d58df77fa72712b07425b57b34720f96154737"), looks := false }, kinds := [], alts := [], laidByText := true, laidKinds := [.data, .data], laidTests := true, laidLooks := .later }
def ReplayAppendsCardSaid : Prop := Claim7.holds Tryz.pinned (.plain (OpenSpec.ofChange replayAppendsSpec)) replayAppendsCard

/-- THE TIED CARD OF 'billiardlaw28.ReplayKeeps'. -/
def replayKeepsCard : Claim7 := { stood := { row := replayKeepsRow, standIns := [], harness := (true, "60fad30dfb67d9dd14e679b449d58df77fa72712b07425b57b34720f96154737"), looks := false }, kinds := [], alts := [], laidByText := true, laidKinds := [.data, .data], laidTests := true, laidLooks := .later }
def ReplayKeepsCardSaid : Prop := Claim7.holds Tryz.pinned (.plain (OpenSpec.ofChange replayKeepsSpec)) replayKeepsCard

/-- THE TIED CARD OF 'billiardtop.WholeReplays'. -/
def wholeReplaysCard : Claim7 := { stood := { row := wholeReplaysRow, standIns := [], harness := (true, "60fad30dfb67d9dd14e679b449d58df77fa72712b07425b57b34720f96154737"), looks := false }, kinds := [], alts := [], laidByText := true, laidKinds := [.data, .data], laidTests := true, laidLooks := .later }
def WholeReplaysCardSaid : Prop := Claim7.holds Tryz.pinned (.plain (OpenSpec.ofChange wholeReplaysSpec)) wholeReplaysCard

/-- THE SECOND FORM's CARD OF 'billiardtop.WholeScripts'. -/
def wholeScriptsUptoCard : Claim7 := { stood := { row := wholeScriptsUptoRow, standIns := [], harness := (true, "60fad30dfb67d9dd14e679b449d58df77fa72712b07425b57b34720f96154737"), looks := false }, kinds := [], alts := [], laidByText := true, laidKinds := [.data, .data], laidTests := true, laidLooks := .later }
def WholeScriptsUptoCardSaid : Prop := Claim7.holds Tryz.pinned (.plain (OpenSpec.upto wholeScriptsSpec)) wholeScriptsUptoCard

/-- THE SECOND FORM's CARD OF 'billiardtop.WholePermuted'. -/
def wholePermutedUptoCard : Claim7 := { stood := { row := wholePermutedUptoRow, standIns := [], harness := (true, "60fad30dfb67d9dd14e679b449d58df77fa72712b07425b57b34720f96154737"), looks := false }, kinds := [], alts := [], laidByText := true, laidKinds := [.data, .data], laidTests := true, laidLooks := .later }
def WholePermutedUptoCardSaid : Prop := Claim7.holds Tryz.pinned (.plain (OpenSpec.upto wholePermutedSpec)) wholePermutedUptoCard

/-- THE SECOND FORM's CARD OF 'billiardtop.WholeStatic'. -/
def wholeStaticUptoCard : Claim7 := { stood := { row := wholeStaticUptoRow, standIns := [], harness := (true, "60fad30dfb67d9dd14e679b449d58df77fa72712b07425b57b34720f96154737"), looks := false }, kinds := [], alts := [], laidByText := true, laidKinds := [.data, .data], laidTests := true, laidLooks := .later }
def WholeStaticUptoCardSaid : Prop := Claim7.holds Tryz.pinned (.plain (OpenSpec.upto wholeStaticSpec)) wholeStaticUptoCard

/-- THE SECOND FORM's CARD OF 'billiardlaw23.ScriptOutcomes'. -/
def scriptOutcomesUptoCard : Claim7 := { stood := { row := scriptOutcomesUptoRow, standIns := [], harness := (true, "60fad30dfb67d9dd14e679b449d58df77fa72712b07425b57b34720f96154737"), looks := false }, kinds := [], alts := [], laidByText := true, laidKinds := [.data, .data], laidTests := true, laidLooks := .later }
def ScriptOutcomesUptoCardSaid : Prop := Claim7.holds Tryz.pinned (.plain (OpenSpec.upto scriptOutcomesSpec)) scriptOutcomesUptoCard

/-- THE SECOND FORM's CARD OF 'billiardlaw23.ScriptSplits'. -/
def scriptSplitsUptoCard : Claim7 := { stood := { row := scriptSplitsUptoRow, standIns := [], harness := (true, "60fad30dfb67d9dd14e679b449d58df77fa72712b07425b57b34720f96154737"), looks := false }, kinds := [], alts := [], laidByText := true, laidKinds := [.data, .data], laidTests := true, laidLooks := .later }
def ScriptSplitsUptoCardSaid : Prop := Claim7.holds Tryz.pinned (.plain (OpenSpec.upto scriptSplitsSpec)) scriptSplitsUptoCard

/-- THE SECOND FORM's CARD OF 'billiardlaw23.ScriptErrors'. -/
def scriptErrorsUptoCard : Claim7 := { stood := { row := scriptErrorsUptoRow, standIns := [], harness := (true, "60fad30dfb67d9dd14e679b449d58df77fa72712b07425b57b34720f96154737"), looks := false }, kinds := [], alts := [], laidByText := true, laidKinds := [.data, .data], laidTests := true, laidLooks := .later }
def ScriptErrorsUptoCardSaid : Prop := Claim7.holds Tryz.pinned (.plain (OpenSpec.upto scriptErrorsSpec)) scriptErrorsUptoCard

/-- THE SECOND FORM's CARD OF 'billiardlaw23.ScriptUnknown'. -/
def scriptUnknownUptoCard : Claim7 := { stood := { row := scriptUnknownUptoRow, standIns := [], harness := (true, "60fad30dfb67d9dd14e679b449d58df77fa72712b07425b57b34720f96154737"), looks := false }, kinds := [], alts := [], laidByText := true, laidKinds := [.data, .data], laidTests := true, laidLooks := .later }
def ScriptUnknownUptoCardSaid : Prop := Claim7.holds Tryz.pinned (.plain (OpenSpec.upto scriptUnknownSpec)) scriptUnknownUptoCard

/-- THE SECOND FORM's CARD OF 'billiardlaw28.ReplayMatchesReference'. -/
def replayMatchesReferenceUptoCard : Claim7 := { stood := { row := replayMatchesReferenceUptoRow, standIns := [], harness := (true, "60fad30dfb67d9dd14e679b449d58df77fa72712b07425b57b34720f96154737"), looks := false }, kinds := [], alts := [], laidByText := true, laidKinds := [.data, .data], laidTests := true, laidLooks := .later }
def ReplayMatchesReferenceUptoCardSaid : Prop := Claim7.holds Tryz.pinned (.plain (OpenSpec.upto replayMatchesReferenceSpec)) replayMatchesReferenceUptoCard

/-- THE SECOND FORM's CARD OF 'billiardlaw28.ReplayVerifies'. -/
def replayVerifiesUptoCard : Claim7 := { stood := { row := replayVerifiesUptoRow, standIns := [], harness := (true, "60fad30dfb67d9dd14e679b449d58df77fa72712b07425b57b34720f96154737"), looks := false }, kinds := [], alts := [], laidByText := true, laidKinds := [.data, .data], laidTests := true, laidLooks := .later }
def ReplayVerifiesUptoCardSaid : Prop := Claim7.holds Tryz.pinned (.plain (OpenSpec.upto replayVerifiesSpec)) replayVerifiesUptoCard

/-- THE SECOND FORM's CARD OF 'billiardlaw28.ReplayChecks'. -/
def replayChecksUptoCard : Claim7 := { stood := { row := replayChecksUptoRow, standIns := [], harness := (true, "60fad30dfb67d9dd14e679b449d58df77fa72712b07425b57b34720f96154737"), looks := false }, kinds := [], alts := [], laidByText := true, laidKinds := [.data, .data], laidTests := true, laidLooks := .later }
def ReplayChecksUptoCardSaid : Prop := Claim7.holds Tryz.pinned (.plain (OpenSpec.upto replayChecksSpec)) replayChecksUptoCard

/-- THE SECOND FORM's CARD OF 'billiardlaw28.ReplayAppends'. -/
def replayAppendsUptoCard : Claim7 := { stood := { row := replayAppendsUptoRow, standIns := [], harness := (true, "60fad30dfb67d9dd14e679b449d58df77fa72712b07425b57b34720f96154737"), looks := false }, kinds := [], alts := [], laidByText := true, laidKinds := [.data, .data], laidTests := true, laidLooks := .later }
def ReplayAppendsUptoCardSaid : Prop := Claim7.holds Tryz.pinned (.plain (OpenSpec.upto replayAppendsSpec)) replayAppendsUptoCard

/-- THE SECOND FORM's CARD OF 'billiardlaw28.ReplayKeeps'. -/
def replayKeepsUptoCard : Claim7 := { stood := { row := replayKeepsUptoRow, standIns := [], harness := (true, "60fad30dfb67d9dd14e679b449d58df77fa72712b07425b57b34720f96154737"), looks := false }, kinds := [], alts := [], laidByText := true, laidKinds := [.data, .data], laidTests := true, laidLooks := .later }
def ReplayKeepsUptoCardSaid : Prop := Claim7.holds Tryz.pinned (.plain (OpenSpec.upto replayKeepsSpec)) replayKeepsUptoCard

/-- THE SECOND FORM's CARD OF 'billiardtop.WholeReplays'. -/
def wholeReplaysUptoCard : Claim7 := { stood := { row := wholeReplaysUptoRow, standIns := [], harness := (true, "60fad30dfb67d9dd14e679b449d58df77fa72712b07425b57b34720f96154737"), looks := false }, kinds := [], alts := [], laidByText := true, laidKinds := [.data, .data], laidTests := true, laidLooks := .later }
def WholeReplaysUptoCardSaid : Prop := Claim7.holds Tryz.pinned (.plain (OpenSpec.upto wholeReplaysSpec)) wholeReplaysUptoCard
end Rows
end Go.Proofs.YtaoaknafiegfoaaGreatDoor
