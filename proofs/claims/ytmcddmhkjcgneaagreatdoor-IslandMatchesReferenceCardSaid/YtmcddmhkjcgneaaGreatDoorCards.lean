/-
  DERIVED. GIVEN WITH THE SEED: THE CARDS: each row of YtmcddmhkjcgneaaGreatDoorRows.lean that lists a variable, with what it lists TIED to the program's text (the seventh form; the later family's looks); each row that meets fmt, with fmt's text TOLD by the authors' own Lean function (tested against real Go, not proved from fmt's source: count such statements apart). THE CARD IS WHAT COUNTS. Prove the row's statement (the work); the ties are given (YtmcddmhkjcgneaaGreatDoorTie.lean); close each card by the builder's one call (the guide's Derived/Test/ToyasCard.lean, 'card_holds'). Laid BY PROGRAM, IN A SANDBOX (cutbox-door.mjs). By AI agents, Wed Nov 11 2026. No macro, syntax, notation, axiom, sorry.
-/
import Derived.Test.YtmcddmhkjcgneaaGreatDoorRows
import GoSem.ClaimSeven
namespace Go.Proofs.YtmcddmhkjcgneaaGreatDoor
namespace Rows

/-- THE TIED CARD OF 'billiardlaw26.MeasureMatchesReference'. -/
def measureMatchesReferenceCard : Claim7 := { stood := { row := measureMatchesReferenceRow, standIns := [], harness := (true, "9f8295c113a943455c4832a95346352d7118fae4d0dcf065aaf106ad8bcb4f65"), looks := false }, kinds := [], alts := [], laidByText := true, laidKinds := [.data, .data], laidTests := true, laidLooks := .later }
def MeasureMatchesReferenceCardSaid : Prop := Claim7.holds Tryz.pinned (.plain (OpenSpec.ofChange measureMatchesReferenceSpec)) measureMatchesReferenceCard

/-- THE TIED CARD OF 'billiardlaw26.MeasureSums'. -/
def measureSumsCard : Claim7 := { stood := { row := measureSumsRow, standIns := [], harness := (true, "9f8295c113a943455c4832a95346352d7118fae4d0dcf065aaf106ad8bcb4f65"), looks := false }, kinds := [], alts := [], laidByText := true, laidKinds := [.data, .data], laidTests := true, laidLooks := .later }
def MeasureSumsCardSaid : Prop := Claim7.holds Tryz.pinned (.plain (OpenSpec.ofChange measureSumsSpec)) measureSumsCard

/-- THE TIED CARD OF 'billiardlaw26.MeasureMerges'. -/
def measureMergesCard : Claim7 := { stood := { row := measureMergesRow, standIns := [], harness := (true, "9f8295c113a943455c4832a95346352d7118fae4d0dcf065aaf106ad8bcb4f65"), looks := false }, kinds := [], alts := [], laidByText := true, laidKinds := [.data, .data], laidTests := true, laidLooks := .later }
def MeasureMergesCardSaid : Prop := Claim7.holds Tryz.pinned (.plain (OpenSpec.ofChange measureMergesSpec)) measureMergesCard

/-- THE TIED CARD OF 'billiardlaw26.MeasureMoves'. -/
def measureMovesCard : Claim7 := { stood := { row := measureMovesRow, standIns := [], harness := (true, "9f8295c113a943455c4832a95346352d7118fae4d0dcf065aaf106ad8bcb4f65"), looks := false }, kinds := [], alts := [], laidByText := true, laidKinds := [.data, .data], laidTests := true, laidLooks := .later }
def MeasureMovesCardSaid : Prop := Claim7.holds Tryz.pinned (.plain (OpenSpec.ofChange measureMovesSpec)) measureMovesCard

/-- THE TIED CARD OF 'billiardlaw26.MeasureQuiet'. -/
def measureQuietCard : Claim7 := { stood := { row := measureQuietRow, standIns := [], harness := (true, "9f8295c113a943455c4832a95346352d7118fae4d0dcf065aaf106ad8bcb4f65"), looks := false }, kinds := [], alts := [], laidByText := true, laidKinds := [.data, .data], laidTests := true, laidLooks := .later }
def MeasureQuietCardSaid : Prop := Claim7.holds Tryz.pinned (.plain (OpenSpec.ofChange measureQuietSpec)) measureQuietCard

/-- THE TIED CARD OF 'billiardlaw25.IslandMatchesReference'. -/
def islandMatchesReferenceCard : Claim7 := { stood := { row := islandMatchesReferenceRow, standIns := [], harness := (true, "9f8295c113a943455c4832a95346352d7118fae4d0dcf065aaf106ad8bcb4f65"), looks := false }, kinds := [], alts := [], laidByText := true, laidKinds := [.data, .data], laidTests := true, laidLooks := .later }
def IslandMatchesReferenceCardSaid : Prop := Claim7.holds Tryz.pinned (.plain (OpenSpec.ofChange islandMatchesReferenceSpec)) islandMatchesReferenceCard

/-- THE TIED CARD OF 'billiardlaw25.IslandPartition'. -/
def islandPartitionCard : Claim7 := { stood := { row := islandPartitionRow, standIns := [], harness := (true, "9f8295c113a943455c4832a95346352d7118fae4d0dcf065aaf106ad8bcb4f65"), looks := false }, kinds := [], alts := [], laidByText := true, laidKinds := [.data, .data], laidTests := true, laidLooks := .later }
def IslandPartitionCardSaid : Prop := Claim7.holds Tryz.pinned (.plain (OpenSpec.ofChange islandPartitionSpec)) islandPartitionCard

/-- THE TIED CARD OF 'billiardlaw25.IslandOrder'. -/
def islandOrderCard : Claim7 := { stood := { row := islandOrderRow, standIns := [], harness := (true, "9f8295c113a943455c4832a95346352d7118fae4d0dcf065aaf106ad8bcb4f65"), looks := false }, kinds := [], alts := [], laidByText := true, laidKinds := [.data, .data], laidTests := true, laidLooks := .later }
def IslandOrderCardSaid : Prop := Claim7.holds Tryz.pinned (.plain (OpenSpec.ofChange islandOrderSpec)) islandOrderCard

/-- THE TIED CARD OF 'billiardlaw25.IslandJoins'. -/
def islandJoinsCard : Claim7 := { stood := { row := islandJoinsRow, standIns := [], harness := (true, "9f8295c113a943455c4832a95346352d7118fae4d0dcf065aaf106ad8bcb4f65"), looks := false }, kinds := [], alts := [], laidByText := true, laidKinds := [.data, .data], laidTests := true, laidLooks := .later }
def IslandJoinsCardSaid : Prop := Claim7.holds Tryz.pinned (.plain (OpenSpec.ofChange islandJoinsSpec)) islandJoinsCard

/-- THE TIED CARD OF 'billiardlaw25.IslandKeeps'. -/
def islandKeepsCard : Claim7 := { stood := { row := islandKeepsRow, standIns := [], harness := (true, "9f8295c113a943455c4832a95346352d7118fae4d0dcf065aaf106ad8bcb4f65"), looks := false }, kinds := [], alts := [], laidByText := true, laidKinds := [.data, .data], laidTests := true, laidLooks := .later }
def IslandKeepsCardSaid : Prop := Claim7.holds Tryz.pinned (.plain (OpenSpec.ofChange islandKeepsSpec)) islandKeepsCard

/-- THE TIED CARD OF 'billiardlaw25.IslandSingles'. -/
def islandSinglesCard : Claim7 := { stood := { row := islandSinglesRow, standIns := [], harness := (true, "9f8295c113a943455c4832a95346352d7118fae4d0dcf065aaf106ad8bcb4f65"), looks := false }, kinds := [], alts := [], laidByText := true, laidKinds := [.data, .data], laidTests := true, laidLooks := .later }
def IslandSinglesCardSaid : Prop := Claim7.holds Tryz.pinned (.plain (OpenSpec.ofChange islandSinglesSpec)) islandSinglesCard

/-- THE SECOND FORM's CARD OF 'billiardlaw26.MeasureMatchesReference'. -/
def measureMatchesReferenceUptoCard : Claim7 := { stood := { row := measureMatchesReferenceUptoRow, standIns := [], harness := (true, "9f8295c113a943455c4832a95346352d7118fae4d0dcf065aaf106ad8bcb4f65"), looks := false }, kinds := [], alts := [], laidByText := true, laidKinds := [.data, .data], laidTests := true, laidLooks := .later }
def MeasureMatchesReferenceUptoCardSaid : Prop := Claim7.holds Tryz.pinned (.plain (OpenSpec.upto measureMatchesReferenceSpec)) measureMatchesReferenceUptoCard

/-- THE SECOND FORM's CARD OF 'billiardlaw26.MeasureSums'. -/
def measureSumsUptoCard : Claim7 := { stood := { row := measureSumsUptoRow, standIns := [], harness := (true, "9f8295c113a943455c4832a95346352d7118fae4d0dcf065aaf106ad8bcb4f65"), looks := false }, kinds := [], alts := [], laidByText := true, laidKinds := [.data, .data], laidTests := true, laidLooks := .later }
def MeasureSumsUptoCardSaid : Prop := Claim7.holds Tryz.pinned (.plain (OpenSpec.upto measureSumsSpec)) measureSumsUptoCard

/-- THE SECOND FORM's CARD OF 'billiardlaw26.MeasureMerges'. -/
def measureMergesUptoCard : Claim7 := { stood := { row := measureMergesUptoRow, standIns := [], harness := (true, "9f8295c113a943455c4832a95346352d7118fae4d0dcf065aaf106ad8bcb4f65"), looks := false }, kinds := [], alts := [], laidByText := true, laidKinds := [.data, .data], laidTests := true, laidLooks := .later }
def MeasureMergesUptoCardSaid : Prop := Claim7.holds Tryz.pinned (.plain (OpenSpec.upto measureMergesSpec)) measureMergesUptoCard

/-- THE SECOND FORM's CARD OF 'billiardlaw26.MeasureMoves'. -/
def measureMovesUptoCard : Claim7 := { stood := { row := measureMovesUptoRow, standIns := [], harness := (true, "9f8295c113a943455c4832a95346352d7118fae4d0dcf065aaf106ad8bcb4f65"), looks := false }, kinds := [], alts := [], laidByText := true, laidKinds := [.data, .data], laidTests := true, laidLooks := .later }
def MeasureMovesUptoCardSaid : Prop := Claim7.holds Tryz.pinned (.plain (OpenSpec.upto measureMovesSpec)) measureMovesUptoCard

/-- THE SECOND FORM's CARD OF 'billiardlaw26.MeasureQuiet'. -/
def measureQuietUptoCard : Claim7 := { stood := { row := measureQuietUptoRow, standIns := [], harness := (true, "9f8295c113a943455c4832a95346352d7118fae4d0dcf065aaf106ad8bcb4f65"), looks := false }, kinds := [], alts := [], laidByText := true, laidKinds := [.data, .data], laidTests := true, laidLooks := .later }
def MeasureQuietUptoCardSaid : Prop := Claim7.holds Tryz.pinned (.plain (OpenSpec.upto measureQuietSpec)) measureQuietUptoCard

/-- THE SECOND FORM's CARD OF 'billiardlaw25.IslandMatchesReference'. -/
def islandMatchesReferenceUptoCard : Claim7 := { stood := { row := islandMatchesReferenceUptoRow, standIns := [], harness := (true, "9f8295c113a943455c4832a95346352d7118fae4d0dcf065aaf106ad8bcb4f65"), looks := false }, kinds := [], alts := [], laidByText := true, laidKinds := [.data, .data], laidTests := true, laidLooks := .later }
def IslandMatchesReferenceUptoCardSaid : Prop := Claim7.holds Tryz.pinned (.plain (OpenSpec.upto islandMatchesReferenceSpec)) islandMatchesReferenceUptoCard

/-- THE SECOND FORM's CARD OF 'billiardlaw25.IslandPartition'. -/
def islandPartitionUptoCard : Claim7 := { stood := { row := islandPartitionUptoRow, standIns := [], harness := (true, "9f8295c113a943455c4832a95346352d7118fae4d0dcf065aaf106ad8bcb4f65"), looks := false }, kinds := [], alts := [], laidByText := true, laidKinds := [.data, .data], laidTests := true, laidLooks := .later }
def IslandPartitionUptoCardSaid : Prop := Claim7.holds Tryz.pinned (.plain (OpenSpec.upto islandPartitionSpec)) islandPartitionUptoCard

/-- THE SECOND FORM's CARD OF 'billiardlaw25.IslandOrder'. -/
def islandOrderUptoCard : Claim7 := { stood := { row := islandOrderUptoRow, standIns := [], harness := (true, "9f8295c113a943455c4832a95346352d7118fae4d0dcf065aaf106ad8bcb4f65"), looks := false }, kinds := [], alts := [], laidByText := true, laidKinds := [.data, .data], laidTests := true, laidLooks := .later }
def IslandOrderUptoCardSaid : Prop := Claim7.holds Tryz.pinned (.plain (OpenSpec.upto islandOrderSpec)) islandOrderUptoCard

/-- THE SECOND FORM's CARD OF 'billiardlaw25.IslandJoins'. -/
def islandJoinsUptoCard : Claim7 := { stood := { row := islandJoinsUptoRow, standIns := [], harness := (true, "9f8295c113a943455c4832a95346352d7118fae4d0dcf065aaf106ad8bcb4f65"), looks := false }, kinds := [], alts := [], laidByText := true, laidKinds := [.data, .data], laidTests := true, laidLooks := .later }
def IslandJoinsUptoCardSaid : Prop := Claim7.holds Tryz.pinned (.plain (OpenSpec.upto islandJoinsSpec)) islandJoinsUptoCard

/-- THE SECOND FORM's CARD OF 'billiardlaw25.IslandKeeps'. -/
def islandKeepsUptoCard : Claim7 := { stood := { row := islandKeepsUptoRow, standIns := [], harness := (true, "9f8295c113a943455c4832a95346352d7118fae4d0dcf065aaf106ad8bcb4f65"), looks := false }, kinds := [], alts := [], laidByText := true, laidKinds := [.data, .data], laidTests := true, laidLooks := .later }
def IslandKeepsUptoCardSaid : Prop := Claim7.holds Tryz.pinned (.plain (OpenSpec.upto islandKeepsSpec)) islandKeepsUptoCard

/-- THE SECOND FORM's CARD OF 'billiardlaw25.IslandSingles'. -/
def islandSinglesUptoCard : Claim7 := { stood := { row := islandSinglesUptoRow, standIns := [], harness := (true, "9f8295c113a943455c4832a95346352d7118fae4d0dcf065aaf106ad8bcb4f65"), looks := false }, kinds := [], alts := [], laidByText := true, laidKinds := [.data, .data], laidTests := true, laidLooks := .later }
def IslandSinglesUptoCardSaid : Prop := Claim7.holds Tryz.pinned (.plain (OpenSpec.upto islandSinglesSpec)) islandSinglesUptoCard
end Rows
end Go.Proofs.YtmcddmhkjcgneaaGreatDoor
