/-
  DERIVED. GIVEN WITH THE SEED: THE CARDS: each row of YtlmcphcgiclanaaGreatDoorRows.lean that lists a variable, with what it lists TIED to the program's text (the seventh form; the later family's looks); each row that meets fmt, with fmt's text TOLD by the authors' own Lean function (tested against real Go, not proved from fmt's source: count such statements apart). THE CARD IS WHAT COUNTS. Prove the row's statement (the work); the ties are given (YtlmcphcgiclanaaGreatDoorTie.lean); close each card by the builder's one call (the guide's Derived/Test/ToyasCard.lean, 'card_holds'). Laid BY PROGRAM, IN A SANDBOX (cutbox-door.mjs). By AI agents, Wed Nov 11 2026. No macro, syntax, notation, axiom, sorry.
-/
import Derived.Test.YtlmcphcgiclanaaGreatDoorRows
import GoSem.ClaimSeven
namespace Go.Proofs.YtlmcphcgiclanaaGreatDoor
namespace Rows

/-- THE TIED CARD OF 'billiardlaw20.StepModel'. -/
def stepModelCard : Claim7 := { stood := { row := stepModelRow, standIns := [], harness := (true, "efc75206f113ecd8e5cc872cd0b30c800981909977c6e963415616c654d1aab5"), looks := false }, kinds := [], alts := [], laidByText := true, laidKinds := [.data, .data], laidTests := true, laidLooks := .later }
def StepModelCardSaid : Prop := Claim7.holds Tryz.pinned (.plain (OpenSpec.ofChange stepModelSpec)) stepModelCard

/-- THE TIED CARD OF 'billiardlaw20.StepKeepsShapes'. -/
def stepKeepsShapesCard : Claim7 := { stood := { row := stepKeepsShapesRow, standIns := [], harness := (true, "efc75206f113ecd8e5cc872cd0b30c800981909977c6e963415616c654d1aab5"), looks := false }, kinds := [], alts := [], laidByText := true, laidKinds := [.data, .data], laidTests := true, laidLooks := .later }
def StepKeepsShapesCardSaid : Prop := Claim7.holds Tryz.pinned (.plain (OpenSpec.ofChange stepKeepsShapesSpec)) stepKeepsShapesCard

/-- THE TIED CARD OF 'billiardlaw20.StepMoves'. -/
def stepMovesCard : Claim7 := { stood := { row := stepMovesRow, standIns := [], harness := (true, "efc75206f113ecd8e5cc872cd0b30c800981909977c6e963415616c654d1aab5"), looks := false }, kinds := [], alts := [], laidByText := true, laidKinds := [.data, .data], laidTests := true, laidLooks := .later }
def StepMovesCardSaid : Prop := Claim7.holds Tryz.pinned (.plain (OpenSpec.ofChange stepMovesSpec)) stepMovesCard

/-- THE TIED CARD OF 'billiardlaw20.StepLonely'. -/
def stepLonelyCard : Claim7 := { stood := { row := stepLonelyRow, standIns := [], harness := (true, "efc75206f113ecd8e5cc872cd0b30c800981909977c6e963415616c654d1aab5"), looks := false }, kinds := [], alts := [], laidByText := true, laidKinds := [.data, .data], laidTests := true, laidLooks := .later }
def StepLonelyCardSaid : Prop := Claim7.holds Tryz.pinned (.plain (OpenSpec.ofChange stepLonelySpec)) stepLonelyCard

/-- THE TIED CARD OF 'billiardlaw20.StepSplits'. -/
def stepSplitsCard : Claim7 := { stood := { row := stepSplitsRow, standIns := [], harness := (true, "efc75206f113ecd8e5cc872cd0b30c800981909977c6e963415616c654d1aab5"), looks := false }, kinds := [], alts := [], laidByText := true, laidKinds := [.data, .data], laidTests := true, laidLooks := .later }
def StepSplitsCardSaid : Prop := Claim7.holds Tryz.pinned (.plain (OpenSpec.ofChange stepSplitsSpec)) stepSplitsCard

/-- THE TIED CARD OF 'billiardlaw22.WorldModel'. -/
def worldModelCard : Claim7 := { stood := { row := worldModelRow, standIns := [], harness := (true, "efc75206f113ecd8e5cc872cd0b30c800981909977c6e963415616c654d1aab5"), looks := false }, kinds := [], alts := [], laidByText := true, laidKinds := [.data, .data], laidTests := true, laidLooks := .later }
def WorldModelCardSaid : Prop := Claim7.holds Tryz.pinned (.plain (OpenSpec.ofChange worldModelSpec)) worldModelCard

/-- THE TIED CARD OF 'billiardlaw22.WorldOrder'. -/
def worldOrderCard : Claim7 := { stood := { row := worldOrderRow, standIns := [], harness := (true, "efc75206f113ecd8e5cc872cd0b30c800981909977c6e963415616c654d1aab5"), looks := false }, kinds := [], alts := [], laidByText := true, laidKinds := [.data, .data], laidTests := true, laidLooks := .later }
def WorldOrderCardSaid : Prop := Claim7.holds Tryz.pinned (.plain (OpenSpec.ofChange worldOrderSpec)) worldOrderCard

/-- THE TIED CARD OF 'billiardlaw22.WorldRestores'. -/
def worldRestoresCard : Claim7 := { stood := { row := worldRestoresRow, standIns := [], harness := (true, "efc75206f113ecd8e5cc872cd0b30c800981909977c6e963415616c654d1aab5"), looks := false }, kinds := [], alts := [], laidByText := true, laidKinds := [.data, .data], laidTests := true, laidLooks := .later }
def WorldRestoresCardSaid : Prop := Claim7.holds Tryz.pinned (.plain (OpenSpec.ofChange worldRestoresSpec)) worldRestoresCard

/-- THE TIED CARD OF 'billiardlaw22.WorldInvariant'. -/
def worldInvariantCard : Claim7 := { stood := { row := worldInvariantRow, standIns := [], harness := (true, "efc75206f113ecd8e5cc872cd0b30c800981909977c6e963415616c654d1aab5"), looks := false }, kinds := [], alts := [], laidByText := true, laidKinds := [.data, .data], laidTests := true, laidLooks := .later }
def WorldInvariantCardSaid : Prop := Claim7.holds Tryz.pinned (.plain (OpenSpec.ofChange worldInvariantSpec)) worldInvariantCard

/-- THE TIED CARD OF 'billiardlaw22.WorldKeeps'. -/
def worldKeepsCard : Claim7 := { stood := { row := worldKeepsRow, standIns := [], harness := (true, "efc75206f113ecd8e5cc872cd0b30c800981909977c6e963415616c654d1aab5"), looks := false }, kinds := [], alts := [], laidByText := true, laidKinds := [.data, .data], laidTests := true, laidLooks := .later }
def WorldKeepsCardSaid : Prop := Claim7.holds Tryz.pinned (.plain (OpenSpec.ofChange worldKeepsSpec)) worldKeepsCard

/-- THE TIED CARD OF 'billiardlaw22.WorldGets'. -/
def worldGetsCard : Claim7 := { stood := { row := worldGetsRow, standIns := [], harness := (true, "efc75206f113ecd8e5cc872cd0b30c800981909977c6e963415616c654d1aab5"), looks := false }, kinds := [], alts := [], laidByText := true, laidKinds := [.data, .data], laidTests := true, laidLooks := .later }
def WorldGetsCardSaid : Prop := Claim7.holds Tryz.pinned (.plain (OpenSpec.ofChange worldGetsSpec)) worldGetsCard

/-- THE SECOND FORM's CARD OF 'billiardlaw20.StepModel'. -/
def stepModelUptoCard : Claim7 := { stood := { row := stepModelUptoRow, standIns := [], harness := (true, "efc75206f113ecd8e5cc872cd0b30c800981909977c6e963415616c654d1aab5"), looks := false }, kinds := [], alts := [], laidByText := true, laidKinds := [.data, .data], laidTests := true, laidLooks := .later }
def StepModelUptoCardSaid : Prop := Claim7.holds Tryz.pinned (.plain (OpenSpec.upto stepModelSpec)) stepModelUptoCard

/-- THE SECOND FORM's CARD OF 'billiardlaw20.StepKeepsShapes'. -/
def stepKeepsShapesUptoCard : Claim7 := { stood := { row := stepKeepsShapesUptoRow, standIns := [], harness := (true, "efc75206f113ecd8e5cc872cd0b30c800981909977c6e963415616c654d1aab5"), looks := false }, kinds := [], alts := [], laidByText := true, laidKinds := [.data, .data], laidTests := true, laidLooks := .later }
def StepKeepsShapesUptoCardSaid : Prop := Claim7.holds Tryz.pinned (.plain (OpenSpec.upto stepKeepsShapesSpec)) stepKeepsShapesUptoCard

/-- THE SECOND FORM's CARD OF 'billiardlaw20.StepMoves'. -/
def stepMovesUptoCard : Claim7 := { stood := { row := stepMovesUptoRow, standIns := [], harness := (true, "efc75206f113ecd8e5cc872cd0b30c800981909977c6e963415616c654d1aab5"), looks := false }, kinds := [], alts := [], laidByText := true, laidKinds := [.data, .data], laidTests := true, laidLooks := .later }
def StepMovesUptoCardSaid : Prop := Claim7.holds Tryz.pinned (.plain (OpenSpec.upto stepMovesSpec)) stepMovesUptoCard

/-- THE SECOND FORM's CARD OF 'billiardlaw20.StepLonely'. -/
def stepLonelyUptoCard : Claim7 := { stood := { row := stepLonelyUptoRow, standIns := [], harness := (true, "efc75206f113ecd8e5cc872cd0b30c800981909977c6e963415616c654d1aab5"), looks := false }, kinds := [], alts := [], laidByText := true, laidKinds := [.data, .data], laidTests := true, laidLooks := .later }
def StepLonelyUptoCardSaid : Prop := Claim7.holds Tryz.pinned (.plain (OpenSpec.upto stepLonelySpec)) stepLonelyUptoCard

/-- THE SECOND FORM's CARD OF 'billiardlaw20.StepSplits'. -/
def stepSplitsUptoCard : Claim7 := { stood := { row := stepSplitsUptoRow, standIns := [], harness := (true, "efc75206f113ecd8e5cc872cd0b30c800981909977c6e963415616c654d1aab5"), looks := false }, kinds := [], alts := [], laidByText := true, laidKinds := [.data, .data], laidTests := true, laidLooks := .later }
def StepSplitsUptoCardSaid : Prop := Claim7.holds Tryz.pinned (.plain (OpenSpec.upto stepSplitsSpec)) stepSplitsUptoCard

/-- THE SECOND FORM's CARD OF 'billiardlaw22.WorldModel'. -/
def worldModelUptoCard : Claim7 := { stood := { row := worldModelUptoRow, standIns := [], harness := (true, "efc75206f113ecd8e5cc872cd0b30c800981909977c6e963415616c654d1aab5"), looks := false }, kinds := [], alts := [], laidByText := true, laidKinds := [.data, .data], laidTests := true, laidLooks := .later }
def WorldModelUptoCardSaid : Prop := Claim7.holds Tryz.pinned (.plain (OpenSpec.upto worldModelSpec)) worldModelUptoCard

/-- THE SECOND FORM's CARD OF 'billiardlaw22.WorldOrder'. -/
def worldOrderUptoCard : Claim7 := { stood := { row := worldOrderUptoRow, standIns := [], harness := (true, "efc75206f113ecd8e5cc872cd0b30c800981909977c6e963415616c654d1aab5"), looks := false }, kinds := [], alts := [], laidByText := true, laidKinds := [.data, .data], laidTests := true, laidLooks := .later }
def WorldOrderUptoCardSaid : Prop := Claim7.holds Tryz.pinned (.plain (OpenSpec.upto worldOrderSpec)) worldOrderUptoCard

/-- THE SECOND FORM's CARD OF 'billiardlaw22.WorldRestores'. -/
def worldRestoresUptoCard : Claim7 := { stood := { row := worldRestoresUptoRow, standIns := [], harness := (true, "efc75206f113ecd8e5cc872cd0b30c800981909977c6e963415616c654d1aab5"), looks := false }, kinds := [], alts := [], laidByText := true, laidKinds := [.data, .data], laidTests := true, laidLooks := .later }
def WorldRestoresUptoCardSaid : Prop := Claim7.holds Tryz.pinned (.plain (OpenSpec.upto worldRestoresSpec)) worldRestoresUptoCard

/-- THE SECOND FORM's CARD OF 'billiardlaw22.WorldInvariant'. -/
def worldInvariantUptoCard : Claim7 := { stood := { row := worldInvariantUptoRow, standIns := [], harness := (true, "efc75206f113ecd8e5cc872cd0b30c800981909977c6e963415616c654d1aab5"), looks := false }, kinds := [], alts := [], laidByText := true, laidKinds := [.data, .data], laidTests := true, laidLooks := .later }
def WorldInvariantUptoCardSaid : Prop := Claim7.holds Tryz.pinned (.plain (OpenSpec.upto worldInvariantSpec)) worldInvariantUptoCard

/-- THE SECOND FORM's CARD OF 'billiardlaw22.WorldKeeps'. -/
def worldKeepsUptoCard : Claim7 := { stood := { row := worldKeepsUptoRow, standIns := [], harness := (true, "efc75206f113ecd8e5cc872cd0b30c800981909977c6e963415616c654d1aab5"), looks := false }, kinds := [], alts := [], laidByText := true, laidKinds := [.data, .data], laidTests := true, laidLooks := .later }
def WorldKeepsUptoCardSaid : Prop := Claim7.holds Tryz.pinned (.plain (OpenSpec.upto worldKeepsSpec)) worldKeepsUptoCard

/-- THE SECOND FORM's CARD OF 'billiardlaw22.WorldGets'. -/
def worldGetsUptoCard : Claim7 := { stood := { row := worldGetsUptoRow, standIns := [], harness := (true, "efc75206f113ecd8e5cc872cd0b30c800981909977c6e963415616c654d1aab5"), looks := false }, kinds := [], alts := [], laidByText := true, laidKinds := [.data, .data], laidTests := true, laidLooks := .later }
def WorldGetsUptoCardSaid : Prop := Claim7.holds Tryz.pinned (.plain (OpenSpec.upto worldGetsSpec)) worldGetsUptoCard
end Rows
end Go.Proofs.YtlmcphcgiclanaaGreatDoor
