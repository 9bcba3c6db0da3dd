/-
  DERIVED. GIVEN WITH THE SEED: THE CARDS: each row of YtpcloigancpnbaaGreatDoorRows.lean that lists a variable, with what it lists TIED to the program's text (the seventh form; the later family's looks); each row that meets fmt, with fmt's text TOLD by the authors' own Lean function (tested against real Go, not proved from fmt's source: count such statements apart). THE CARD IS WHAT COUNTS. Prove the row's statement (the work); the ties are given (YtpcloigancpnbaaGreatDoorTie.lean); close each card by the builder's one call (the guide's Derived/Test/ToyasCard.lean, 'card_holds'). Laid BY PROGRAM, IN A SANDBOX (cutbox-door.mjs). By AI agents, Wed Nov 11 2026. No macro, syntax, notation, axiom, sorry.
-/
import Derived.Test.YtpcloigancpnbaaGreatDoorRows
import GoSem.ClaimSeven
namespace Go.Proofs.YtpcloigancpnbaaGreatDoor
namespace Rows

/-- THE TIED CARD OF 'billiardlaw28.ReplayAppends'. -/
def replayAppendsCard : Claim7 := { stood := { row := replayAppendsRow, standIns := [], harness := (true, "3c8e685196238db234e0a6f0f14bdfb98e7a99661f76caba36888095bd1556ba"), looks := false }, kinds := [], alts := [], laidByText := true, laidKinds := [.data, .data], laidTests := true, laidLooks := .later }
def ReplayAppendsCardSaid : Prop := Claim7.holds Tryz.pinned (.plain (OpenSpec.ofChange replayAppendsSpec)) replayAppendsCard

/-- THE TIED CARD OF 'billiardlaw28.ReplayKeeps'. -/
def replayKeepsCard : Claim7 := { stood := { row := replayKeepsRow, standIns := [], harness := (true, "3c8e685196238db234e0a6f0f14bdfb98e7a99661f76caba36888095bd1556ba"), looks := false }, kinds := [], alts := [], laidByText := true, laidKinds := [.data, .data], laidTests := true, laidLooks := .later }
def ReplayKeepsCardSaid : Prop := Claim7.holds Tryz.pinned (.plain (OpenSpec.ofChange replayKeepsSpec)) replayKeepsCard

/-- THE SECOND FORM's CARD OF 'billiardlaw28.ReplayAppends'. -/
def replayAppendsUptoCard : Claim7 := { stood := { row := replayAppendsUptoRow, standIns := [], harness := (true, "3c8e685196238db234e0a6f0f14bdfb98e7a99661f76caba36888095bd1556ba"), looks := false }, kinds := [], alts := [], laidByText := true, laidKinds := [.data, .data], laidTests := true, laidLooks := .later }
def ReplayAppendsUptoCardSaid : Prop := Claim7.holds Tryz.pinned (.plain (OpenSpec.upto replayAppendsSpec)) replayAppendsUptoCard

/-- THE SECOND FORM's CARD OF 'billiardlaw28.ReplayKeeps'. -/
def replayKeepsUptoCard : Claim7 := { stood := { row := replayKeepsUptoRow, standIns := [], harness := (true, "3c8e685196238db234e0a6f0f14bdfb98e7a99661f76caba36888095bd1556ba"), looks := false }, kinds := [], alts := [], laidByText := true, laidKinds := [.data, .data], laidTests := true, laidLooks := .later }
def ReplayKeepsUptoCardSaid : Prop := Claim7.holds Tryz.pinned (.plain (OpenSpec.upto replayKeepsSpec)) replayKeepsUptoCard
end Rows
end Go.Proofs.YtpcloigancpnbaaGreatDoor
