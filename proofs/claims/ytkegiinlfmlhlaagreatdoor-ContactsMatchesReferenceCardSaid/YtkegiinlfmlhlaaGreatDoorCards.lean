/-
  DERIVED. GIVEN WITH THE SEED: THE CARDS: each row of YtkegiinlfmlhlaaGreatDoorRows.lean that lists a variable, with what it lists TIED to the program's text (the seventh form; the later family's looks); each row that meets fmt, with fmt's text TOLD by the authors' own Lean function (tested against real Go, not proved from fmt's source: count such statements apart). THE CARD IS WHAT COUNTS. Prove the row's statement (the work); the ties are given (YtkegiinlfmlhlaaGreatDoorTie.lean); close each card by the builder's one call (the guide's Derived/Test/ToyasCard.lean, 'card_holds'). Laid BY PROGRAM, IN A SANDBOX (cutbox-door.mjs). By AI agents, Wed Nov 11 2026. No macro, syntax, notation, axiom, sorry.
-/
import Derived.Test.YtkegiinlfmlhlaaGreatDoorRows
import GoSem.ClaimSeven
namespace Go.Proofs.YtkegiinlfmlhlaaGreatDoor
namespace Rows

/-- THE TIED CARD OF 'billiardlaw15.ContactsMatchesReference'. -/
def contactsMatchesReferenceCard : Claim7 := { stood := { row := contactsMatchesReferenceRow, standIns := [], harness := (true, "3aca2b76c285c966e07b3478885ac977f088e9fe089b19d7286332a62054959d"), looks := false }, kinds := [], alts := [], laidByText := true, laidKinds := [.data, .data], laidTests := true, laidLooks := .later }
def ContactsMatchesReferenceCardSaid : Prop := Claim7.holds Tryz.pinned (.plain (OpenSpec.ofChange contactsMatchesReferenceSpec)) contactsMatchesReferenceCard

/-- THE TIED CARD OF 'billiardlaw15.ContactsAll'. -/
def contactsAllCard : Claim7 := { stood := { row := contactsAllRow, standIns := [], harness := (true, "3aca2b76c285c966e07b3478885ac977f088e9fe089b19d7286332a62054959d"), looks := false }, kinds := [], alts := [], laidByText := true, laidKinds := [.data, .data], laidTests := true, laidLooks := .later }
def ContactsAllCardSaid : Prop := Claim7.holds Tryz.pinned (.plain (OpenSpec.ofChange contactsAllSpec)) contactsAllCard

/-- THE SECOND FORM's CARD OF 'billiardlaw15.ContactsMatchesReference'. -/
def contactsMatchesReferenceUptoCard : Claim7 := { stood := { row := contactsMatchesReferenceUptoRow, standIns := [], harness := (true, "3aca2b76c285c966e07b3478885ac977f088e9fe089b19d7286332a62054959d"), looks := false }, kinds := [], alts := [], laidByText := true, laidKinds := [.data, .data], laidTests := true, laidLooks := .later }
def ContactsMatchesReferenceUptoCardSaid : Prop := Claim7.holds Tryz.pinned (.plain (OpenSpec.upto contactsMatchesReferenceSpec)) contactsMatchesReferenceUptoCard

/-- THE SECOND FORM's CARD OF 'billiardlaw15.ContactsAll'. -/
def contactsAllUptoCard : Claim7 := { stood := { row := contactsAllUptoRow, standIns := [], harness := (true, "3aca2b76c285c966e07b3478885ac977f088e9fe089b19d7286332a62054959d"), looks := false }, kinds := [], alts := [], laidByText := true, laidKinds := [.data, .data], laidTests := true, laidLooks := .later }
def ContactsAllUptoCardSaid : Prop := Claim7.holds Tryz.pinned (.plain (OpenSpec.upto contactsAllSpec)) contactsAllUptoCard
end Rows
end Go.Proofs.YtkegiinlfmlhlaaGreatDoor
