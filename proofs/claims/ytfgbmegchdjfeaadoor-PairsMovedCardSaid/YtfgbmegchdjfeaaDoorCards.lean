/-
  DERIVED. GIVEN WITH THE SEED: THE CARDS: each row of YtfgbmegchdjfeaaDoorRows.lean that lists a variable, with what it lists TIED to the program's text (the seventh form; the later family's looks); each row that meets fmt, with fmt's text TOLD by the authors' own Lean function (tested against real Go, not proved from fmt's source: count such statements apart). THE CARD IS WHAT COUNTS. Prove the row's statement (the work); the ties are given (YtfgbmegchdjfeaaDoorTie.lean); close each card by the builder's one call (the guide's Derived/Test/ToyasCard.lean, 'card_holds'). Laid BY PROGRAM, IN A SANDBOX (cutbox-door.mjs). By AI agents, Wed Nov 11 2026. No macro, syntax, notation, axiom, sorry.
-/
import Derived.Test.YtfgbmegchdjfeaaDoorRows
import GoSem.ClaimSeven
namespace Go.Proofs.YtfgbmegchdjfeaaDoor
namespace Rows

/-- THE TIED CARD OF 'billiardlaw11.PairsMatchesReference'. -/
def pairsMatchesReferenceCard : Claim7 := { stood := { row := pairsMatchesReferenceRow, standIns := [], harness := (true, "f3b70993079b13e73e92e0d8df31f9c82dc4c048330ec057e65cef2c9a08161b"), looks := false }, kinds := [], alts := [], laidByText := true, laidKinds := [.data, .data], laidTests := true, laidLooks := .later }
def PairsMatchesReferenceCardSaid : Prop := Claim7.holds Tryd.pinned (.plain (OpenSpec.ofChange pairsMatchesReferenceSpec)) pairsMatchesReferenceCard

/-- THE TIED CARD OF 'billiardlaw11.PairsExact'. -/
def pairsExactCard : Claim7 := { stood := { row := pairsExactRow, standIns := [], harness := (true, "f3b70993079b13e73e92e0d8df31f9c82dc4c048330ec057e65cef2c9a08161b"), looks := false }, kinds := [], alts := [], laidByText := true, laidKinds := [.data, .data], laidTests := true, laidLooks := .later }
def PairsExactCardSaid : Prop := Claim7.holds Tryd.pinned (.plain (OpenSpec.ofChange pairsExactSpec)) pairsExactCard

/-- THE TIED CARD OF 'billiardlaw11.PairsLonely'. -/
def pairsLonelyCard : Claim7 := { stood := { row := pairsLonelyRow, standIns := [], harness := (true, "f3b70993079b13e73e92e0d8df31f9c82dc4c048330ec057e65cef2c9a08161b"), looks := false }, kinds := [], alts := [], laidByText := true, laidKinds := [.data, .data], laidTests := true, laidLooks := .later }
def PairsLonelyCardSaid : Prop := Claim7.holds Tryd.pinned (.plain (OpenSpec.ofChange pairsLonelySpec)) pairsLonelyCard

/-- THE TIED CARD OF 'billiardlaw11.PairsMoved'. -/
def pairsMovedCard : Claim7 := { stood := { row := pairsMovedRow, standIns := [], harness := (true, "f3b70993079b13e73e92e0d8df31f9c82dc4c048330ec057e65cef2c9a08161b"), looks := false }, kinds := [], alts := [], laidByText := true, laidKinds := [.data, .data], laidTests := true, laidLooks := .later }
def PairsMovedCardSaid : Prop := Claim7.holds Tryd.pinned (.plain (OpenSpec.ofChange pairsMovedSpec)) pairsMovedCard

/-- THE TIED CARD OF 'billiardlaw11.PairsWithin'. -/
def pairsWithinCard : Claim7 := { stood := { row := pairsWithinRow, standIns := [], harness := (true, "f3b70993079b13e73e92e0d8df31f9c82dc4c048330ec057e65cef2c9a08161b"), looks := false }, kinds := [], alts := [], laidByText := true, laidKinds := [.data, .data], laidTests := true, laidLooks := .later }
def PairsWithinCardSaid : Prop := Claim7.holds Tryd.pinned (.plain (OpenSpec.ofChange pairsWithinSpec)) pairsWithinCard

/-- THE TIED CARD OF 'billiardlaw15.ContactsLonely'. -/
def contactsLonelyCard : Claim7 := { stood := { row := contactsLonelyRow, standIns := [], harness := (true, "f3b70993079b13e73e92e0d8df31f9c82dc4c048330ec057e65cef2c9a08161b"), looks := false }, kinds := [], alts := [], laidByText := true, laidKinds := [.data, .data], laidTests := true, laidLooks := .later }
def ContactsLonelyCardSaid : Prop := Claim7.holds Tryd.pinned (.plain (OpenSpec.ofChange contactsLonelySpec)) contactsLonelyCard

/-- THE TIED CARD OF 'billiardlaw15.ContactsMoves'. -/
def contactsMovesCard : Claim7 := { stood := { row := contactsMovesRow, standIns := [], harness := (true, "f3b70993079b13e73e92e0d8df31f9c82dc4c048330ec057e65cef2c9a08161b"), looks := false }, kinds := [], alts := [], laidByText := true, laidKinds := [.data, .data], laidTests := true, laidLooks := .later }
def ContactsMovesCardSaid : Prop := Claim7.holds Tryd.pinned (.plain (OpenSpec.ofChange contactsMovesSpec)) contactsMovesCard

/-- THE SECOND FORM's CARD OF 'billiardlaw11.PairsMatchesReference'. -/
def pairsMatchesReferenceUptoCard : Claim7 := { stood := { row := pairsMatchesReferenceUptoRow, standIns := [], harness := (true, "f3b70993079b13e73e92e0d8df31f9c82dc4c048330ec057e65cef2c9a08161b"), looks := false }, kinds := [], alts := [], laidByText := true, laidKinds := [.data, .data], laidTests := true, laidLooks := .later }
def PairsMatchesReferenceUptoCardSaid : Prop := Claim7.holds Tryd.pinned (.plain (OpenSpec.upto pairsMatchesReferenceSpec)) pairsMatchesReferenceUptoCard

/-- THE SECOND FORM's CARD OF 'billiardlaw11.PairsExact'. -/
def pairsExactUptoCard : Claim7 := { stood := { row := pairsExactUptoRow, standIns := [], harness := (true, "f3b70993079b13e73e92e0d8df31f9c82dc4c048330ec057e65cef2c9a08161b"), looks := false }, kinds := [], alts := [], laidByText := true, laidKinds := [.data, .data], laidTests := true, laidLooks := .later }
def PairsExactUptoCardSaid : Prop := Claim7.holds Tryd.pinned (.plain (OpenSpec.upto pairsExactSpec)) pairsExactUptoCard

/-- THE SECOND FORM's CARD OF 'billiardlaw11.PairsLonely'. -/
def pairsLonelyUptoCard : Claim7 := { stood := { row := pairsLonelyUptoRow, standIns := [], harness := (true, "f3b70993079b13e73e92e0d8df31f9c82dc4c048330ec057e65cef2c9a08161b"), looks := false }, kinds := [], alts := [], laidByText := true, laidKinds := [.data, .data], laidTests := true, laidLooks := .later }
def PairsLonelyUptoCardSaid : Prop := Claim7.holds Tryd.pinned (.plain (OpenSpec.upto pairsLonelySpec)) pairsLonelyUptoCard

/-- THE SECOND FORM's CARD OF 'billiardlaw11.PairsMoved'. -/
def pairsMovedUptoCard : Claim7 := { stood := { row := pairsMovedUptoRow, standIns := [], harness := (true, "f3b70993079b13e73e92e0d8df31f9c82dc4c048330ec057e65cef2c9a08161b"), looks := false }, kinds := [], alts := [], laidByText := true, laidKinds := [.data, .data], laidTests := true, laidLooks := .later }
def PairsMovedUptoCardSaid : Prop := Claim7.holds Tryd.pinned (.plain (OpenSpec.upto pairsMovedSpec)) pairsMovedUptoCard

/-- THE SECOND FORM's CARD OF 'billiardlaw11.PairsWithin'. -/
def pairsWithinUptoCard : Claim7 := { stood := { row := pairsWithinUptoRow, standIns := [], harness := (true, "f3b70993079b13e73e92e0d8df31f9c82dc4c048330ec057e65cef2c9a08161b"), looks := false }, kinds := [], alts := [], laidByText := true, laidKinds := [.data, .data], laidTests := true, laidLooks := .later }
def PairsWithinUptoCardSaid : Prop := Claim7.holds Tryd.pinned (.plain (OpenSpec.upto pairsWithinSpec)) pairsWithinUptoCard

/-- THE SECOND FORM's CARD OF 'billiardlaw15.ContactsLonely'. -/
def contactsLonelyUptoCard : Claim7 := { stood := { row := contactsLonelyUptoRow, standIns := [], harness := (true, "f3b70993079b13e73e92e0d8df31f9c82dc4c048330ec057e65cef2c9a08161b"), looks := false }, kinds := [], alts := [], laidByText := true, laidKinds := [.data, .data], laidTests := true, laidLooks := .later }
def ContactsLonelyUptoCardSaid : Prop := Claim7.holds Tryd.pinned (.plain (OpenSpec.upto contactsLonelySpec)) contactsLonelyUptoCard

/-- THE SECOND FORM's CARD OF 'billiardlaw15.ContactsMoves'. -/
def contactsMovesUptoCard : Claim7 := { stood := { row := contactsMovesUptoRow, standIns := [], harness := (true, "f3b70993079b13e73e92e0d8df31f9c82dc4c048330ec057e65cef2c9a08161b"), looks := false }, kinds := [], alts := [], laidByText := true, laidKinds := [.data, .data], laidTests := true, laidLooks := .later }
def ContactsMovesUptoCardSaid : Prop := Claim7.holds Tryd.pinned (.plain (OpenSpec.upto contactsMovesSpec)) contactsMovesUptoCard
end Rows
end Go.Proofs.YtfgbmegchdjfeaaDoor
