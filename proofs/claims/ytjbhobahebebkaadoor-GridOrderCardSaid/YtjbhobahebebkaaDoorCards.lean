/-
  DERIVED. GIVEN WITH THE SEED: THE CARDS: each row of YtjbhobahebebkaaDoorRows.lean that lists a variable, with what it lists TIED to the program's text (the seventh form; the later family's looks); each row that meets fmt, with fmt's text TOLD by the authors' own Lean function (tested against real Go, not proved from fmt's source: count such statements apart). THE CARD IS WHAT COUNTS. Prove the row's statement (the work); the ties are given (YtjbhobahebebkaaDoorTie.lean); close each card by the builder's one call (the guide's Derived/Test/ToyasCard.lean, 'card_holds'). Laid BY PROGRAM, IN A SANDBOX (cutbox-door.mjs). By AI agents, Wed Nov 11 2026. No macro, syntax, notation, axiom, sorry.
-/
import Derived.Test.YtjbhobahebebkaaDoorRows
import GoSem.ClaimSeven
namespace Go.Proofs.YtjbhobahebebkaaDoor
namespace Rows

/-- THE TIED CARD OF 'billiardlaw10.GridMatchesReference'. -/
def gridMatchesReferenceCard : Claim7 := { stood := { row := gridMatchesReferenceRow, standIns := [], harness := (true, "c18748f09deabc37e04f3531794e452193763da30ff121f71e5b9410b62debd6"), looks := false }, kinds := [], alts := [], laidByText := true, laidKinds := [.data], laidTests := true, laidLooks := .later }
def GridMatchesReferenceCardSaid : Prop := Claim7.holds Tryd.pinned (.plain (OpenSpec.ofChange gridMatchesReferenceSpec)) gridMatchesReferenceCard

/-- THE TIED CARD OF 'billiardlaw10.GridCandidates'. -/
def gridCandidatesCard : Claim7 := { stood := { row := gridCandidatesRow, standIns := [], harness := (true, "c18748f09deabc37e04f3531794e452193763da30ff121f71e5b9410b62debd6"), looks := false }, kinds := [], alts := [], laidByText := true, laidKinds := [.data], laidTests := true, laidLooks := .later }
def GridCandidatesCardSaid : Prop := Claim7.holds Tryd.pinned (.plain (OpenSpec.ofChange gridCandidatesSpec)) gridCandidatesCard

/-- THE TIED CARD OF 'billiardlaw10.GridOrder'. -/
def gridOrderCard : Claim7 := { stood := { row := gridOrderRow, standIns := [], harness := (true, "c18748f09deabc37e04f3531794e452193763da30ff121f71e5b9410b62debd6"), looks := false }, kinds := [], alts := [], laidByText := true, laidKinds := [.data], laidTests := true, laidLooks := .later }
def GridOrderCardSaid : Prop := Claim7.holds Tryd.pinned (.plain (OpenSpec.ofChange gridOrderSpec)) gridOrderCard

/-- THE TIED CARD OF 'billiardlaw10.GridPoints'. -/
def gridPointsCard : Claim7 := { stood := { row := gridPointsRow, standIns := [], harness := (true, "c18748f09deabc37e04f3531794e452193763da30ff121f71e5b9410b62debd6"), looks := false }, kinds := [], alts := [], laidByText := true, laidKinds := [.data], laidTests := true, laidLooks := .later }
def GridPointsCardSaid : Prop := Claim7.holds Tryd.pinned (.plain (OpenSpec.ofChange gridPointsSpec)) gridPointsCard

/-- THE TIED CARD OF 'billiardlaw10.GridMore'. -/
def gridMoreCard : Claim7 := { stood := { row := gridMoreRow, standIns := [], harness := (true, "c18748f09deabc37e04f3531794e452193763da30ff121f71e5b9410b62debd6"), looks := false }, kinds := [], alts := [], laidByText := true, laidKinds := [.data], laidTests := true, laidLooks := .later }
def GridMoreCardSaid : Prop := Claim7.holds Tryd.pinned (.plain (OpenSpec.ofChange gridMoreSpec)) gridMoreCard

/-- THE SECOND FORM's CARD OF 'billiardlaw10.GridMatchesReference'. -/
def gridMatchesReferenceUptoCard : Claim7 := { stood := { row := gridMatchesReferenceUptoRow, standIns := [], harness := (true, "c18748f09deabc37e04f3531794e452193763da30ff121f71e5b9410b62debd6"), looks := false }, kinds := [], alts := [], laidByText := true, laidKinds := [.data], laidTests := true, laidLooks := .later }
def GridMatchesReferenceUptoCardSaid : Prop := Claim7.holds Tryd.pinned (.plain (OpenSpec.upto gridMatchesReferenceSpec)) gridMatchesReferenceUptoCard

/-- THE SECOND FORM's CARD OF 'billiardlaw10.GridCandidates'. -/
def gridCandidatesUptoCard : Claim7 := { stood := { row := gridCandidatesUptoRow, standIns := [], harness := (true, "c18748f09deabc37e04f3531794e452193763da30ff121f71e5b9410b62debd6"), looks := false }, kinds := [], alts := [], laidByText := true, laidKinds := [.data], laidTests := true, laidLooks := .later }
def GridCandidatesUptoCardSaid : Prop := Claim7.holds Tryd.pinned (.plain (OpenSpec.upto gridCandidatesSpec)) gridCandidatesUptoCard

/-- THE SECOND FORM's CARD OF 'billiardlaw10.GridOrder'. -/
def gridOrderUptoCard : Claim7 := { stood := { row := gridOrderUptoRow, standIns := [], harness := (true, "c18748f09deabc37e04f3531794e452193763da30ff121f71e5b9410b62debd6"), looks := false }, kinds := [], alts := [], laidByText := true, laidKinds := [.data], laidTests := true, laidLooks := .later }
def GridOrderUptoCardSaid : Prop := Claim7.holds Tryd.pinned (.plain (OpenSpec.upto gridOrderSpec)) gridOrderUptoCard

/-- THE SECOND FORM's CARD OF 'billiardlaw10.GridPoints'. -/
def gridPointsUptoCard : Claim7 := { stood := { row := gridPointsUptoRow, standIns := [], harness := (true, "c18748f09deabc37e04f3531794e452193763da30ff121f71e5b9410b62debd6"), looks := false }, kinds := [], alts := [], laidByText := true, laidKinds := [.data], laidTests := true, laidLooks := .later }
def GridPointsUptoCardSaid : Prop := Claim7.holds Tryd.pinned (.plain (OpenSpec.upto gridPointsSpec)) gridPointsUptoCard

/-- THE SECOND FORM's CARD OF 'billiardlaw10.GridMore'. -/
def gridMoreUptoCard : Claim7 := { stood := { row := gridMoreUptoRow, standIns := [], harness := (true, "c18748f09deabc37e04f3531794e452193763da30ff121f71e5b9410b62debd6"), looks := false }, kinds := [], alts := [], laidByText := true, laidKinds := [.data], laidTests := true, laidLooks := .later }
def GridMoreUptoCardSaid : Prop := Claim7.holds Tryd.pinned (.plain (OpenSpec.upto gridMoreSpec)) gridMoreUptoCard
end Rows
end Go.Proofs.YtjbhobahebebkaaDoor
