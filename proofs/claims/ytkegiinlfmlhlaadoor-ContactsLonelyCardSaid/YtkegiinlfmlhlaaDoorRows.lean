/-
  NARROWER THAN 'FOR EVERY INPUT', by the rows' own cells (each row's printed sentence says how): ContactsLonely: laid · ContactsMoves: laid · ContactsDeepest: laid · GridMatchesReference: laid · GridCandidates: laid · GridOrder: laid · GridPoints: laid · GridMore: laid.
  DERIVED. THE GIVEN ROWS OF THIS SEAT. 8 by the template 'for every input the law returns true; each argument reads behind the call as it read before'; 0 by the template 'total and deterministic' (their statements: YtkegiinlfmlhlaaDoorTotals.lean).
  GIVEN WITH THE SEED: the statements are not yours to turn. If you find one false, say at which input.
  Laid BY PROGRAM, IN A SANDBOX (cutbox-rows.mjs): the forced cells as the released guide's own fill.sh prints them over the translation 98b2c895a59a7020… (all of the seat's roots in one cut). By AI agents, Wed Nov 11 2026. No macro, syntax, notation, axiom, sorry.
-/
import Derived.Test.YtkegiinlfmlhlaaDoorChecked
import GoSem.Claim
import GoSem.ClaimJoined
import GoSem.ClaimMapViews
import Derived.JoinedTies
import Derived.KernelRfl
namespace Go.Proofs.YtkegiinlfmlhlaaDoor
/- THE CELL 'sum', in the pinned program and in every row, IS THE sha256 OF THE DUMP (.gsa) THAT YtkegiinlfmlhlaaDoorProg.lean LOADS. Nothing in Lean hashes anything: it is a label: what it is worth is what the hold of that sum in a sandbox is worth. -/
noncomputable def Tryd.pinned : Pinned := { name := "ytkegiinlfmlhlaadoor", sum := "98b2c895a59a702051585d74a651f3541a731d8e0952897063c695e0c7e2da2e", checked := Tryd.checked }
namespace Rows
def none {H : Type} : Left H := { results := [], args := [] }

/- WHAT THE LISTED PACKAGE-LEVEL VARIABLES READ AS WHEN THE CALL BEGINS. Each datum BY PROGRAM (the guide's laid-datum.mjs) off the statement by which the dump's own 'gosem.cut.vars' lays the variable. In a bare row this is a premise. The card (YtkegiinlfmlhlaaDoorCards.lean) ties it to the program's text. -/
def laid_billiard_box_none {H : Type} : DataW H := .agg [.lit (.int .i32 1), .lit (.int .i32 0), .lit (.int .i32 0), .lit (.int .i32 0)]
def laid_billiard_cell_factors {H : Type} : DataW H := .agg [.lit (.int .u32 73856093), .lit (.int .u32 19349663)]

/-- 'billiardlaw15.ContactsLonely': WHATEVER THE INPUT: true; the input reads as it did. -/
def contactsLonelySpec : ChangeSpec := { name := "contactsLonely", fn := fun _ => fun
  | [d1, d2] => { results := [.lit (.bool true)], args := [d1, d2] }
  | _ => none }
def contactsLonelyRow : OpenClaim := { program := "ytkegiinlfmlhlaadoor", sum := "98b2c895a59a702051585d74a651f3541a731d8e0952897063c695e0c7e2da2e", func := "billiard/billiardlaw15.ContactsLonely", spec := "contactsLonely", unfollowed := true, recurses := true, named := ["billiard/cell.factors", "billiard/box.none", "math/bits.divideError", "math/bits.overflowError"], plainKeys := false, apart := false, laid := [("billiard/box.none", laid_billiard_box_none), ("billiard/cell.factors", laid_billiard_cell_factors)] }
def ContactsLonelySaid : Prop := contactsLonelyRow.holds Tryd.pinned (OpenSpec.ofChange contactsLonelySpec)

/-- ITS FALSE NEIGHBOUR: 'it returns false'. Refute it at one input. -/
def contactsLonelyWrong : ChangeSpec := { name := "contactsLonely", fn := fun _ => fun
  | [d1, d2] => { results := [.lit (.bool false)], args := [d1, d2] }
  | _ => none }
def ContactsLonelyWrongFalsely : Prop := contactsLonelyRow.holds Tryd.pinned (OpenSpec.ofChange contactsLonelyWrong)

/-- 'billiardlaw15.ContactsMoves': WHATEVER THE INPUT: true; the input reads as it did. -/
def contactsMovesSpec : ChangeSpec := { name := "contactsMoves", fn := fun _ => fun
  | [d1, d2] => { results := [.lit (.bool true)], args := [d1, d2] }
  | _ => none }
def contactsMovesRow : OpenClaim := { program := "ytkegiinlfmlhlaadoor", sum := "98b2c895a59a702051585d74a651f3541a731d8e0952897063c695e0c7e2da2e", func := "billiard/billiardlaw15.ContactsMoves", spec := "contactsMoves", unfollowed := true, recurses := true, named := ["billiard/cell.factors", "billiard/box.none", "math/bits.divideError", "math/bits.overflowError"], plainKeys := false, apart := false, laid := [("billiard/box.none", laid_billiard_box_none), ("billiard/cell.factors", laid_billiard_cell_factors)] }
def ContactsMovesSaid : Prop := contactsMovesRow.holds Tryd.pinned (OpenSpec.ofChange contactsMovesSpec)

/-- ITS FALSE NEIGHBOUR: 'it returns false'. Refute it at one input. -/
def contactsMovesWrong : ChangeSpec := { name := "contactsMoves", fn := fun _ => fun
  | [d1, d2] => { results := [.lit (.bool false)], args := [d1, d2] }
  | _ => none }
def ContactsMovesWrongFalsely : Prop := contactsMovesRow.holds Tryd.pinned (OpenSpec.ofChange contactsMovesWrong)

/-- 'billiardlaw15.ContactsDeepest': WHATEVER THE INPUT: true; the input reads as it did. -/
def contactsDeepestSpec : ChangeSpec := { name := "contactsDeepest", fn := fun _ => fun
  | [d] => { results := [.lit (.bool true)], args := [d] }
  | _ => none }
def contactsDeepestRow : OpenClaim := { program := "ytkegiinlfmlhlaadoor", sum := "98b2c895a59a702051585d74a651f3541a731d8e0952897063c695e0c7e2da2e", func := "billiard/billiardlaw15.ContactsDeepest", spec := "contactsDeepest", unfollowed := true, recurses := true, named := ["billiard/cell.factors", "billiard/box.none", "math/bits.divideError", "math/bits.overflowError"], plainKeys := false, apart := false, laid := [("billiard/box.none", laid_billiard_box_none), ("billiard/cell.factors", laid_billiard_cell_factors)] }
def ContactsDeepestSaid : Prop := contactsDeepestRow.holds Tryd.pinned (OpenSpec.ofChange contactsDeepestSpec)

/-- ITS FALSE NEIGHBOUR: 'it returns false'. Refute it at one input. -/
def contactsDeepestWrong : ChangeSpec := { name := "contactsDeepest", fn := fun _ => fun
  | [d] => { results := [.lit (.bool false)], args := [d] }
  | _ => none }
def ContactsDeepestWrongFalsely : Prop := contactsDeepestRow.holds Tryd.pinned (OpenSpec.ofChange contactsDeepestWrong)

/-- 'billiardlaw10.GridMatchesReference': WHATEVER THE INPUT: true; the input reads as it did. -/
def gridMatchesReferenceSpec : ChangeSpec := { name := "gridMatchesReference", fn := fun _ => fun
  | [d1, d2] => { results := [.lit (.bool true)], args := [d1, d2] }
  | _ => none }
def gridMatchesReferenceRow : OpenClaim := { program := "ytkegiinlfmlhlaadoor", sum := "98b2c895a59a702051585d74a651f3541a731d8e0952897063c695e0c7e2da2e", func := "billiard/billiardlaw10.GridMatchesReference", spec := "gridMatchesReference", unfollowed := true, recurses := true, named := ["billiard/cell.factors"], plainKeys := false, apart := false, laid := [("billiard/cell.factors", laid_billiard_cell_factors)] }
def GridMatchesReferenceSaid : Prop := gridMatchesReferenceRow.holds Tryd.pinned (OpenSpec.ofChange gridMatchesReferenceSpec)

/-- ITS FALSE NEIGHBOUR: 'it returns false'. Refute it at one input. -/
def gridMatchesReferenceWrong : ChangeSpec := { name := "gridMatchesReference", fn := fun _ => fun
  | [d1, d2] => { results := [.lit (.bool false)], args := [d1, d2] }
  | _ => none }
def GridMatchesReferenceWrongFalsely : Prop := gridMatchesReferenceRow.holds Tryd.pinned (OpenSpec.ofChange gridMatchesReferenceWrong)

/-- 'billiardlaw10.GridCandidates': WHATEVER THE INPUT: true; the input reads as it did. -/
def gridCandidatesSpec : ChangeSpec := { name := "gridCandidates", fn := fun _ => fun
  | [d] => { results := [.lit (.bool true)], args := [d] }
  | _ => none }
def gridCandidatesRow : OpenClaim := { program := "ytkegiinlfmlhlaadoor", sum := "98b2c895a59a702051585d74a651f3541a731d8e0952897063c695e0c7e2da2e", func := "billiard/billiardlaw10.GridCandidates", spec := "gridCandidates", unfollowed := true, recurses := true, named := ["billiard/cell.factors"], plainKeys := false, apart := false, laid := [("billiard/cell.factors", laid_billiard_cell_factors)] }
def GridCandidatesSaid : Prop := gridCandidatesRow.holds Tryd.pinned (OpenSpec.ofChange gridCandidatesSpec)

/-- ITS FALSE NEIGHBOUR: 'it returns false'. Refute it at one input. -/
def gridCandidatesWrong : ChangeSpec := { name := "gridCandidates", fn := fun _ => fun
  | [d] => { results := [.lit (.bool false)], args := [d] }
  | _ => none }
def GridCandidatesWrongFalsely : Prop := gridCandidatesRow.holds Tryd.pinned (OpenSpec.ofChange gridCandidatesWrong)

/-- 'billiardlaw10.GridOrder': WHATEVER THE INPUT: true; the input reads as it did. -/
def gridOrderSpec : ChangeSpec := { name := "gridOrder", fn := fun _ => fun
  | [d1, d2, d3] => { results := [.lit (.bool true)], args := [d1, d2, d3] }
  | _ => none }
def gridOrderRow : OpenClaim := { program := "ytkegiinlfmlhlaadoor", sum := "98b2c895a59a702051585d74a651f3541a731d8e0952897063c695e0c7e2da2e", func := "billiard/billiardlaw10.GridOrder", spec := "gridOrder", unfollowed := true, recurses := true, named := ["billiard/cell.factors"], plainKeys := false, apart := false, laid := [("billiard/cell.factors", laid_billiard_cell_factors)] }
def GridOrderSaid : Prop := gridOrderRow.holds Tryd.pinned (OpenSpec.ofChange gridOrderSpec)

/-- ITS FALSE NEIGHBOUR: 'it returns false'. Refute it at one input. -/
def gridOrderWrong : ChangeSpec := { name := "gridOrder", fn := fun _ => fun
  | [d1, d2, d3] => { results := [.lit (.bool false)], args := [d1, d2, d3] }
  | _ => none }
def GridOrderWrongFalsely : Prop := gridOrderRow.holds Tryd.pinned (OpenSpec.ofChange gridOrderWrong)

/-- 'billiardlaw10.GridPoints': WHATEVER THE INPUT: true; the input reads as it did. -/
def gridPointsSpec : ChangeSpec := { name := "gridPoints", fn := fun _ => fun
  | [d1, d2] => { results := [.lit (.bool true)], args := [d1, d2] }
  | _ => none }
def gridPointsRow : OpenClaim := { program := "ytkegiinlfmlhlaadoor", sum := "98b2c895a59a702051585d74a651f3541a731d8e0952897063c695e0c7e2da2e", func := "billiard/billiardlaw10.GridPoints", spec := "gridPoints", unfollowed := true, recurses := true, named := ["billiard/cell.factors"], plainKeys := false, apart := false, laid := [("billiard/cell.factors", laid_billiard_cell_factors)] }
def GridPointsSaid : Prop := gridPointsRow.holds Tryd.pinned (OpenSpec.ofChange gridPointsSpec)

/-- ITS FALSE NEIGHBOUR: 'it returns false'. Refute it at one input. -/
def gridPointsWrong : ChangeSpec := { name := "gridPoints", fn := fun _ => fun
  | [d1, d2] => { results := [.lit (.bool false)], args := [d1, d2] }
  | _ => none }
def GridPointsWrongFalsely : Prop := gridPointsRow.holds Tryd.pinned (OpenSpec.ofChange gridPointsWrong)

/-- 'billiardlaw10.GridMore': WHATEVER THE INPUT: true; the input reads as it did. -/
def gridMoreSpec : ChangeSpec := { name := "gridMore", fn := fun _ => fun
  | [d1, d2] => { results := [.lit (.bool true)], args := [d1, d2] }
  | _ => none }
def gridMoreRow : OpenClaim := { program := "ytkegiinlfmlhlaadoor", sum := "98b2c895a59a702051585d74a651f3541a731d8e0952897063c695e0c7e2da2e", func := "billiard/billiardlaw10.GridMore", spec := "gridMore", unfollowed := true, recurses := true, named := ["billiard/cell.factors"], plainKeys := false, apart := false, laid := [("billiard/cell.factors", laid_billiard_cell_factors)] }
def GridMoreSaid : Prop := gridMoreRow.holds Tryd.pinned (OpenSpec.ofChange gridMoreSpec)

/-- ITS FALSE NEIGHBOUR: 'it returns false'. Refute it at one input. -/
def gridMoreWrong : ChangeSpec := { name := "gridMore", fn := fun _ => fun
  | [d1, d2] => { results := [.lit (.bool false)], args := [d1, d2] }
  | _ => none }
def GridMoreWrongFalsely : Prop := gridMoreRow.holds Tryd.pinned (OpenSpec.ofChange gridMoreWrong)

/- THE SECOND FORM. 'bulk': how many values and letters a reading holds, each counted each time it is reached (what is shared counts as often as it is met; a slice's spare places count too). A statement '..UptoSaid' is the law's where the arguments, and the package variables that the reading takes, are together of bulk at most 1048576: NARROWER than '..Said'. Prove '..Said' where nothing that the law and all that it calls make is longer than what came in: it says more and counts as full. Else prove '..UptoSaid'. A law counts once. -/
mutual
def uptoBulk {H : Type} : DataW H → Nat
  | .lit (.string bytes) => bytes.length + 1
  | .lit _ => 1
  | .nil => 1
  | .ptr d => uptoBulk d + 1
  | .slice elems spare => uptoBulkAll elems + uptoBulkAll spare + 1
  | .agg parts => uptoBulkAll parts + 1
  | .iface _ d => uptoBulk d + 1
  | .map entries => uptoBulkEntries entries + 1
  | .held _ => 1
def uptoBulkAll {H : Type} : List (DataW H) → Nat
  | [] => 0
  | d :: r => uptoBulk d + uptoBulkAll r
def uptoBulkEntries {H : Type} : List (Lit × DataW H) → Nat
  | [] => 0
  | x :: r => uptoBulkEntry x + uptoBulkEntries r
def uptoBulkEntry {H : Type} : Lit × DataW H → Nat
  | (.string bytes, d) => bytes.length + uptoBulk d + 1
  | (_, d) => uptoBulk d + 1
 end
def uptoSmall : (H : Type) → List (DataW H) → Bool := fun _ ds => decide (uptoBulkAll ds ≤ 1048576)
def OpenSpec.upto (s : _root_.Go.ChangeSpec) : _root_.Go.OpenSpec := { _root_.Go.OpenSpec.ofChange s with cond := some uptoSmall }

/-- 'billiardlaw15.ContactsLonely', WHERE WHAT IT READS IS OF BULK AT MOST 1048576: true; the input reads as it did. -/
def contactsLonelyUptoRow : OpenClaim := { program := "ytkegiinlfmlhlaadoor", sum := "98b2c895a59a702051585d74a651f3541a731d8e0952897063c695e0c7e2da2e", func := "billiard/billiardlaw15.ContactsLonely", spec := "contactsLonely", unfollowed := true, recurses := true, named := ["billiard/cell.factors", "billiard/box.none", "math/bits.divideError", "math/bits.overflowError"], plainKeys := false, apart := false, laid := [("billiard/box.none", laid_billiard_box_none), ("billiard/cell.factors", laid_billiard_cell_factors)], narrowed := true }
def ContactsLonelyUptoSaid : Prop := contactsLonelyUptoRow.holds Tryd.pinned (OpenSpec.upto contactsLonelySpec)

/-- 'billiardlaw15.ContactsMoves', WHERE WHAT IT READS IS OF BULK AT MOST 1048576: true; the input reads as it did. -/
def contactsMovesUptoRow : OpenClaim := { program := "ytkegiinlfmlhlaadoor", sum := "98b2c895a59a702051585d74a651f3541a731d8e0952897063c695e0c7e2da2e", func := "billiard/billiardlaw15.ContactsMoves", spec := "contactsMoves", unfollowed := true, recurses := true, named := ["billiard/cell.factors", "billiard/box.none", "math/bits.divideError", "math/bits.overflowError"], plainKeys := false, apart := false, laid := [("billiard/box.none", laid_billiard_box_none), ("billiard/cell.factors", laid_billiard_cell_factors)], narrowed := true }
def ContactsMovesUptoSaid : Prop := contactsMovesUptoRow.holds Tryd.pinned (OpenSpec.upto contactsMovesSpec)

/-- 'billiardlaw15.ContactsDeepest', WHERE WHAT IT READS IS OF BULK AT MOST 1048576: true; the input reads as it did. -/
def contactsDeepestUptoRow : OpenClaim := { program := "ytkegiinlfmlhlaadoor", sum := "98b2c895a59a702051585d74a651f3541a731d8e0952897063c695e0c7e2da2e", func := "billiard/billiardlaw15.ContactsDeepest", spec := "contactsDeepest", unfollowed := true, recurses := true, named := ["billiard/cell.factors", "billiard/box.none", "math/bits.divideError", "math/bits.overflowError"], plainKeys := false, apart := false, laid := [("billiard/box.none", laid_billiard_box_none), ("billiard/cell.factors", laid_billiard_cell_factors)], narrowed := true }
def ContactsDeepestUptoSaid : Prop := contactsDeepestUptoRow.holds Tryd.pinned (OpenSpec.upto contactsDeepestSpec)

/-- 'billiardlaw10.GridMatchesReference', WHERE WHAT IT READS IS OF BULK AT MOST 1048576: true; the input reads as it did. -/
def gridMatchesReferenceUptoRow : OpenClaim := { program := "ytkegiinlfmlhlaadoor", sum := "98b2c895a59a702051585d74a651f3541a731d8e0952897063c695e0c7e2da2e", func := "billiard/billiardlaw10.GridMatchesReference", spec := "gridMatchesReference", unfollowed := true, recurses := true, named := ["billiard/cell.factors"], plainKeys := false, apart := false, laid := [("billiard/cell.factors", laid_billiard_cell_factors)], narrowed := true }
def GridMatchesReferenceUptoSaid : Prop := gridMatchesReferenceUptoRow.holds Tryd.pinned (OpenSpec.upto gridMatchesReferenceSpec)

/-- 'billiardlaw10.GridCandidates', WHERE WHAT IT READS IS OF BULK AT MOST 1048576: true; the input reads as it did. -/
def gridCandidatesUptoRow : OpenClaim := { program := "ytkegiinlfmlhlaadoor", sum := "98b2c895a59a702051585d74a651f3541a731d8e0952897063c695e0c7e2da2e", func := "billiard/billiardlaw10.GridCandidates", spec := "gridCandidates", unfollowed := true, recurses := true, named := ["billiard/cell.factors"], plainKeys := false, apart := false, laid := [("billiard/cell.factors", laid_billiard_cell_factors)], narrowed := true }
def GridCandidatesUptoSaid : Prop := gridCandidatesUptoRow.holds Tryd.pinned (OpenSpec.upto gridCandidatesSpec)

/-- 'billiardlaw10.GridOrder', WHERE WHAT IT READS IS OF BULK AT MOST 1048576: true; the input reads as it did. -/
def gridOrderUptoRow : OpenClaim := { program := "ytkegiinlfmlhlaadoor", sum := "98b2c895a59a702051585d74a651f3541a731d8e0952897063c695e0c7e2da2e", func := "billiard/billiardlaw10.GridOrder", spec := "gridOrder", unfollowed := true, recurses := true, named := ["billiard/cell.factors"], plainKeys := false, apart := false, laid := [("billiard/cell.factors", laid_billiard_cell_factors)], narrowed := true }
def GridOrderUptoSaid : Prop := gridOrderUptoRow.holds Tryd.pinned (OpenSpec.upto gridOrderSpec)

/-- 'billiardlaw10.GridPoints', WHERE WHAT IT READS IS OF BULK AT MOST 1048576: true; the input reads as it did. -/
def gridPointsUptoRow : OpenClaim := { program := "ytkegiinlfmlhlaadoor", sum := "98b2c895a59a702051585d74a651f3541a731d8e0952897063c695e0c7e2da2e", func := "billiard/billiardlaw10.GridPoints", spec := "gridPoints", unfollowed := true, recurses := true, named := ["billiard/cell.factors"], plainKeys := false, apart := false, laid := [("billiard/cell.factors", laid_billiard_cell_factors)], narrowed := true }
def GridPointsUptoSaid : Prop := gridPointsUptoRow.holds Tryd.pinned (OpenSpec.upto gridPointsSpec)

/-- 'billiardlaw10.GridMore', WHERE WHAT IT READS IS OF BULK AT MOST 1048576: true; the input reads as it did. -/
def gridMoreUptoRow : OpenClaim := { program := "ytkegiinlfmlhlaadoor", sum := "98b2c895a59a702051585d74a651f3541a731d8e0952897063c695e0c7e2da2e", func := "billiard/billiardlaw10.GridMore", spec := "gridMore", unfollowed := true, recurses := true, named := ["billiard/cell.factors"], plainKeys := false, apart := false, laid := [("billiard/cell.factors", laid_billiard_cell_factors)], narrowed := true }
def GridMoreUptoSaid : Prop := gridMoreUptoRow.holds Tryd.pinned (OpenSpec.upto gridMoreSpec)

end Rows
end Go.Proofs.YtkegiinlfmlhlaaDoor
