/-
  NARROWER THAN 'FOR EVERY INPUT', by the rows' own cells (each row's printed sentence says how): PairsMatchesReference: laid · PairsExact: laid · PairsLonely: laid · PairsMoved: laid · PairsWithin: laid · ContactsLonely: laid · ContactsMoves: laid.
  DERIVED. THE GIVEN ROWS OF THIS SEAT. 7 by the template 'for every input the law returns true; each argument reads behind the call as it read before'; 0 by the template 'total and deterministic' (their statements: YtfgbmegchdjfeaaDoorTotals.lean).
  GIVEN WITH THE SEED: the statements are not yours to turn. If you find one false, say at which input.
  Laid BY PROGRAM, IN A SANDBOX (cutbox-rows.mjs): the forced cells as the released guide's own fill.sh prints them over the translation 226a8585913a2ef7… (all of the seat's roots in one cut). By AI agents, Wed Nov 11 2026. No macro, syntax, notation, axiom, sorry.
-/
import Derived.Test.YtfgbmegchdjfeaaDoorChecked
import GoSem.Claim
import GoSem.ClaimJoined
import GoSem.ClaimMapViews
import Derived.JoinedTies
import Derived.KernelRfl
namespace Go.Proofs.YtfgbmegchdjfeaaDoor
/- THE CELL 'sum', in the pinned program and in every row, IS THE sha256 OF THE DUMP (.gsa) THAT YtfgbmegchdjfeaaDoorProg.lean LOADS. Nothing in Lean hashes anything: it is a label: what it is worth is what the hold of that sum in a sandbox is worth. -/
noncomputable def Tryd.pinned : Pinned := { name := "ytfgbmegchdjfeaadoor", sum := "226a8585913a2ef7803f3ee5f37cf7c455c68adf73e1d72583f7632397c821ba", checked := Tryd.checked }
namespace Rows
def none {H : Type} : Left H := { results := [], args := [] }

/- WHAT THE LISTED PACKAGE-LEVEL VARIABLES READ AS WHEN THE CALL BEGINS. Each datum BY PROGRAM (the guide's laid-datum.mjs) off the statement by which the dump's own 'gosem.cut.vars' lays the variable. In a bare row this is a premise. The card (YtfgbmegchdjfeaaDoorCards.lean) ties it to the program's text. -/
def laid_billiard_box_none {H : Type} : DataW H := .agg [.lit (.int .i32 1), .lit (.int .i32 0), .lit (.int .i32 0), .lit (.int .i32 0)]
def laid_billiard_cell_factors {H : Type} : DataW H := .agg [.lit (.int .u32 73856093), .lit (.int .u32 19349663)]

/-- 'billiardlaw11.PairsMatchesReference': WHATEVER THE INPUT: true; the input reads as it did. -/
def pairsMatchesReferenceSpec : ChangeSpec := { name := "pairsMatchesReference", fn := fun _ => fun
  | [d1, d2, d3] => { results := [.lit (.bool true)], args := [d1, d2, d3] }
  | _ => none }
def pairsMatchesReferenceRow : OpenClaim := { program := "ytfgbmegchdjfeaadoor", sum := "226a8585913a2ef7803f3ee5f37cf7c455c68adf73e1d72583f7632397c821ba", func := "billiard/billiardlaw11.PairsMatchesReference", spec := "pairsMatchesReference", unfollowed := true, recurses := true, named := ["billiard/cell.factors", "billiard/box.none"], plainKeys := false, apart := false, laid := [("billiard/box.none", laid_billiard_box_none), ("billiard/cell.factors", laid_billiard_cell_factors)] }
def PairsMatchesReferenceSaid : Prop := pairsMatchesReferenceRow.holds Tryd.pinned (OpenSpec.ofChange pairsMatchesReferenceSpec)

/-- ITS FALSE NEIGHBOUR: 'it returns false'. Refute it at one input. -/
def pairsMatchesReferenceWrong : ChangeSpec := { name := "pairsMatchesReference", fn := fun _ => fun
  | [d1, d2, d3] => { results := [.lit (.bool false)], args := [d1, d2, d3] }
  | _ => none }
def PairsMatchesReferenceWrongFalsely : Prop := pairsMatchesReferenceRow.holds Tryd.pinned (OpenSpec.ofChange pairsMatchesReferenceWrong)

/-- 'billiardlaw11.PairsExact': WHATEVER THE INPUT: true; the input reads as it did. -/
def pairsExactSpec : ChangeSpec := { name := "pairsExact", fn := fun _ => fun
  | [d] => { results := [.lit (.bool true)], args := [d] }
  | _ => none }
def pairsExactRow : OpenClaim := { program := "ytfgbmegchdjfeaadoor", sum := "226a8585913a2ef7803f3ee5f37cf7c455c68adf73e1d72583f7632397c821ba", func := "billiard/billiardlaw11.PairsExact", spec := "pairsExact", unfollowed := true, recurses := true, named := ["billiard/cell.factors", "billiard/box.none"], plainKeys := false, apart := false, laid := [("billiard/box.none", laid_billiard_box_none), ("billiard/cell.factors", laid_billiard_cell_factors)] }
def PairsExactSaid : Prop := pairsExactRow.holds Tryd.pinned (OpenSpec.ofChange pairsExactSpec)

/-- ITS FALSE NEIGHBOUR: 'it returns false'. Refute it at one input. -/
def pairsExactWrong : ChangeSpec := { name := "pairsExact", fn := fun _ => fun
  | [d] => { results := [.lit (.bool false)], args := [d] }
  | _ => none }
def PairsExactWrongFalsely : Prop := pairsExactRow.holds Tryd.pinned (OpenSpec.ofChange pairsExactWrong)

/-- 'billiardlaw11.PairsLonely': WHATEVER THE INPUT: true; the input reads as it did. -/
def pairsLonelySpec : ChangeSpec := { name := "pairsLonely", fn := fun _ => fun
  | [d1, d2] => { results := [.lit (.bool true)], args := [d1, d2] }
  | _ => none }
def pairsLonelyRow : OpenClaim := { program := "ytfgbmegchdjfeaadoor", sum := "226a8585913a2ef7803f3ee5f37cf7c455c68adf73e1d72583f7632397c821ba", func := "billiard/billiardlaw11.PairsLonely", spec := "pairsLonely", unfollowed := true, recurses := true, named := ["billiard/cell.factors", "billiard/box.none"], plainKeys := false, apart := false, laid := [("billiard/box.none", laid_billiard_box_none), ("billiard/cell.factors", laid_billiard_cell_factors)] }
def PairsLonelySaid : Prop := pairsLonelyRow.holds Tryd.pinned (OpenSpec.ofChange pairsLonelySpec)

/-- ITS FALSE NEIGHBOUR: 'it returns false'. Refute it at one input. -/
def pairsLonelyWrong : ChangeSpec := { name := "pairsLonely", fn := fun _ => fun
  | [d1, d2] => { results := [.lit (.bool false)], args := [d1, d2] }
  | _ => none }
def PairsLonelyWrongFalsely : Prop := pairsLonelyRow.holds Tryd.pinned (OpenSpec.ofChange pairsLonelyWrong)

/-- 'billiardlaw11.PairsMoved': WHATEVER THE INPUT: true; the input reads as it did. -/
def pairsMovedSpec : ChangeSpec := { name := "pairsMoved", fn := fun _ => fun
  | [d1, d2] => { results := [.lit (.bool true)], args := [d1, d2] }
  | _ => none }
def pairsMovedRow : OpenClaim := { program := "ytfgbmegchdjfeaadoor", sum := "226a8585913a2ef7803f3ee5f37cf7c455c68adf73e1d72583f7632397c821ba", func := "billiard/billiardlaw11.PairsMoved", spec := "pairsMoved", unfollowed := true, recurses := true, named := ["billiard/cell.factors", "billiard/box.none"], plainKeys := false, apart := false, laid := [("billiard/box.none", laid_billiard_box_none), ("billiard/cell.factors", laid_billiard_cell_factors)] }
def PairsMovedSaid : Prop := pairsMovedRow.holds Tryd.pinned (OpenSpec.ofChange pairsMovedSpec)

/-- ITS FALSE NEIGHBOUR: 'it returns false'. Refute it at one input. -/
def pairsMovedWrong : ChangeSpec := { name := "pairsMoved", fn := fun _ => fun
  | [d1, d2] => { results := [.lit (.bool false)], args := [d1, d2] }
  | _ => none }
def PairsMovedWrongFalsely : Prop := pairsMovedRow.holds Tryd.pinned (OpenSpec.ofChange pairsMovedWrong)

/-- 'billiardlaw11.PairsWithin': WHATEVER THE INPUT: true; the input reads as it did. -/
def pairsWithinSpec : ChangeSpec := { name := "pairsWithin", fn := fun _ => fun
  | [d1, d2] => { results := [.lit (.bool true)], args := [d1, d2] }
  | _ => none }
def pairsWithinRow : OpenClaim := { program := "ytfgbmegchdjfeaadoor", sum := "226a8585913a2ef7803f3ee5f37cf7c455c68adf73e1d72583f7632397c821ba", func := "billiard/billiardlaw11.PairsWithin", spec := "pairsWithin", unfollowed := true, recurses := true, named := ["billiard/cell.factors", "billiard/box.none"], plainKeys := false, apart := false, laid := [("billiard/box.none", laid_billiard_box_none), ("billiard/cell.factors", laid_billiard_cell_factors)] }
def PairsWithinSaid : Prop := pairsWithinRow.holds Tryd.pinned (OpenSpec.ofChange pairsWithinSpec)

/-- ITS FALSE NEIGHBOUR: 'it returns false'. Refute it at one input. -/
def pairsWithinWrong : ChangeSpec := { name := "pairsWithin", fn := fun _ => fun
  | [d1, d2] => { results := [.lit (.bool false)], args := [d1, d2] }
  | _ => none }
def PairsWithinWrongFalsely : Prop := pairsWithinRow.holds Tryd.pinned (OpenSpec.ofChange pairsWithinWrong)

/-- 'billiardlaw15.ContactsLonely': WHATEVER THE INPUT: true; the input reads as it did. -/
def contactsLonelySpec : ChangeSpec := { name := "contactsLonely", fn := fun _ => fun
  | [d1, d2] => { results := [.lit (.bool true)], args := [d1, d2] }
  | _ => none }
def contactsLonelyRow : OpenClaim := { program := "ytfgbmegchdjfeaadoor", sum := "226a8585913a2ef7803f3ee5f37cf7c455c68adf73e1d72583f7632397c821ba", func := "billiard/billiardlaw15.ContactsLonely", spec := "contactsLonely", unfollowed := true, recurses := true, named := ["billiard/cell.factors", "billiard/box.none", "math/bits.divideError", "math/bits.overflowError"], plainKeys := false, apart := false, laid := [("billiard/box.none", laid_billiard_box_none), ("billiard/cell.factors", laid_billiard_cell_factors)] }
def ContactsLonelySaid : Prop := contactsLonelyRow.holds Tryd.pinned (OpenSpec.ofChange contactsLonelySpec)

/-- ITS FALSE NEIGHBOUR: 'it returns false'. Refute it at one input. -/
def contactsLonelyWrong : ChangeSpec := { name := "contactsLonely", fn := fun _ => fun
  | [d1, d2] => { results := [.lit (.bool false)], args := [d1, d2] }
  | _ => none }
def ContactsLonelyWrongFalsely : Prop := contactsLonelyRow.holds Tryd.pinned (OpenSpec.ofChange contactsLonelyWrong)

/-- 'billiardlaw15.ContactsMoves': WHATEVER THE INPUT: true; the input reads as it did. -/
def contactsMovesSpec : ChangeSpec := { name := "contactsMoves", fn := fun _ => fun
  | [d1, d2] => { results := [.lit (.bool true)], args := [d1, d2] }
  | _ => none }
def contactsMovesRow : OpenClaim := { program := "ytfgbmegchdjfeaadoor", sum := "226a8585913a2ef7803f3ee5f37cf7c455c68adf73e1d72583f7632397c821ba", func := "billiard/billiardlaw15.ContactsMoves", spec := "contactsMoves", unfollowed := true, recurses := true, named := ["billiard/cell.factors", "billiard/box.none", "math/bits.divideError", "math/bits.overflowError"], plainKeys := false, apart := false, laid := [("billiard/box.none", laid_billiard_box_none), ("billiard/cell.factors", laid_billiard_cell_factors)] }
def ContactsMovesSaid : Prop := contactsMovesRow.holds Tryd.pinned (OpenSpec.ofChange contactsMovesSpec)

/-- ITS FALSE NEIGHBOUR: 'it returns false'. Refute it at one input. -/
def contactsMovesWrong : ChangeSpec := { name := "contactsMoves", fn := fun _ => fun
  | [d1, d2] => { results := [.lit (.bool false)], args := [d1, d2] }
  | _ => none }
def ContactsMovesWrongFalsely : Prop := contactsMovesRow.holds Tryd.pinned (OpenSpec.ofChange contactsMovesWrong)

/- THE SECOND FORM. 'bulk': how many values and letters a reading holds, each counted each time it is reached (what is shared counts as often as it is met; a slice's spare places count too). A statement '..UptoSaid' is the law's where the arguments, and the package variables that the reading takes, are together of bulk at most 1048576: NARROWER than '..Said'. Prove '..Said' where nothing that the law and all that it calls make is longer than what came in: it says more and counts as full. Else prove '..UptoSaid'. A law counts once. -/
mutual
def uptoBulk {H : Type} : DataW H → Nat
  | .lit (.string bytes) => bytes.length + 1
  | .lit _ => 1
  | .nil => 1
  | .ptr d => uptoBulk d + 1
  | .slice elems spare => uptoBulkAll elems + uptoBulkAll spare + 1
  | .agg parts => uptoBulkAll parts + 1
  | .iface _ d => uptoBulk d + 1
  | .map entries => uptoBulkEntries entries + 1
  | .held _ => 1
def uptoBulkAll {H : Type} : List (DataW H) → Nat
  | [] => 0
  | d :: r => uptoBulk d + uptoBulkAll r
def uptoBulkEntries {H : Type} : List (Lit × DataW H) → Nat
  | [] => 0
  | x :: r => uptoBulkEntry x + uptoBulkEntries r
def uptoBulkEntry {H : Type} : Lit × DataW H → Nat
  | (.string bytes, d) => bytes.length + uptoBulk d + 1
  | (_, d) => uptoBulk d + 1
 end
def uptoSmall : (H : Type) → List (DataW H) → Bool := fun _ ds => decide (uptoBulkAll ds ≤ 1048576)
def OpenSpec.upto (s : _root_.Go.ChangeSpec) : _root_.Go.OpenSpec := { _root_.Go.OpenSpec.ofChange s with cond := some uptoSmall }

/-- 'billiardlaw11.PairsMatchesReference', WHERE WHAT IT READS IS OF BULK AT MOST 1048576: true; the input reads as it did. -/
def pairsMatchesReferenceUptoRow : OpenClaim := { program := "ytfgbmegchdjfeaadoor", sum := "226a8585913a2ef7803f3ee5f37cf7c455c68adf73e1d72583f7632397c821ba", func := "billiard/billiardlaw11.PairsMatchesReference", spec := "pairsMatchesReference", unfollowed := true, recurses := true, named := ["billiard/cell.factors", "billiard/box.none"], plainKeys := false, apart := false, laid := [("billiard/box.none", laid_billiard_box_none), ("billiard/cell.factors", laid_billiard_cell_factors)], narrowed := true }
def PairsMatchesReferenceUptoSaid : Prop := pairsMatchesReferenceUptoRow.holds Tryd.pinned (OpenSpec.upto pairsMatchesReferenceSpec)

/-- 'billiardlaw11.PairsExact', WHERE WHAT IT READS IS OF BULK AT MOST 1048576: true; the input reads as it did. -/
def pairsExactUptoRow : OpenClaim := { program := "ytfgbmegchdjfeaadoor", sum := "226a8585913a2ef7803f3ee5f37cf7c455c68adf73e1d72583f7632397c821ba", func := "billiard/billiardlaw11.PairsExact", spec := "pairsExact", unfollowed := true, recurses := true, named := ["billiard/cell.factors", "billiard/box.none"], plainKeys := false, apart := false, laid := [("billiard/box.none", laid_billiard_box_none), ("billiard/cell.factors", laid_billiard_cell_factors)], narrowed := true }
def PairsExactUptoSaid : Prop := pairsExactUptoRow.holds Tryd.pinned (OpenSpec.upto pairsExactSpec)

/-- 'billiardlaw11.PairsLonely', WHERE WHAT IT READS IS OF BULK AT MOST 1048576: true; the input reads as it did. -/
def pairsLonelyUptoRow : OpenClaim := { program := "ytfgbmegchdjfeaadoor", sum := "226a8585913a2ef7803f3ee5f37cf7c455c68adf73e1d72583f7632397c821ba", func := "billiard/billiardlaw11.PairsLonely", spec := "pairsLonely", unfollowed := true, recurses := true, named := ["billiard/cell.factors", "billiard/box.none"], plainKeys := false, apart := false, laid := [("billiard/box.none", laid_billiard_box_none), ("billiard/cell.factors", laid_billiard_cell_factors)], narrowed := true }
def PairsLonelyUptoSaid : Prop := pairsLonelyUptoRow.holds Tryd.pinned (OpenSpec.upto pairsLonelySpec)

/-- 'billiardlaw11.PairsMoved', WHERE WHAT IT READS IS OF BULK AT MOST 1048576: true; the input reads as it did. -/
def pairsMovedUptoRow : OpenClaim := { program := "ytfgbmegchdjfeaadoor", sum := "226a8585913a2ef7803f3ee5f37cf7c455c68adf73e1d72583f7632397c821ba", func := "billiard/billiardlaw11.PairsMoved", spec := "pairsMoved", unfollowed := true, recurses := true, named := ["billiard/cell.factors", "billiard/box.none"], plainKeys := false, apart := false, laid := [("billiard/box.none", laid_billiard_box_none), ("billiard/cell.factors", laid_billiard_cell_factors)], narrowed := true }
def PairsMovedUptoSaid : Prop := pairsMovedUptoRow.holds Tryd.pinned (OpenSpec.upto pairsMovedSpec)

/-- 'billiardlaw11.PairsWithin', WHERE WHAT IT READS IS OF BULK AT MOST 1048576: true; the input reads as it did. -/
def pairsWithinUptoRow : OpenClaim := { program := "ytfgbmegchdjfeaadoor", sum := "226a8585913a2ef7803f3ee5f37cf7c455c68adf73e1d72583f7632397c821ba", func := "billiard/billiardlaw11.PairsWithin", spec := "pairsWithin", unfollowed := true, recurses := true, named := ["billiard/cell.factors", "billiard/box.none"], plainKeys := false, apart := false, laid := [("billiard/box.none", laid_billiard_box_none), ("billiard/cell.factors", laid_billiard_cell_factors)], narrowed := true }
def PairsWithinUptoSaid : Prop := pairsWithinUptoRow.holds Tryd.pinned (OpenSpec.upto pairsWithinSpec)

/-- 'billiardlaw15.ContactsLonely', WHERE WHAT IT READS IS OF BULK AT MOST 1048576: true; the input reads as it did. -/
def contactsLonelyUptoRow : OpenClaim := { program := "ytfgbmegchdjfeaadoor", sum := "226a8585913a2ef7803f3ee5f37cf7c455c68adf73e1d72583f7632397c821ba", func := "billiard/billiardlaw15.ContactsLonely", spec := "contactsLonely", unfollowed := true, recurses := true, named := ["billiard/cell.factors", "billiard/box.none", "math/bits.divideError", "math/bits.overflowError"], plainKeys := false, apart := false, laid := [("billiard/box.none", laid_billiard_box_none), ("billiard/cell.factors", laid_billiard_cell_factors)], narrowed := true }
def ContactsLonelyUptoSaid : Prop := contactsLonelyUptoRow.holds Tryd.pinned (OpenSpec.upto contactsLonelySpec)

/-- 'billiardlaw15.ContactsMoves', WHERE WHAT IT READS IS OF BULK AT MOST 1048576: true; the input reads as it did. -/
def contactsMovesUptoRow : OpenClaim := { program := "ytfgbmegchdjfeaadoor", sum := "226a8585913a2ef7803f3ee5f37cf7c455c68adf73e1d72583f7632397c821ba", func := "billiard/billiardlaw15.ContactsMoves", spec := "contactsMoves", unfollowed := true, recurses := true, named := ["billiard/cell.factors", "billiard/box.none", "math/bits.divideError", "math/bits.overflowError"], plainKeys := false, apart := false, laid := [("billiard/box.none", laid_billiard_box_none), ("billiard/cell.factors", laid_billiard_cell_factors)], narrowed := true }
def ContactsMovesUptoSaid : Prop := contactsMovesUptoRow.holds Tryd.pinned (OpenSpec.upto contactsMovesSpec)

end Rows
end Go.Proofs.YtfgbmegchdjfeaaDoor
