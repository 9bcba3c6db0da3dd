/-
  NARROWER THAN 'FOR EVERY INPUT', by the rows' own cells (each row's printed sentence says how): MeasureMatchesReference: laid · MeasureSums: laid · MeasureMerges: laid · MeasureMoves: laid · MeasureQuiet: laid · IslandMatchesReference: laid · IslandPartition: laid · IslandOrder: laid · IslandJoins: laid · IslandKeeps: laid · IslandSingles: laid.
  DERIVED. THE GIVEN ROWS OF THIS SEAT. 11 by the template 'for every input the law returns true; each argument reads behind the call as it read before'; 0 by the template 'total and deterministic' (their statements: YtmcddmhkjcgneaaGreatDoorTotals.lean).
  GIVEN WITH THE SEED: the statements are not yours to turn. If you find one false, say at which input.
  Laid BY PROGRAM, IN A SANDBOX (cutbox-rows.mjs): the forced cells as the released guide's own fill.sh prints them over the translation 68aad13c1d47b472… (all of the seat's roots in one cut). By AI agents, Wed Nov 11 2026. No macro, syntax, notation, axiom, sorry.
-/
import Derived.Test.YtmcddmhkjcgneaaGreatDoorChecked
import GoSem.Claim
import GoSem.ClaimJoined
import GoSem.ClaimMapViews
import Derived.JoinedTies
import Derived.KernelRfl
namespace Go.Proofs.YtmcddmhkjcgneaaGreatDoor
/- THE CELL 'sum', in the pinned program and in every row, IS THE sha256 OF THE DUMP (.gsa) THAT YtmcddmhkjcgneaaGreatDoorProg.lean LOADS. Nothing in Lean hashes anything: it is a label: what it is worth is what the hold of that sum in a sandbox is worth. -/
noncomputable def Tryz.pinned : Pinned := { name := "ytmcddmhkjcgneaagreatdoor", sum := "68aad13c1d47b4728f7ba9babba751637d9fbb3f9f25613c65cd4f59d5e9ba83", checked := Tryz.checked }
namespace Rows
def none {H : Type} : Left H := { results := [], args := [] }

/- WHAT THE LISTED PACKAGE-LEVEL VARIABLES READ AS WHEN THE CALL BEGINS. Each datum BY PROGRAM (the guide's laid-datum.mjs) off the statement by which the dump's own 'gosem.cut.vars' lays the variable. In a bare row this is a premise. The card (YtmcddmhkjcgneaaGreatDoorCards.lean) ties it to the program's text. -/
def laid_billiard_box_none {H : Type} : DataW H := .agg [.lit (.int .i32 1), .lit (.int .i32 0), .lit (.int .i32 0), .lit (.int .i32 0)]
def laid_billiard_cell_factors {H : Type} : DataW H := .agg [.lit (.int .u32 73856093), .lit (.int .u32 19349663)]

/-- 'billiardlaw26.MeasureMatchesReference': WHATEVER THE INPUT: true; the input reads as it did. -/
def measureMatchesReferenceSpec : ChangeSpec := { name := "measureMatchesReference", fn := fun _ => fun
  | [d1, d2] => { results := [.lit (.bool true)], args := [d1, d2] }
  | _ => none }
def measureMatchesReferenceRow : OpenClaim := { program := "ytmcddmhkjcgneaagreatdoor", sum := "68aad13c1d47b4728f7ba9babba751637d9fbb3f9f25613c65cd4f59d5e9ba83", func := "billiard/billiardlaw26.MeasureMatchesReference", spec := "measureMatchesReference", unfollowed := true, recurses := true, named := ["billiard/cell.factors", "billiard/box.none", "math/bits.divideError", "math/bits.overflowError"], plainKeys := false, apart := false, laid := [("billiard/box.none", laid_billiard_box_none), ("billiard/cell.factors", laid_billiard_cell_factors)] }
def MeasureMatchesReferenceSaid : Prop := measureMatchesReferenceRow.holds Tryz.pinned (OpenSpec.ofChange measureMatchesReferenceSpec)

/-- ITS FALSE NEIGHBOUR: 'it returns false'. Refute it at one input. -/
def measureMatchesReferenceWrong : ChangeSpec := { name := "measureMatchesReference", fn := fun _ => fun
  | [d1, d2] => { results := [.lit (.bool false)], args := [d1, d2] }
  | _ => none }
def MeasureMatchesReferenceWrongFalsely : Prop := measureMatchesReferenceRow.holds Tryz.pinned (OpenSpec.ofChange measureMatchesReferenceWrong)

/-- 'billiardlaw26.MeasureSums': WHATEVER THE INPUT: true; the input reads as it did. -/
def measureSumsSpec : ChangeSpec := { name := "measureSums", fn := fun _ => fun
  | [d1, d2] => { results := [.lit (.bool true)], args := [d1, d2] }
  | _ => none }
def measureSumsRow : OpenClaim := { program := "ytmcddmhkjcgneaagreatdoor", sum := "68aad13c1d47b4728f7ba9babba751637d9fbb3f9f25613c65cd4f59d5e9ba83", func := "billiard/billiardlaw26.MeasureSums", spec := "measureSums", unfollowed := true, recurses := true, named := ["billiard/cell.factors", "billiard/box.none", "math/bits.divideError", "math/bits.overflowError"], plainKeys := false, apart := false, laid := [("billiard/box.none", laid_billiard_box_none), ("billiard/cell.factors", laid_billiard_cell_factors)] }
def MeasureSumsSaid : Prop := measureSumsRow.holds Tryz.pinned (OpenSpec.ofChange measureSumsSpec)

/-- ITS FALSE NEIGHBOUR: 'it returns false'. Refute it at one input. -/
def measureSumsWrong : ChangeSpec := { name := "measureSums", fn := fun _ => fun
  | [d1, d2] => { results := [.lit (.bool false)], args := [d1, d2] }
  | _ => none }
def MeasureSumsWrongFalsely : Prop := measureSumsRow.holds Tryz.pinned (OpenSpec.ofChange measureSumsWrong)

/-- 'billiardlaw26.MeasureMerges': WHATEVER THE INPUT: true; the input reads as it did. -/
def measureMergesSpec : ChangeSpec := { name := "measureMerges", fn := fun _ => fun
  | [d1, d2, d3] => { results := [.lit (.bool true)], args := [d1, d2, d3] }
  | _ => none }
def measureMergesRow : OpenClaim := { program := "ytmcddmhkjcgneaagreatdoor", sum := "68aad13c1d47b4728f7ba9babba751637d9fbb3f9f25613c65cd4f59d5e9ba83", func := "billiard/billiardlaw26.MeasureMerges", spec := "measureMerges", unfollowed := true, recurses := true, named := ["billiard/cell.factors", "billiard/box.none", "math/bits.divideError", "math/bits.overflowError"], plainKeys := false, apart := false, laid := [("billiard/box.none", laid_billiard_box_none), ("billiard/cell.factors", laid_billiard_cell_factors)] }
def MeasureMergesSaid : Prop := measureMergesRow.holds Tryz.pinned (OpenSpec.ofChange measureMergesSpec)

/-- ITS FALSE NEIGHBOUR: 'it returns false'. Refute it at one input. -/
def measureMergesWrong : ChangeSpec := { name := "measureMerges", fn := fun _ => fun
  | [d1, d2, d3] => { results := [.lit (.bool false)], args := [d1, d2, d3] }
  | _ => none }
def MeasureMergesWrongFalsely : Prop := measureMergesRow.holds Tryz.pinned (OpenSpec.ofChange measureMergesWrong)

/-- 'billiardlaw26.MeasureMoves': WHATEVER THE INPUT: true; the input reads as it did. -/
def measureMovesSpec : ChangeSpec := { name := "measureMoves", fn := fun _ => fun
  | [d1, d2] => { results := [.lit (.bool true)], args := [d1, d2] }
  | _ => none }
def measureMovesRow : OpenClaim := { program := "ytmcddmhkjcgneaagreatdoor", sum := "68aad13c1d47b4728f7ba9babba751637d9fbb3f9f25613c65cd4f59d5e9ba83", func := "billiard/billiardlaw26.MeasureMoves", spec := "measureMoves", unfollowed := true, recurses := true, named := ["billiard/cell.factors", "billiard/box.none", "math/bits.divideError", "math/bits.overflowError"], plainKeys := false, apart := false, laid := [("billiard/box.none", laid_billiard_box_none), ("billiard/cell.factors", laid_billiard_cell_factors)] }
def MeasureMovesSaid : Prop := measureMovesRow.holds Tryz.pinned (OpenSpec.ofChange measureMovesSpec)

/-- ITS FALSE NEIGHBOUR: 'it returns false'. Refute it at one input. -/
def measureMovesWrong : ChangeSpec := { name := "measureMoves", fn := fun _ => fun
  | [d1, d2] => { results := [.lit (.bool false)], args := [d1, d2] }
  | _ => none }
def MeasureMovesWrongFalsely : Prop := measureMovesRow.holds Tryz.pinned (OpenSpec.ofChange measureMovesWrong)

/-- 'billiardlaw26.MeasureQuiet': WHATEVER THE INPUT: true; the input reads as it did. -/
def measureQuietSpec : ChangeSpec := { name := "measureQuiet", fn := fun _ => fun
  | [d1, d2] => { results := [.lit (.bool true)], args := [d1, d2] }
  | _ => none }
def measureQuietRow : OpenClaim := { program := "ytmcddmhkjcgneaagreatdoor", sum := "68aad13c1d47b4728f7ba9babba751637d9fbb3f9f25613c65cd4f59d5e9ba83", func := "billiard/billiardlaw26.MeasureQuiet", spec := "measureQuiet", unfollowed := true, recurses := true, named := ["billiard/cell.factors", "billiard/box.none", "math/bits.divideError", "math/bits.overflowError"], plainKeys := false, apart := false, laid := [("billiard/box.none", laid_billiard_box_none), ("billiard/cell.factors", laid_billiard_cell_factors)] }
def MeasureQuietSaid : Prop := measureQuietRow.holds Tryz.pinned (OpenSpec.ofChange measureQuietSpec)

/-- ITS FALSE NEIGHBOUR: 'it returns false'. Refute it at one input. -/
def measureQuietWrong : ChangeSpec := { name := "measureQuiet", fn := fun _ => fun
  | [d1, d2] => { results := [.lit (.bool false)], args := [d1, d2] }
  | _ => none }
def MeasureQuietWrongFalsely : Prop := measureQuietRow.holds Tryz.pinned (OpenSpec.ofChange measureQuietWrong)

/-- 'billiardlaw25.IslandMatchesReference': WHATEVER THE INPUT: true; the input reads as it did. -/
def islandMatchesReferenceSpec : ChangeSpec := { name := "islandMatchesReference", fn := fun _ => fun
  | [d1, d2, d3, d4] => { results := [.lit (.bool true)], args := [d1, d2, d3, d4] }
  | _ => none }
def islandMatchesReferenceRow : OpenClaim := { program := "ytmcddmhkjcgneaagreatdoor", sum := "68aad13c1d47b4728f7ba9babba751637d9fbb3f9f25613c65cd4f59d5e9ba83", func := "billiard/billiardlaw25.IslandMatchesReference", spec := "islandMatchesReference", unfollowed := true, recurses := true, named := ["billiard/cell.factors", "billiard/box.none", "math/bits.divideError", "math/bits.overflowError"], plainKeys := false, apart := false, laid := [("billiard/box.none", laid_billiard_box_none), ("billiard/cell.factors", laid_billiard_cell_factors)] }
def IslandMatchesReferenceSaid : Prop := islandMatchesReferenceRow.holds Tryz.pinned (OpenSpec.ofChange islandMatchesReferenceSpec)

/-- ITS FALSE NEIGHBOUR: 'it returns false'. Refute it at one input. -/
def islandMatchesReferenceWrong : ChangeSpec := { name := "islandMatchesReference", fn := fun _ => fun
  | [d1, d2, d3, d4] => { results := [.lit (.bool false)], args := [d1, d2, d3, d4] }
  | _ => none }
def IslandMatchesReferenceWrongFalsely : Prop := islandMatchesReferenceRow.holds Tryz.pinned (OpenSpec.ofChange islandMatchesReferenceWrong)

/-- 'billiardlaw25.IslandPartition': WHATEVER THE INPUT: true; the input reads as it did. -/
def islandPartitionSpec : ChangeSpec := { name := "islandPartition", fn := fun _ => fun
  | [d1, d2] => { results := [.lit (.bool true)], args := [d1, d2] }
  | _ => none }
def islandPartitionRow : OpenClaim := { program := "ytmcddmhkjcgneaagreatdoor", sum := "68aad13c1d47b4728f7ba9babba751637d9fbb3f9f25613c65cd4f59d5e9ba83", func := "billiard/billiardlaw25.IslandPartition", spec := "islandPartition", unfollowed := true, recurses := true, named := ["billiard/cell.factors", "billiard/box.none", "math/bits.divideError", "math/bits.overflowError"], plainKeys := false, apart := false, laid := [("billiard/box.none", laid_billiard_box_none), ("billiard/cell.factors", laid_billiard_cell_factors)] }
def IslandPartitionSaid : Prop := islandPartitionRow.holds Tryz.pinned (OpenSpec.ofChange islandPartitionSpec)

/-- ITS FALSE NEIGHBOUR: 'it returns false'. Refute it at one input. -/
def islandPartitionWrong : ChangeSpec := { name := "islandPartition", fn := fun _ => fun
  | [d1, d2] => { results := [.lit (.bool false)], args := [d1, d2] }
  | _ => none }
def IslandPartitionWrongFalsely : Prop := islandPartitionRow.holds Tryz.pinned (OpenSpec.ofChange islandPartitionWrong)

/-- 'billiardlaw25.IslandOrder': WHATEVER THE INPUT: true; the input reads as it did. -/
def islandOrderSpec : ChangeSpec := { name := "islandOrder", fn := fun _ => fun
  | [d1, d2, d3] => { results := [.lit (.bool true)], args := [d1, d2, d3] }
  | _ => none }
def islandOrderRow : OpenClaim := { program := "ytmcddmhkjcgneaagreatdoor", sum := "68aad13c1d47b4728f7ba9babba751637d9fbb3f9f25613c65cd4f59d5e9ba83", func := "billiard/billiardlaw25.IslandOrder", spec := "islandOrder", unfollowed := true, recurses := true, named := ["billiard/cell.factors", "billiard/box.none", "math/bits.divideError", "math/bits.overflowError"], plainKeys := false, apart := false, laid := [("billiard/box.none", laid_billiard_box_none), ("billiard/cell.factors", laid_billiard_cell_factors)] }
def IslandOrderSaid : Prop := islandOrderRow.holds Tryz.pinned (OpenSpec.ofChange islandOrderSpec)

/-- ITS FALSE NEIGHBOUR: 'it returns false'. Refute it at one input. -/
def islandOrderWrong : ChangeSpec := { name := "islandOrder", fn := fun _ => fun
  | [d1, d2, d3] => { results := [.lit (.bool false)], args := [d1, d2, d3] }
  | _ => none }
def IslandOrderWrongFalsely : Prop := islandOrderRow.holds Tryz.pinned (OpenSpec.ofChange islandOrderWrong)

/-- 'billiardlaw25.IslandJoins': WHATEVER THE INPUT: true; the input reads as it did. -/
def islandJoinsSpec : ChangeSpec := { name := "islandJoins", fn := fun _ => fun
  | [d1, d2, d3] => { results := [.lit (.bool true)], args := [d1, d2, d3] }
  | _ => none }
def islandJoinsRow : OpenClaim := { program := "ytmcddmhkjcgneaagreatdoor", sum := "68aad13c1d47b4728f7ba9babba751637d9fbb3f9f25613c65cd4f59d5e9ba83", func := "billiard/billiardlaw25.IslandJoins", spec := "islandJoins", unfollowed := true, recurses := true, named := ["billiard/cell.factors", "billiard/box.none", "math/bits.divideError", "math/bits.overflowError"], plainKeys := false, apart := false, laid := [("billiard/box.none", laid_billiard_box_none), ("billiard/cell.factors", laid_billiard_cell_factors)] }
def IslandJoinsSaid : Prop := islandJoinsRow.holds Tryz.pinned (OpenSpec.ofChange islandJoinsSpec)

/-- ITS FALSE NEIGHBOUR: 'it returns false'. Refute it at one input. -/
def islandJoinsWrong : ChangeSpec := { name := "islandJoins", fn := fun _ => fun
  | [d1, d2, d3] => { results := [.lit (.bool false)], args := [d1, d2, d3] }
  | _ => none }
def IslandJoinsWrongFalsely : Prop := islandJoinsRow.holds Tryz.pinned (OpenSpec.ofChange islandJoinsWrong)

/-- 'billiardlaw25.IslandKeeps': WHATEVER THE INPUT: true; the input reads as it did. -/
def islandKeepsSpec : ChangeSpec := { name := "islandKeeps", fn := fun _ => fun
  | [d1, d2] => { results := [.lit (.bool true)], args := [d1, d2] }
  | _ => none }
def islandKeepsRow : OpenClaim := { program := "ytmcddmhkjcgneaagreatdoor", sum := "68aad13c1d47b4728f7ba9babba751637d9fbb3f9f25613c65cd4f59d5e9ba83", func := "billiard/billiardlaw25.IslandKeeps", spec := "islandKeeps", unfollowed := true, recurses := true, named := ["billiard/cell.factors", "billiard/box.none", "math/bits.divideError", "math/bits.overflowError"], plainKeys := false, apart := false, laid := [("billiard/box.none", laid_billiard_box_none), ("billiard/cell.factors", laid_billiard_cell_factors)] }
def IslandKeepsSaid : Prop := islandKeepsRow.holds Tryz.pinned (OpenSpec.ofChange islandKeepsSpec)

/-- ITS FALSE NEIGHBOUR: 'it returns false'. Refute it at one input. -/
def islandKeepsWrong : ChangeSpec := { name := "islandKeeps", fn := fun _ => fun
  | [d1, d2] => { results := [.lit (.bool false)], args := [d1, d2] }
  | _ => none }
def IslandKeepsWrongFalsely : Prop := islandKeepsRow.holds Tryz.pinned (OpenSpec.ofChange islandKeepsWrong)

/-- 'billiardlaw25.IslandSingles': WHATEVER THE INPUT: true; the input reads as it did. -/
def islandSinglesSpec : ChangeSpec := { name := "islandSingles", fn := fun _ => fun
  | [d1, d2] => { results := [.lit (.bool true)], args := [d1, d2] }
  | _ => none }
def islandSinglesRow : OpenClaim := { program := "ytmcddmhkjcgneaagreatdoor", sum := "68aad13c1d47b4728f7ba9babba751637d9fbb3f9f25613c65cd4f59d5e9ba83", func := "billiard/billiardlaw25.IslandSingles", spec := "islandSingles", unfollowed := true, recurses := true, named := ["billiard/cell.factors", "billiard/box.none", "math/bits.divideError", "math/bits.overflowError"], plainKeys := false, apart := false, laid := [("billiard/box.none", laid_billiard_box_none), ("billiard/cell.factors", laid_billiard_cell_factors)] }
def IslandSinglesSaid : Prop := islandSinglesRow.holds Tryz.pinned (OpenSpec.ofChange islandSinglesSpec)

/-- ITS FALSE NEIGHBOUR: 'it returns false'. Refute it at one input. -/
def islandSinglesWrong : ChangeSpec := { name := "islandSingles", fn := fun _ => fun
  | [d1, d2] => { results := [.lit (.bool false)], args := [d1, d2] }
  | _ => none }
def IslandSinglesWrongFalsely : Prop := islandSinglesRow.holds Tryz.pinned (OpenSpec.ofChange islandSinglesWrong)

/- THE SECOND FORM. 'bulk': how many values and letters a reading holds, each counted each time it is reached (what is shared counts as often as it is met; a slice's spare places count too). A statement '..UptoSaid' is the law's where the arguments, and the package variables that the reading takes, are together of bulk at most 1048576: NARROWER than '..Said'. Prove '..Said' where nothing that the law and all that it calls make is longer than what came in: it says more and counts as full. Else prove '..UptoSaid'. A law counts once. -/
mutual
def uptoBulk {H : Type} : DataW H → Nat
  | .lit (.string bytes) => bytes.length + 1
  | .lit _ => 1
  | .nil => 1
  | .ptr d => uptoBulk d + 1
  | .slice elems spare => uptoBulkAll elems + uptoBulkAll spare + 1
  | .agg parts => uptoBulkAll parts + 1
  | .iface _ d => uptoBulk d + 1
  | .map entries => uptoBulkEntries entries + 1
  | .held _ => 1
def uptoBulkAll {H : Type} : List (DataW H) → Nat
  | [] => 0
  | d :: r => uptoBulk d + uptoBulkAll r
def uptoBulkEntries {H : Type} : List (Lit × DataW H) → Nat
  | [] => 0
  | x :: r => uptoBulkEntry x + uptoBulkEntries r
def uptoBulkEntry {H : Type} : Lit × DataW H → Nat
  | (.string bytes, d) => bytes.length + uptoBulk d + 1
  | (_, d) => uptoBulk d + 1
 end
def uptoSmall : (H : Type) → List (DataW H) → Bool := fun _ ds => decide (uptoBulkAll ds ≤ 1048576)
def OpenSpec.upto (s : _root_.Go.ChangeSpec) : _root_.Go.OpenSpec := { _root_.Go.OpenSpec.ofChange s with cond := some uptoSmall }

/-- 'billiardlaw26.MeasureMatchesReference', WHERE WHAT IT READS IS OF BULK AT MOST 1048576: true; the input reads as it did. -/
def measureMatchesReferenceUptoRow : OpenClaim := { program := "ytmcddmhkjcgneaagreatdoor", sum := "68aad13c1d47b4728f7ba9babba751637d9fbb3f9f25613c65cd4f59d5e9ba83", func := "billiard/billiardlaw26.MeasureMatchesReference", spec := "measureMatchesReference", unfollowed := true, recurses := true, named := ["billiard/cell.factors", "billiard/box.none", "math/bits.divideError", "math/bits.overflowError"], plainKeys := false, apart := false, laid := [("billiard/box.none", laid_billiard_box_none), ("billiard/cell.factors", laid_billiard_cell_factors)], narrowed := true }
def MeasureMatchesReferenceUptoSaid : Prop := measureMatchesReferenceUptoRow.holds Tryz.pinned (OpenSpec.upto measureMatchesReferenceSpec)

/-- 'billiardlaw26.MeasureSums', WHERE WHAT IT READS IS OF BULK AT MOST 1048576: true; the input reads as it did. -/
def measureSumsUptoRow : OpenClaim := { program := "ytmcddmhkjcgneaagreatdoor", sum := "68aad13c1d47b4728f7ba9babba751637d9fbb3f9f25613c65cd4f59d5e9ba83", func := "billiard/billiardlaw26.MeasureSums", spec := "measureSums", unfollowed := true, recurses := true, named := ["billiard/cell.factors", "billiard/box.none", "math/bits.divideError", "math/bits.overflowError"], plainKeys := false, apart := false, laid := [("billiard/box.none", laid_billiard_box_none), ("billiard/cell.factors", laid_billiard_cell_factors)], narrowed := true }
def MeasureSumsUptoSaid : Prop := measureSumsUptoRow.holds Tryz.pinned (OpenSpec.upto measureSumsSpec)

/-- 'billiardlaw26.MeasureMerges', WHERE WHAT IT READS IS OF BULK AT MOST 1048576: true; the input reads as it did. -/
def measureMergesUptoRow : OpenClaim := { program := "ytmcddmhkjcgneaagreatdoor", sum := "68aad13c1d47b4728f7ba9babba751637d9fbb3f9f25613c65cd4f59d5e9ba83", func := "billiard/billiardlaw26.MeasureMerges", spec := "measureMerges", unfollowed := true, recurses := true, named := ["billiard/cell.factors", "billiard/box.none", "math/bits.divideError", "math/bits.overflowError"], plainKeys := false, apart := false, laid := [("billiard/box.none", laid_billiard_box_none), ("billiard/cell.factors", laid_billiard_cell_factors)], narrowed := true }
def MeasureMergesUptoSaid : Prop := measureMergesUptoRow.holds Tryz.pinned (OpenSpec.upto measureMergesSpec)

/-- 'billiardlaw26.MeasureMoves', WHERE WHAT IT READS IS OF BULK AT MOST 1048576: true; the input reads as it did. -/
def measureMovesUptoRow : OpenClaim := { program := "ytmcddmhkjcgneaagreatdoor", sum := "68aad13c1d47b4728f7ba9babba751637d9fbb3f9f25613c65cd4f59d5e9ba83", func := "billiard/billiardlaw26.MeasureMoves", spec := "measureMoves", unfollowed := true, recurses := true, named := ["billiard/cell.factors", "billiard/box.none", "math/bits.divideError", "math/bits.overflowError"], plainKeys := false, apart := false, laid := [("billiard/box.none", laid_billiard_box_none), ("billiard/cell.factors", laid_billiard_cell_factors)], narrowed := true }
def MeasureMovesUptoSaid : Prop := measureMovesUptoRow.holds Tryz.pinned (OpenSpec.upto measureMovesSpec)

/-- 'billiardlaw26.MeasureQuiet', WHERE WHAT IT READS IS OF BULK AT MOST 1048576: true; the input reads as it did. -/
def measureQuietUptoRow : OpenClaim := { program := "ytmcddmhkjcgneaagreatdoor", sum := "68aad13c1d47b4728f7ba9babba751637d9fbb3f9f25613c65cd4f59d5e9ba83", func := "billiard/billiardlaw26.MeasureQuiet", spec := "measureQuiet", unfollowed := true, recurses := true, named := ["billiard/cell.factors", "billiard/box.none", "math/bits.divideError", "math/bits.overflowError"], plainKeys := false, apart := false, laid := [("billiard/box.none", laid_billiard_box_none), ("billiard/cell.factors", laid_billiard_cell_factors)], narrowed := true }
def MeasureQuietUptoSaid : Prop := measureQuietUptoRow.holds Tryz.pinned (OpenSpec.upto measureQuietSpec)

/-- 'billiardlaw25.IslandMatchesReference', WHERE WHAT IT READS IS OF BULK AT MOST 1048576: true; the input reads as it did. -/
def islandMatchesReferenceUptoRow : OpenClaim := { program := "ytmcddmhkjcgneaagreatdoor", sum := "68aad13c1d47b4728f7ba9babba751637d9fbb3f9f25613c65cd4f59d5e9ba83", func := "billiard/billiardlaw25.IslandMatchesReference", spec := "islandMatchesReference", unfollowed := true, recurses := true, named := ["billiard/cell.factors", "billiard/box.none", "math/bits.divideError", "math/bits.overflowError"], plainKeys := false, apart := false, laid := [("billiard/box.none", laid_billiard_box_none), ("billiard/cell.factors", laid_billiard_cell_factors)], narrowed := true }
def IslandMatchesReferenceUptoSaid : Prop := islandMatchesReferenceUptoRow.holds Tryz.pinned (OpenSpec.upto islandMatchesReferenceSpec)

/-- 'billiardlaw25.IslandPartition', WHERE WHAT IT READS IS OF BULK AT MOST 1048576: true; the input reads as it did. -/
def islandPartitionUptoRow : OpenClaim := { program := "ytmcddmhkjcgneaagreatdoor", sum := "68aad13c1d47b4728f7ba9babba751637d9fbb3f9f25613c65cd4f59d5e9ba83", func := "billiard/billiardlaw25.IslandPartition", spec := "islandPartition", unfollowed := true, recurses := true, named := ["billiard/cell.factors", "billiard/box.none", "math/bits.divideError", "math/bits.overflowError"], plainKeys := false, apart := false, laid := [("billiard/box.none", laid_billiard_box_none), ("billiard/cell.factors", laid_billiard_cell_factors)], narrowed := true }
def IslandPartitionUptoSaid : Prop := islandPartitionUptoRow.holds Tryz.pinned (OpenSpec.upto islandPartitionSpec)

/-- 'billiardlaw25.IslandOrder', WHERE WHAT IT READS IS OF BULK AT MOST 1048576: true; the input reads as it did. -/
def islandOrderUptoRow : OpenClaim := { program := "ytmcddmhkjcgneaagreatdoor", sum := "68aad13c1d47b4728f7ba9babba751637d9fbb3f9f25613c65cd4f59d5e9ba83", func := "billiard/billiardlaw25.IslandOrder", spec := "islandOrder", unfollowed := true, recurses := true, named := ["billiard/cell.factors", "billiard/box.none", "math/bits.divideError", "math/bits.overflowError"], plainKeys := false, apart := false, laid := [("billiard/box.none", laid_billiard_box_none), ("billiard/cell.factors", laid_billiard_cell_factors)], narrowed := true }
def IslandOrderUptoSaid : Prop := islandOrderUptoRow.holds Tryz.pinned (OpenSpec.upto islandOrderSpec)

/-- 'billiardlaw25.IslandJoins', WHERE WHAT IT READS IS OF BULK AT MOST 1048576: true; the input reads as it did. -/
def islandJoinsUptoRow : OpenClaim := { program := "ytmcddmhkjcgneaagreatdoor", sum := "68aad13c1d47b4728f7ba9babba751637d9fbb3f9f25613c65cd4f59d5e9ba83", func := "billiard/billiardlaw25.IslandJoins", spec := "islandJoins", unfollowed := true, recurses := true, named := ["billiard/cell.factors", "billiard/box.none", "math/bits.divideError", "math/bits.overflowError"], plainKeys := false, apart := false, laid := [("billiard/box.none", laid_billiard_box_none), ("billiard/cell.factors", laid_billiard_cell_factors)], narrowed := true }
def IslandJoinsUptoSaid : Prop := islandJoinsUptoRow.holds Tryz.pinned (OpenSpec.upto islandJoinsSpec)

/-- 'billiardlaw25.IslandKeeps', WHERE WHAT IT READS IS OF BULK AT MOST 1048576: true; the input reads as it did. -/
def islandKeepsUptoRow : OpenClaim := { program := "ytmcddmhkjcgneaagreatdoor", sum := "68aad13c1d47b4728f7ba9babba751637d9fbb3f9f25613c65cd4f59d5e9ba83", func := "billiard/billiardlaw25.IslandKeeps", spec := "islandKeeps", unfollowed := true, recurses := true, named := ["billiard/cell.factors", "billiard/box.none", "math/bits.divideError", "math/bits.overflowError"], plainKeys := false, apart := false, laid := [("billiard/box.none", laid_billiard_box_none), ("billiard/cell.factors", laid_billiard_cell_factors)], narrowed := true }
def IslandKeepsUptoSaid : Prop := islandKeepsUptoRow.holds Tryz.pinned (OpenSpec.upto islandKeepsSpec)

/-- 'billiardlaw25.IslandSingles', WHERE WHAT IT READS IS OF BULK AT MOST 1048576: true; the input reads as it did. -/
def islandSinglesUptoRow : OpenClaim := { program := "ytmcddmhkjcgneaagreatdoor", sum := "68aad13c1d47b4728f7ba9babba751637d9fbb3f9f25613c65cd4f59d5e9ba83", func := "billiard/billiardlaw25.IslandSingles", spec := "islandSingles", unfollowed := true, recurses := true, named := ["billiard/cell.factors", "billiard/box.none", "math/bits.divideError", "math/bits.overflowError"], plainKeys := false, apart := false, laid := [("billiard/box.none", laid_billiard_box_none), ("billiard/cell.factors", laid_billiard_cell_factors)], narrowed := true }
def IslandSinglesUptoSaid : Prop := islandSinglesUptoRow.holds Tryz.pinned (OpenSpec.upto islandSinglesSpec)

end Rows
end Go.Proofs.YtmcddmhkjcgneaaGreatDoor
