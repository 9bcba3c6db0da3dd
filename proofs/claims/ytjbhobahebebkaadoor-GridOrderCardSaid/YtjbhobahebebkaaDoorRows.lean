/-
  NARROWER THAN 'FOR EVERY INPUT', by the rows' own cells (each row's printed sentence says how): GridMatchesReference: laid · GridCandidates: laid · GridOrder: laid · GridPoints: laid · GridMore: laid.
  DERIVED. THE GIVEN ROWS OF THIS SEAT. 5 by the template 'for every input the law returns true; each argument reads behind the call as it read before'; 0 by the template 'total and deterministic' (their statements: YtjbhobahebebkaaDoorTotals.lean).
  GIVEN WITH THE SEED: the statements are not yours to turn. If you find one false, say at which input.
  Laid BY PROGRAM, IN A SANDBOX (cutbox-rows.mjs): the forced cells as the released guide's own fill.sh prints them over the translation e0735974e9c890ca… (all of the seat's roots in one cut). By AI agents, Wed Nov 11 2026. No macro, syntax, notation, axiom, sorry.
-/
import Derived.Test.YtjbhobahebebkaaDoorChecked
import GoSem.Claim
import GoSem.ClaimJoined
import GoSem.ClaimMapViews
import Derived.JoinedTies
import Derived.KernelRfl
namespace Go.Proofs.YtjbhobahebebkaaDoor
/- THE CELL 'sum', in the pinned program and in every row, IS THE sha256 OF THE DUMP (.gsa) THAT YtjbhobahebebkaaDoorProg.lean LOADS. Nothing in Lean hashes anything: it is a label: what it is worth is what the hold of that sum in a sandbox is worth. -/
noncomputable def Tryd.pinned : Pinned := { name := "ytjbhobahebebkaadoor", sum := "e0735974e9c890ca66fbca042d314aadfeed1421c6cd448827ab643a401819d4", checked := Tryd.checked }
namespace Rows
def none {H : Type} : Left H := { results := [], args := [] }

/- WHAT THE LISTED PACKAGE-LEVEL VARIABLES READ AS WHEN THE CALL BEGINS. Each datum BY PROGRAM (the guide's laid-datum.mjs) off the statement by which the dump's own 'gosem.cut.vars' lays the variable. In a bare row this is a premise. The card (YtjbhobahebebkaaDoorCards.lean) ties it to the program's text. -/
def laid_billiard_cell_factors {H : Type} : DataW H := .agg [.lit (.int .u32 73856093), .lit (.int .u32 19349663)]

/-- 'billiardlaw10.GridMatchesReference': WHATEVER THE INPUT: true; the input reads as it did. -/
def gridMatchesReferenceSpec : ChangeSpec := { name := "gridMatchesReference", fn := fun _ => fun
  | [d1, d2] => { results := [.lit (.bool true)], args := [d1, d2] }
  | _ => none }
def gridMatchesReferenceRow : OpenClaim := { program := "ytjbhobahebebkaadoor", sum := "e0735974e9c890ca66fbca042d314aadfeed1421c6cd448827ab643a401819d4", func := "billiard/billiardlaw10.GridMatchesReference", spec := "gridMatchesReference", unfollowed := true, recurses := true, named := ["billiard/cell.factors"], plainKeys := false, apart := false, laid := [("billiard/cell.factors", laid_billiard_cell_factors)] }
def GridMatchesReferenceSaid : Prop := gridMatchesReferenceRow.holds Tryd.pinned (OpenSpec.ofChange gridMatchesReferenceSpec)

/-- ITS FALSE NEIGHBOUR: 'it returns false'. Refute it at one input. -/
def gridMatchesReferenceWrong : ChangeSpec := { name := "gridMatchesReference", fn := fun _ => fun
  | [d1, d2] => { results := [.lit (.bool false)], args := [d1, d2] }
  | _ => none }
def GridMatchesReferenceWrongFalsely : Prop := gridMatchesReferenceRow.holds Tryd.pinned (OpenSpec.ofChange gridMatchesReferenceWrong)

/-- 'billiardlaw10.GridCandidates': WHATEVER THE INPUT: true; the input reads as it did. -/
def gridCandidatesSpec : ChangeSpec := { name := "gridCandidates", fn := fun _ => fun
  | [d] => { results := [.lit (.bool true)], args := [d] }
  | _ => none }
def gridCandidatesRow : OpenClaim := { program := "ytjbhobahebebkaadoor", sum := "e0735974e9c890ca66fbca042d314aadfeed1421c6cd448827ab643a401819d4", func := "billiard/billiardlaw10.GridCandidates", spec := "gridCandidates", unfollowed := true, recurses := true, named := ["billiard/cell.factors"], plainKeys := false, apart := false, laid := [("billiard/cell.factors", laid_billiard_cell_factors)] }
def GridCandidatesSaid : Prop := gridCandidatesRow.holds Tryd.pinned (OpenSpec.ofChange gridCandidatesSpec)

/-- ITS FALSE NEIGHBOUR: 'it returns false'. Refute it at one input. -/
def gridCandidatesWrong : ChangeSpec := { name := "gridCandidates", fn := fun _ => fun
  | [d] => { results := [.lit (.bool false)], args := [d] }
  | _ => none }
def GridCandidatesWrongFalsely : Prop := gridCandidatesRow.holds Tryd.pinned (OpenSpec.ofChange gridCandidatesWrong)

/-- 'billiardlaw10.GridOrder': WHATEVER THE INPUT: true; the input reads as it did. -/
def gridOrderSpec : ChangeSpec := { name := "gridOrder", fn := fun _ => fun
  | [d1, d2, d3] => { results := [.lit (.bool true)], args := [d1, d2, d3] }
  | _ => none }
def gridOrderRow : OpenClaim := { program := "ytjbhobahebebkaadoor", sum := "e0735974e9c890ca66fbca042d314aadfeed1421c6cd448827ab643a401819d4", func := "billiard/billiardlaw10.GridOrder", spec := "gridOrder", unfollowed := true, recurses := true, named := ["billiard/cell.factors"], plainKeys := false, apart := false, laid := [("billiard/cell.factors", laid_billiard_cell_factors)] }
def GridOrderSaid : Prop := gridOrderRow.holds Tryd.pinned (OpenSpec.ofChange gridOrderSpec)

/-- ITS FALSE NEIGHBOUR: 'it returns false'. Refute it at one input. -/
def gridOrderWrong : ChangeSpec := { name := "gridOrder", fn := fun _ => fun
  | [d1, d2, d3] => { results := [.lit (.bool false)], args := [d1, d2, d3] }
  | _ => none }
def GridOrderWrongFalsely : Prop := gridOrderRow.holds Tryd.pinned (OpenSpec.ofChange gridOrderWrong)

/-- 'billiardlaw10.GridPoints': WHATEVER THE INPUT: true; the input reads as it did. -/
def gridPointsSpec : ChangeSpec := { name := "gridPoints", fn := fun _ => fun
  | [d1, d2] => { results := [.lit (.bool true)], args := [d1, d2] }
  | _ => none }
def gridPointsRow : OpenClaim := { program := "ytjbhobahebebkaadoor", sum := "e0735974e9c890ca66fbca042d314aadfeed1421c6cd448827ab643a401819d4", func := "billiard/billiardlaw10.GridPoints", spec := "gridPoints", unfollowed := true, recurses := true, named := ["billiard/cell.factors"], plainKeys := false, apart := false, laid := [("billiard/cell.factors", laid_billiard_cell_factors)] }
def GridPointsSaid : Prop := gridPointsRow.holds Tryd.pinned (OpenSpec.ofChange gridPointsSpec)

/-- ITS FALSE NEIGHBOUR: 'it returns false'. Refute it at one input. -/
def gridPointsWrong : ChangeSpec := { name := "gridPoints", fn := fun _ => fun
  | [d1, d2] => { results := [.lit (.bool false)], args := [d1, d2] }
  | _ => none }
def GridPointsWrongFalsely : Prop := gridPointsRow.holds Tryd.pinned (OpenSpec.ofChange gridPointsWrong)

/-- 'billiardlaw10.GridMore': WHATEVER THE INPUT: true; the input reads as it did. -/
def gridMoreSpec : ChangeSpec := { name := "gridMore", fn := fun _ => fun
  | [d1, d2] => { results := [.lit (.bool true)], args := [d1, d2] }
  | _ => none }
def gridMoreRow : OpenClaim := { program := "ytjbhobahebebkaadoor", sum := "e0735974e9c890ca66fbca042d314aadfeed1421c6cd448827ab643a401819d4", func := "billiard/billiardlaw10.GridMore", spec := "gridMore", unfollowed := true, recurses := true, named := ["billiard/cell.factors"], plainKeys := false, apart := false, laid := [("billiard/cell.factors", laid_billiard_cell_factors)] }
def GridMoreSaid : Prop := gridMoreRow.holds Tryd.pinned (OpenSpec.ofChange gridMoreSpec)

/-- ITS FALSE NEIGHBOUR: 'it returns false'. Refute it at one input. -/
def gridMoreWrong : ChangeSpec := { name := "gridMore", fn := fun _ => fun
  | [d1, d2] => { results := [.lit (.bool false)], args := [d1, d2] }
  | _ => none }
def GridMoreWrongFalsely : Prop := gridMoreRow.holds Tryd.pinned (OpenSpec.ofChange gridMoreWrong)

/- THE SECOND FORM. 'bulk': how many values and letters a reading holds, each counted each time it is reached (what is shared counts as often as it is met; a slice's spare places count too). A statement '..UptoSaid' is the law's where the arguments, and the package variables that the reading takes, are together of bulk at most 1048576: NARROWER than '..Said'. Prove '..Said' where nothing that the law and all that it calls make is longer than what came in: it says more and counts as full. Else prove '..UptoSaid'. A law counts once. -/
mutual
def uptoBulk {H : Type} : DataW H → Nat
  | .lit (.string bytes) => bytes.length + 1
  | .lit _ => 1
  | .nil => 1
  | .ptr d => uptoBulk d + 1
  | .slice elems spare => uptoBulkAll elems + uptoBulkAll spare + 1
  | .agg parts => uptoBulkAll parts + 1
  | .iface _ d => uptoBulk d + 1
  | .map entries => uptoBulkEntries entries + 1
  | .held _ => 1
def uptoBulkAll {H : Type} : List (DataW H) → Nat
  | [] => 0
  | d :: r => uptoBulk d + uptoBulkAll r
def uptoBulkEntries {H : Type} : List (Lit × DataW H) → Nat
  | [] => 0
  | x :: r => uptoBulkEntry x + uptoBulkEntries r
def uptoBulkEntry {H : Type} : Lit × DataW H → Nat
  | (.string bytes, d) => bytes.length + uptoBulk d + 1
  | (_, d) => uptoBulk d + 1
 end
def uptoSmall : (H : Type) → List (DataW H) → Bool := fun _ ds => decide (uptoBulkAll ds ≤ 1048576)
def OpenSpec.upto (s : _root_.Go.ChangeSpec) : _root_.Go.OpenSpec := { _root_.Go.OpenSpec.ofChange s with cond := some uptoSmall }

/-- 'billiardlaw10.GridMatchesReference', WHERE WHAT IT READS IS OF BULK AT MOST 1048576: true; the input reads as it did. -/
def gridMatchesReferenceUptoRow : OpenClaim := { program := "ytjbhobahebebkaadoor", sum := "e0735974e9c890ca66fbca042d314aadfeed1421c6cd448827ab643a401819d4", func := "billiard/billiardlaw10.GridMatchesReference", spec := "gridMatchesReference", unfollowed := true, recurses := true, named := ["billiard/cell.factors"], plainKeys := false, apart := false, laid := [("billiard/cell.factors", laid_billiard_cell_factors)], narrowed := true }
def GridMatchesReferenceUptoSaid : Prop := gridMatchesReferenceUptoRow.holds Tryd.pinned (OpenSpec.upto gridMatchesReferenceSpec)

/-- 'billiardlaw10.GridCandidates', WHERE WHAT IT READS IS OF BULK AT MOST 1048576: true; the input reads as it did. -/
def gridCandidatesUptoRow : OpenClaim := { program := "ytjbhobahebebkaadoor", sum := "e0735974e9c890ca66fbca042d314aadfeed1421c6cd448827ab643a401819d4", func := "billiard/billiardlaw10.GridCandidates", spec := "gridCandidates", unfollowed := true, recurses := true, named := ["billiard/cell.factors"], plainKeys := false, apart := false, laid := [("billiard/cell.factors", laid_billiard_cell_factors)], narrowed := true }
def GridCandidatesUptoSaid : Prop := gridCandidatesUptoRow.holds Tryd.pinned (OpenSpec.upto gridCandidatesSpec)

/-- 'billiardlaw10.GridOrder', WHERE WHAT IT READS IS OF BULK AT MOST 1048576: true; the input reads as it did. -/
def gridOrderUptoRow : OpenClaim := { program := "ytjbhobahebebkaadoor", sum := "e0735974e9c890ca66fbca042d314aadfeed1421c6cd448827ab643a401819d4", func := "billiard/billiardlaw10.GridOrder", spec := "gridOrder", unfollowed := true, recurses := true, named := ["billiard/cell.factors"], plainKeys := false, apart := false, laid := [("billiard/cell.factors", laid_billiard_cell_factors)], narrowed := true }
def GridOrderUptoSaid : Prop := gridOrderUptoRow.holds Tryd.pinned (OpenSpec.upto gridOrderSpec)

/-- 'billiardlaw10.GridPoints', WHERE WHAT IT READS IS OF BULK AT MOST 1048576: true; the input reads as it did. -/
def gridPointsUptoRow : OpenClaim := { program := "ytjbhobahebebkaadoor", sum := "e0735974e9c890ca66fbca042d314aadfeed1421c6cd448827ab643a401819d4", func := "billiard/billiardlaw10.GridPoints", spec := "gridPoints", unfollowed := true, recurses := true, named := ["billiard/cell.factors"], plainKeys := false, apart := false, laid := [("billiard/cell.factors", laid_billiard_cell_factors)], narrowed := true }
def GridPointsUptoSaid : Prop := gridPointsUptoRow.holds Tryd.pinned (OpenSpec.upto gridPointsSpec)

/-- 'billiardlaw10.GridMore', WHERE WHAT IT READS IS OF BULK AT MOST 1048576: true; the input reads as it did. -/
def gridMoreUptoRow : OpenClaim := { program := "ytjbhobahebebkaadoor", sum := "e0735974e9c890ca66fbca042d314aadfeed1421c6cd448827ab643a401819d4", func := "billiard/billiardlaw10.GridMore", spec := "gridMore", unfollowed := true, recurses := true, named := ["billiard/cell.factors"], plainKeys := false, apart := false, laid := [("billiard/cell.factors", laid_billiard_cell_factors)], narrowed := true }
def GridMoreUptoSaid : Prop := gridMoreUptoRow.holds Tryd.pinned (OpenSpec.upto gridMoreSpec)

end Rows
end Go.Proofs.YtjbhobahebebkaaDoor
