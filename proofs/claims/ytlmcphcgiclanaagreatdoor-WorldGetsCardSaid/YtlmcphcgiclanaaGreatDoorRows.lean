/-
  NARROWER THAN 'FOR EVERY INPUT', by the rows' own cells (each row's printed sentence says how): StepModel: laid · StepKeepsShapes: laid · StepMoves: laid · StepLonely: laid · StepSplits: laid · WorldModel: laid · WorldOrder: laid · WorldRestores: laid · WorldInvariant: laid · WorldKeeps: laid · WorldGets: laid.
  DERIVED. THE GIVEN ROWS OF THIS SEAT. 11 by the template 'for every input the law returns true; each argument reads behind the call as it read before'; 0 by the template 'total and deterministic' (their statements: YtlmcphcgiclanaaGreatDoorTotals.lean).
  GIVEN WITH THE SEED: the statements are not yours to turn. If you find one false, say at which input.
  Laid BY PROGRAM, IN A SANDBOX (cutbox-rows.mjs): the forced cells as the released guide's own fill.sh prints them over the translation da42056fe3662d0a… (all of the seat's roots in one cut). By AI agents, Wed Nov 11 2026. No macro, syntax, notation, axiom, sorry.
-/
import Derived.Test.YtlmcphcgiclanaaGreatDoorChecked
import GoSem.Claim
import GoSem.ClaimJoined
import GoSem.ClaimMapViews
import Derived.JoinedTies
import Derived.KernelRfl
namespace Go.Proofs.YtlmcphcgiclanaaGreatDoor
/- THE CELL 'sum', in the pinned program and in every row, IS THE sha256 OF THE DUMP (.gsa) THAT YtlmcphcgiclanaaGreatDoorProg.lean LOADS. Nothing in Lean hashes anything: it is a label: what it is worth is what the hold of that sum in a sandbox is worth. -/
noncomputable def Tryz.pinned : Pinned := { name := "ytlmcphcgiclanaagreatdoor", sum := "da42056fe3662d0a4caa5a609286d7ffc7ca206e767d92415cd6bec7179e3454", checked := Tryz.checked }
namespace Rows
def none {H : Type} : Left H := { results := [], args := [] }

/- WHAT THE LISTED PACKAGE-LEVEL VARIABLES READ AS WHEN THE CALL BEGINS. Each datum BY PROGRAM (the guide's laid-datum.mjs) off the statement by which the dump's own 'gosem.cut.vars' lays the variable. In a bare row this is a premise. The card (YtlmcphcgiclanaaGreatDoorCards.lean) ties it to the program's text. -/
def laid_billiard_box_none {H : Type} : DataW H := .agg [.lit (.int .i32 1), .lit (.int .i32 0), .lit (.int .i32 0), .lit (.int .i32 0)]
def laid_billiard_cell_factors {H : Type} : DataW H := .agg [.lit (.int .u32 73856093), .lit (.int .u32 19349663)]

/-- 'billiardlaw20.StepModel': WHATEVER THE INPUT: true; the input reads as it did. -/
def stepModelSpec : ChangeSpec := { name := "stepModel", fn := fun _ => fun
  | [d] => { results := [.lit (.bool true)], args := [d] }
  | _ => none }
def stepModelRow : OpenClaim := { program := "ytlmcphcgiclanaagreatdoor", sum := "da42056fe3662d0a4caa5a609286d7ffc7ca206e767d92415cd6bec7179e3454", func := "billiard/billiardlaw20.StepModel", spec := "stepModel", inPlace := ["math/bits.Add64"], unfollowed := true, recurses := true, named := ["billiard/cell.factors", "billiard/box.none", "math/bits.divideError", "math/bits.overflowError"], plainKeys := false, apart := false, laid := [("billiard/box.none", laid_billiard_box_none), ("billiard/cell.factors", laid_billiard_cell_factors)] }
def StepModelSaid : Prop := stepModelRow.holds Tryz.pinned (OpenSpec.ofChange stepModelSpec)

/-- ITS FALSE NEIGHBOUR: 'it returns false'. Refute it at one input. -/
def stepModelWrong : ChangeSpec := { name := "stepModel", fn := fun _ => fun
  | [d] => { results := [.lit (.bool false)], args := [d] }
  | _ => none }
def StepModelWrongFalsely : Prop := stepModelRow.holds Tryz.pinned (OpenSpec.ofChange stepModelWrong)

/-- 'billiardlaw20.StepKeepsShapes': WHATEVER THE INPUT: true; the input reads as it did. -/
def stepKeepsShapesSpec : ChangeSpec := { name := "stepKeepsShapes", fn := fun _ => fun
  | [d1, d2] => { results := [.lit (.bool true)], args := [d1, d2] }
  | _ => none }
def stepKeepsShapesRow : OpenClaim := { program := "ytlmcphcgiclanaagreatdoor", sum := "da42056fe3662d0a4caa5a609286d7ffc7ca206e767d92415cd6bec7179e3454", func := "billiard/billiardlaw20.StepKeepsShapes", spec := "stepKeepsShapes", inPlace := ["math/bits.Add64"], unfollowed := true, recurses := true, named := ["billiard/cell.factors", "billiard/box.none", "math/bits.divideError", "math/bits.overflowError"], plainKeys := false, apart := false, laid := [("billiard/box.none", laid_billiard_box_none), ("billiard/cell.factors", laid_billiard_cell_factors)] }
def StepKeepsShapesSaid : Prop := stepKeepsShapesRow.holds Tryz.pinned (OpenSpec.ofChange stepKeepsShapesSpec)

/-- ITS FALSE NEIGHBOUR: 'it returns false'. Refute it at one input. -/
def stepKeepsShapesWrong : ChangeSpec := { name := "stepKeepsShapes", fn := fun _ => fun
  | [d1, d2] => { results := [.lit (.bool false)], args := [d1, d2] }
  | _ => none }
def StepKeepsShapesWrongFalsely : Prop := stepKeepsShapesRow.holds Tryz.pinned (OpenSpec.ofChange stepKeepsShapesWrong)

/-- 'billiardlaw20.StepMoves': WHATEVER THE INPUT: true; the input reads as it did. -/
def stepMovesSpec : ChangeSpec := { name := "stepMoves", fn := fun _ => fun
  | [d1, d2] => { results := [.lit (.bool true)], args := [d1, d2] }
  | _ => none }
def stepMovesRow : OpenClaim := { program := "ytlmcphcgiclanaagreatdoor", sum := "da42056fe3662d0a4caa5a609286d7ffc7ca206e767d92415cd6bec7179e3454", func := "billiard/billiardlaw20.StepMoves", spec := "stepMoves", inPlace := ["math/bits.Add64"], unfollowed := true, recurses := true, named := ["billiard/cell.factors", "billiard/box.none", "math/bits.divideError", "math/bits.overflowError"], plainKeys := false, apart := false, laid := [("billiard/box.none", laid_billiard_box_none), ("billiard/cell.factors", laid_billiard_cell_factors)] }
def StepMovesSaid : Prop := stepMovesRow.holds Tryz.pinned (OpenSpec.ofChange stepMovesSpec)

/-- ITS FALSE NEIGHBOUR: 'it returns false'. Refute it at one input. -/
def stepMovesWrong : ChangeSpec := { name := "stepMoves", fn := fun _ => fun
  | [d1, d2] => { results := [.lit (.bool false)], args := [d1, d2] }
  | _ => none }
def StepMovesWrongFalsely : Prop := stepMovesRow.holds Tryz.pinned (OpenSpec.ofChange stepMovesWrong)

/-- 'billiardlaw20.StepLonely': WHATEVER THE INPUT: true; the input reads as it did. -/
def stepLonelySpec : ChangeSpec := { name := "stepLonely", fn := fun _ => fun
  | [d1, d2] => { results := [.lit (.bool true)], args := [d1, d2] }
  | _ => none }
def stepLonelyRow : OpenClaim := { program := "ytlmcphcgiclanaagreatdoor", sum := "da42056fe3662d0a4caa5a609286d7ffc7ca206e767d92415cd6bec7179e3454", func := "billiard/billiardlaw20.StepLonely", spec := "stepLonely", inPlace := ["math/bits.Add64"], unfollowed := true, recurses := true, named := ["billiard/cell.factors", "billiard/box.none", "math/bits.divideError", "math/bits.overflowError"], plainKeys := false, apart := false, laid := [("billiard/box.none", laid_billiard_box_none), ("billiard/cell.factors", laid_billiard_cell_factors)] }
def StepLonelySaid : Prop := stepLonelyRow.holds Tryz.pinned (OpenSpec.ofChange stepLonelySpec)

/-- ITS FALSE NEIGHBOUR: 'it returns false'. Refute it at one input. -/
def stepLonelyWrong : ChangeSpec := { name := "stepLonely", fn := fun _ => fun
  | [d1, d2] => { results := [.lit (.bool false)], args := [d1, d2] }
  | _ => none }
def StepLonelyWrongFalsely : Prop := stepLonelyRow.holds Tryz.pinned (OpenSpec.ofChange stepLonelyWrong)

/-- 'billiardlaw20.StepSplits': WHATEVER THE INPUT: true; the input reads as it did. -/
def stepSplitsSpec : ChangeSpec := { name := "stepSplits", fn := fun _ => fun
  | [d1, d2, d3] => { results := [.lit (.bool true)], args := [d1, d2, d3] }
  | _ => none }
def stepSplitsRow : OpenClaim := { program := "ytlmcphcgiclanaagreatdoor", sum := "da42056fe3662d0a4caa5a609286d7ffc7ca206e767d92415cd6bec7179e3454", func := "billiard/billiardlaw20.StepSplits", spec := "stepSplits", inPlace := ["math/bits.Add64"], unfollowed := true, recurses := true, named := ["billiard/cell.factors", "billiard/box.none", "math/bits.divideError", "math/bits.overflowError"], plainKeys := false, apart := false, laid := [("billiard/box.none", laid_billiard_box_none), ("billiard/cell.factors", laid_billiard_cell_factors)] }
def StepSplitsSaid : Prop := stepSplitsRow.holds Tryz.pinned (OpenSpec.ofChange stepSplitsSpec)

/-- ITS FALSE NEIGHBOUR: 'it returns false'. Refute it at one input. -/
def stepSplitsWrong : ChangeSpec := { name := "stepSplits", fn := fun _ => fun
  | [d1, d2, d3] => { results := [.lit (.bool false)], args := [d1, d2, d3] }
  | _ => none }
def StepSplitsWrongFalsely : Prop := stepSplitsRow.holds Tryz.pinned (OpenSpec.ofChange stepSplitsWrong)

/-- 'billiardlaw22.WorldModel': WHATEVER THE INPUT: true; the input reads as it did. -/
def worldModelSpec : ChangeSpec := { name := "worldModel", fn := fun _ => fun
  | [d] => { results := [.lit (.bool true)], args := [d] }
  | _ => none }
def worldModelRow : OpenClaim := { program := "ytlmcphcgiclanaagreatdoor", sum := "da42056fe3662d0a4caa5a609286d7ffc7ca206e767d92415cd6bec7179e3454", func := "billiard/billiardlaw22.WorldModel", spec := "worldModel", inPlace := ["math/bits.Add64"], unfollowed := true, recurses := true, named := ["billiard/cell.factors", "billiard/box.none", "math/bits.divideError", "math/bits.overflowError"], plainKeys := false, apart := false, laid := [("billiard/box.none", laid_billiard_box_none), ("billiard/cell.factors", laid_billiard_cell_factors)] }
def WorldModelSaid : Prop := worldModelRow.holds Tryz.pinned (OpenSpec.ofChange worldModelSpec)

/-- ITS FALSE NEIGHBOUR: 'it returns false'. Refute it at one input. -/
def worldModelWrong : ChangeSpec := { name := "worldModel", fn := fun _ => fun
  | [d] => { results := [.lit (.bool false)], args := [d] }
  | _ => none }
def WorldModelWrongFalsely : Prop := worldModelRow.holds Tryz.pinned (OpenSpec.ofChange worldModelWrong)

/-- 'billiardlaw22.WorldOrder': WHATEVER THE INPUT: true; the input reads as it did. -/
def worldOrderSpec : ChangeSpec := { name := "worldOrder", fn := fun _ => fun
  | [d1, d2, d3] => { results := [.lit (.bool true)], args := [d1, d2, d3] }
  | _ => none }
def worldOrderRow : OpenClaim := { program := "ytlmcphcgiclanaagreatdoor", sum := "da42056fe3662d0a4caa5a609286d7ffc7ca206e767d92415cd6bec7179e3454", func := "billiard/billiardlaw22.WorldOrder", spec := "worldOrder", inPlace := ["math/bits.Add64"], unfollowed := true, recurses := true, named := ["billiard/cell.factors", "billiard/box.none", "math/bits.divideError", "math/bits.overflowError"], plainKeys := false, apart := false, laid := [("billiard/box.none", laid_billiard_box_none), ("billiard/cell.factors", laid_billiard_cell_factors)] }
def WorldOrderSaid : Prop := worldOrderRow.holds Tryz.pinned (OpenSpec.ofChange worldOrderSpec)

/-- ITS FALSE NEIGHBOUR: 'it returns false'. Refute it at one input. -/
def worldOrderWrong : ChangeSpec := { name := "worldOrder", fn := fun _ => fun
  | [d1, d2, d3] => { results := [.lit (.bool false)], args := [d1, d2, d3] }
  | _ => none }
def WorldOrderWrongFalsely : Prop := worldOrderRow.holds Tryz.pinned (OpenSpec.ofChange worldOrderWrong)

/-- 'billiardlaw22.WorldRestores': WHATEVER THE INPUT: true; the input reads as it did. -/
def worldRestoresSpec : ChangeSpec := { name := "worldRestores", fn := fun _ => fun
  | [d1, d2, d3, d4] => { results := [.lit (.bool true)], args := [d1, d2, d3, d4] }
  | _ => none }
def worldRestoresRow : OpenClaim := { program := "ytlmcphcgiclanaagreatdoor", sum := "da42056fe3662d0a4caa5a609286d7ffc7ca206e767d92415cd6bec7179e3454", func := "billiard/billiardlaw22.WorldRestores", spec := "worldRestores", inPlace := ["math/bits.Add64"], unfollowed := true, recurses := true, named := ["billiard/cell.factors", "billiard/box.none", "math/bits.divideError", "math/bits.overflowError"], plainKeys := false, apart := false, laid := [("billiard/box.none", laid_billiard_box_none), ("billiard/cell.factors", laid_billiard_cell_factors)] }
def WorldRestoresSaid : Prop := worldRestoresRow.holds Tryz.pinned (OpenSpec.ofChange worldRestoresSpec)

/-- ITS FALSE NEIGHBOUR: 'it returns false'. Refute it at one input. -/
def worldRestoresWrong : ChangeSpec := { name := "worldRestores", fn := fun _ => fun
  | [d1, d2, d3, d4] => { results := [.lit (.bool false)], args := [d1, d2, d3, d4] }
  | _ => none }
def WorldRestoresWrongFalsely : Prop := worldRestoresRow.holds Tryz.pinned (OpenSpec.ofChange worldRestoresWrong)

/-- 'billiardlaw22.WorldInvariant': WHATEVER THE INPUT: true; the input reads as it did. -/
def worldInvariantSpec : ChangeSpec := { name := "worldInvariant", fn := fun _ => fun
  | [d] => { results := [.lit (.bool true)], args := [d] }
  | _ => none }
def worldInvariantRow : OpenClaim := { program := "ytlmcphcgiclanaagreatdoor", sum := "da42056fe3662d0a4caa5a609286d7ffc7ca206e767d92415cd6bec7179e3454", func := "billiard/billiardlaw22.WorldInvariant", spec := "worldInvariant", inPlace := ["math/bits.Add64"], unfollowed := true, recurses := true, named := ["billiard/cell.factors", "billiard/box.none", "math/bits.divideError", "math/bits.overflowError"], plainKeys := false, apart := false, laid := [("billiard/box.none", laid_billiard_box_none), ("billiard/cell.factors", laid_billiard_cell_factors)] }
def WorldInvariantSaid : Prop := worldInvariantRow.holds Tryz.pinned (OpenSpec.ofChange worldInvariantSpec)

/-- ITS FALSE NEIGHBOUR: 'it returns false'. Refute it at one input. -/
def worldInvariantWrong : ChangeSpec := { name := "worldInvariant", fn := fun _ => fun
  | [d] => { results := [.lit (.bool false)], args := [d] }
  | _ => none }
def WorldInvariantWrongFalsely : Prop := worldInvariantRow.holds Tryz.pinned (OpenSpec.ofChange worldInvariantWrong)

/-- 'billiardlaw22.WorldKeeps': WHATEVER THE INPUT: true; the input reads as it did. -/
def worldKeepsSpec : ChangeSpec := { name := "worldKeeps", fn := fun _ => fun
  | [d] => { results := [.lit (.bool true)], args := [d] }
  | _ => none }
def worldKeepsRow : OpenClaim := { program := "ytlmcphcgiclanaagreatdoor", sum := "da42056fe3662d0a4caa5a609286d7ffc7ca206e767d92415cd6bec7179e3454", func := "billiard/billiardlaw22.WorldKeeps", spec := "worldKeeps", inPlace := ["math/bits.Add64"], unfollowed := true, recurses := true, named := ["billiard/cell.factors", "billiard/box.none", "math/bits.divideError", "math/bits.overflowError"], plainKeys := false, apart := false, laid := [("billiard/box.none", laid_billiard_box_none), ("billiard/cell.factors", laid_billiard_cell_factors)] }
def WorldKeepsSaid : Prop := worldKeepsRow.holds Tryz.pinned (OpenSpec.ofChange worldKeepsSpec)

/-- ITS FALSE NEIGHBOUR: 'it returns false'. Refute it at one input. -/
def worldKeepsWrong : ChangeSpec := { name := "worldKeeps", fn := fun _ => fun
  | [d] => { results := [.lit (.bool false)], args := [d] }
  | _ => none }
def WorldKeepsWrongFalsely : Prop := worldKeepsRow.holds Tryz.pinned (OpenSpec.ofChange worldKeepsWrong)

/-- 'billiardlaw22.WorldGets': WHATEVER THE INPUT: true; the input reads as it did. -/
def worldGetsSpec : ChangeSpec := { name := "worldGets", fn := fun _ => fun
  | [d1, d2] => { results := [.lit (.bool true)], args := [d1, d2] }
  | _ => none }
def worldGetsRow : OpenClaim := { program := "ytlmcphcgiclanaagreatdoor", sum := "da42056fe3662d0a4caa5a609286d7ffc7ca206e767d92415cd6bec7179e3454", func := "billiard/billiardlaw22.WorldGets", spec := "worldGets", inPlace := ["math/bits.Add64"], unfollowed := true, recurses := true, named := ["billiard/cell.factors", "billiard/box.none", "math/bits.divideError", "math/bits.overflowError"], plainKeys := false, apart := false, laid := [("billiard/box.none", laid_billiard_box_none), ("billiard/cell.factors", laid_billiard_cell_factors)] }
def WorldGetsSaid : Prop := worldGetsRow.holds Tryz.pinned (OpenSpec.ofChange worldGetsSpec)

/-- ITS FALSE NEIGHBOUR: 'it returns false'. Refute it at one input. -/
def worldGetsWrong : ChangeSpec := { name := "worldGets", fn := fun _ => fun
  | [d1, d2] => { results := [.lit (.bool false)], args := [d1, d2] }
  | _ => none }
def WorldGetsWrongFalsely : Prop := worldGetsRow.holds Tryz.pinned (OpenSpec.ofChange worldGetsWrong)

/- THE SECOND FORM. 'bulk': how many values and letters a reading holds, each counted each time it is reached (what is shared counts as often as it is met; a slice's spare places count too). A statement '..UptoSaid' is the law's where the arguments, and the package variables that the reading takes, are together of bulk at most 1048576: NARROWER than '..Said'. Prove '..Said' where nothing that the law and all that it calls make is longer than what came in: it says more and counts as full. Else prove '..UptoSaid'. A law counts once. -/
mutual
def uptoBulk {H : Type} : DataW H → Nat
  | .lit (.string bytes) => bytes.length + 1
  | .lit _ => 1
  | .nil => 1
  | .ptr d => uptoBulk d + 1
  | .slice elems spare => uptoBulkAll elems + uptoBulkAll spare + 1
  | .agg parts => uptoBulkAll parts + 1
  | .iface _ d => uptoBulk d + 1
  | .map entries => uptoBulkEntries entries + 1
  | .held _ => 1
def uptoBulkAll {H : Type} : List (DataW H) → Nat
  | [] => 0
  | d :: r => uptoBulk d + uptoBulkAll r
def uptoBulkEntries {H : Type} : List (Lit × DataW H) → Nat
  | [] => 0
  | x :: r => uptoBulkEntry x + uptoBulkEntries r
def uptoBulkEntry {H : Type} : Lit × DataW H → Nat
  | (.string bytes, d) => bytes.length + uptoBulk d + 1
  | (_, d) => uptoBulk d + 1
 end
def uptoSmall : (H : Type) → List (DataW H) → Bool := fun _ ds => decide (uptoBulkAll ds ≤ 1048576)
def OpenSpec.upto (s : _root_.Go.ChangeSpec) : _root_.Go.OpenSpec := { _root_.Go.OpenSpec.ofChange s with cond := some uptoSmall }

/-- 'billiardlaw20.StepModel', WHERE WHAT IT READS IS OF BULK AT MOST 1048576: true; the input reads as it did. -/
def stepModelUptoRow : OpenClaim := { program := "ytlmcphcgiclanaagreatdoor", sum := "da42056fe3662d0a4caa5a609286d7ffc7ca206e767d92415cd6bec7179e3454", func := "billiard/billiardlaw20.StepModel", spec := "stepModel", inPlace := ["math/bits.Add64"], unfollowed := true, recurses := true, named := ["billiard/cell.factors", "billiard/box.none", "math/bits.divideError", "math/bits.overflowError"], plainKeys := false, apart := false, laid := [("billiard/box.none", laid_billiard_box_none), ("billiard/cell.factors", laid_billiard_cell_factors)], narrowed := true }
def StepModelUptoSaid : Prop := stepModelUptoRow.holds Tryz.pinned (OpenSpec.upto stepModelSpec)

/-- 'billiardlaw20.StepKeepsShapes', WHERE WHAT IT READS IS OF BULK AT MOST 1048576: true; the input reads as it did. -/
def stepKeepsShapesUptoRow : OpenClaim := { program := "ytlmcphcgiclanaagreatdoor", sum := "da42056fe3662d0a4caa5a609286d7ffc7ca206e767d92415cd6bec7179e3454", func := "billiard/billiardlaw20.StepKeepsShapes", spec := "stepKeepsShapes", inPlace := ["math/bits.Add64"], unfollowed := true, recurses := true, named := ["billiard/cell.factors", "billiard/box.none", "math/bits.divideError", "math/bits.overflowError"], plainKeys := false, apart := false, laid := [("billiard/box.none", laid_billiard_box_none), ("billiard/cell.factors", laid_billiard_cell_factors)], narrowed := true }
def StepKeepsShapesUptoSaid : Prop := stepKeepsShapesUptoRow.holds Tryz.pinned (OpenSpec.upto stepKeepsShapesSpec)

/-- 'billiardlaw20.StepMoves', WHERE WHAT IT READS IS OF BULK AT MOST 1048576: true; the input reads as it did. -/
def stepMovesUptoRow : OpenClaim := { program := "ytlmcphcgiclanaagreatdoor", sum := "da42056fe3662d0a4caa5a609286d7ffc7ca206e767d92415cd6bec7179e3454", func := "billiard/billiardlaw20.StepMoves", spec := "stepMoves", inPlace := ["math/bits.Add64"], unfollowed := true, recurses := true, named := ["billiard/cell.factors", "billiard/box.none", "math/bits.divideError", "math/bits.overflowError"], plainKeys := false, apart := false, laid := [("billiard/box.none", laid_billiard_box_none), ("billiard/cell.factors", laid_billiard_cell_factors)], narrowed := true }
def StepMovesUptoSaid : Prop := stepMovesUptoRow.holds Tryz.pinned (OpenSpec.upto stepMovesSpec)

/-- 'billiardlaw20.StepLonely', WHERE WHAT IT READS IS OF BULK AT MOST 1048576: true; the input reads as it did. -/
def stepLonelyUptoRow : OpenClaim := { program := "ytlmcphcgiclanaagreatdoor", sum := "da42056fe3662d0a4caa5a609286d7ffc7ca206e767d92415cd6bec7179e3454", func := "billiard/billiardlaw20.StepLonely", spec := "stepLonely", inPlace := ["math/bits.Add64"], unfollowed := true, recurses := true, named := ["billiard/cell.factors", "billiard/box.none", "math/bits.divideError", "math/bits.overflowError"], plainKeys := false, apart := false, laid := [("billiard/box.none", laid_billiard_box_none), ("billiard/cell.factors", laid_billiard_cell_factors)], narrowed := true }
def StepLonelyUptoSaid : Prop := stepLonelyUptoRow.holds Tryz.pinned (OpenSpec.upto stepLonelySpec)

/-- 'billiardlaw20.StepSplits', WHERE WHAT IT READS IS OF BULK AT MOST 1048576: true; the input reads as it did. -/
def stepSplitsUptoRow : OpenClaim := { program := "ytlmcphcgiclanaagreatdoor", sum := "da42056fe3662d0a4caa5a609286d7ffc7ca206e767d92415cd6bec7179e3454", func := "billiard/billiardlaw20.StepSplits", spec := "stepSplits", inPlace := ["math/bits.Add64"], unfollowed := true, recurses := true, named := ["billiard/cell.factors", "billiard/box.none", "math/bits.divideError", "math/bits.overflowError"], plainKeys := false, apart := false, laid := [("billiard/box.none", laid_billiard_box_none), ("billiard/cell.factors", laid_billiard_cell_factors)], narrowed := true }
def StepSplitsUptoSaid : Prop := stepSplitsUptoRow.holds Tryz.pinned (OpenSpec.upto stepSplitsSpec)

/-- 'billiardlaw22.WorldModel', WHERE WHAT IT READS IS OF BULK AT MOST 1048576: true; the input reads as it did. -/
def worldModelUptoRow : OpenClaim := { program := "ytlmcphcgiclanaagreatdoor", sum := "da42056fe3662d0a4caa5a609286d7ffc7ca206e767d92415cd6bec7179e3454", func := "billiard/billiardlaw22.WorldModel", spec := "worldModel", inPlace := ["math/bits.Add64"], unfollowed := true, recurses := true, named := ["billiard/cell.factors", "billiard/box.none", "math/bits.divideError", "math/bits.overflowError"], plainKeys := false, apart := false, laid := [("billiard/box.none", laid_billiard_box_none), ("billiard/cell.factors", laid_billiard_cell_factors)], narrowed := true }
def WorldModelUptoSaid : Prop := worldModelUptoRow.holds Tryz.pinned (OpenSpec.upto worldModelSpec)

/-- 'billiardlaw22.WorldOrder', WHERE WHAT IT READS IS OF BULK AT MOST 1048576: true; the input reads as it did. -/
def worldOrderUptoRow : OpenClaim := { program := "ytlmcphcgiclanaagreatdoor", sum := "da42056fe3662d0a4caa5a609286d7ffc7ca206e767d92415cd6bec7179e3454", func := "billiard/billiardlaw22.WorldOrder", spec := "worldOrder", inPlace := ["math/bits.Add64"], unfollowed := true, recurses := true, named := ["billiard/cell.factors", "billiard/box.none", "math/bits.divideError", "math/bits.overflowError"], plainKeys := false, apart := false, laid := [("billiard/box.none", laid_billiard_box_none), ("billiard/cell.factors", laid_billiard_cell_factors)], narrowed := true }
def WorldOrderUptoSaid : Prop := worldOrderUptoRow.holds Tryz.pinned (OpenSpec.upto worldOrderSpec)

/-- 'billiardlaw22.WorldRestores', WHERE WHAT IT READS IS OF BULK AT MOST 1048576: true; the input reads as it did. -/
def worldRestoresUptoRow : OpenClaim := { program := "ytlmcphcgiclanaagreatdoor", sum := "da42056fe3662d0a4caa5a609286d7ffc7ca206e767d92415cd6bec7179e3454", func := "billiard/billiardlaw22.WorldRestores", spec := "worldRestores", inPlace := ["math/bits.Add64"], unfollowed := true, recurses := true, named := ["billiard/cell.factors", "billiard/box.none", "math/bits.divideError", "math/bits.overflowError"], plainKeys := false, apart := false, laid := [("billiard/box.none", laid_billiard_box_none), ("billiard/cell.factors", laid_billiard_cell_factors)], narrowed := true }
def WorldRestoresUptoSaid : Prop := worldRestoresUptoRow.holds Tryz.pinned (OpenSpec.upto worldRestoresSpec)

/-- 'billiardlaw22.WorldInvariant', WHERE WHAT IT READS IS OF BULK AT MOST 1048576: true; the input reads as it did. -/
def worldInvariantUptoRow : OpenClaim := { program := "ytlmcphcgiclanaagreatdoor", sum := "da42056fe3662d0a4caa5a609286d7ffc7ca206e767d92415cd6bec7179e3454", func := "billiard/billiardlaw22.WorldInvariant", spec := "worldInvariant", inPlace := ["math/bits.Add64"], unfollowed := true, recurses := true, named := ["billiard/cell.factors", "billiard/box.none", "math/bits.divideError", "math/bits.overflowError"], plainKeys := false, apart := false, laid := [("billiard/box.none", laid_billiard_box_none), ("billiard/cell.factors", laid_billiard_cell_factors)], narrowed := true }
def WorldInvariantUptoSaid : Prop := worldInvariantUptoRow.holds Tryz.pinned (OpenSpec.upto worldInvariantSpec)

/-- 'billiardlaw22.WorldKeeps', WHERE WHAT IT READS IS OF BULK AT MOST 1048576: true; the input reads as it did. -/
def worldKeepsUptoRow : OpenClaim := { program := "ytlmcphcgiclanaagreatdoor", sum := "da42056fe3662d0a4caa5a609286d7ffc7ca206e767d92415cd6bec7179e3454", func := "billiard/billiardlaw22.WorldKeeps", spec := "worldKeeps", inPlace := ["math/bits.Add64"], unfollowed := true, recurses := true, named := ["billiard/cell.factors", "billiard/box.none", "math/bits.divideError", "math/bits.overflowError"], plainKeys := false, apart := false, laid := [("billiard/box.none", laid_billiard_box_none), ("billiard/cell.factors", laid_billiard_cell_factors)], narrowed := true }
def WorldKeepsUptoSaid : Prop := worldKeepsUptoRow.holds Tryz.pinned (OpenSpec.upto worldKeepsSpec)

/-- 'billiardlaw22.WorldGets', WHERE WHAT IT READS IS OF BULK AT MOST 1048576: true; the input reads as it did. -/
def worldGetsUptoRow : OpenClaim := { program := "ytlmcphcgiclanaagreatdoor", sum := "da42056fe3662d0a4caa5a609286d7ffc7ca206e767d92415cd6bec7179e3454", func := "billiard/billiardlaw22.WorldGets", spec := "worldGets", inPlace := ["math/bits.Add64"], unfollowed := true, recurses := true, named := ["billiard/cell.factors", "billiard/box.none", "math/bits.divideError", "math/bits.overflowError"], plainKeys := false, apart := false, laid := [("billiard/box.none", laid_billiard_box_none), ("billiard/cell.factors", laid_billiard_cell_factors)], narrowed := true }
def WorldGetsUptoSaid : Prop := worldGetsUptoRow.holds Tryz.pinned (OpenSpec.upto worldGetsSpec)

end Rows
end Go.Proofs.YtlmcphcgiclanaaGreatDoor
