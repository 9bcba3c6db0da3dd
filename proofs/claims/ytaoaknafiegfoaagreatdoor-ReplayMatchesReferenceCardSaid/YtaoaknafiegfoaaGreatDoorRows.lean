/-
  NARROWER THAN 'FOR EVERY INPUT', by the rows' own cells (each row's printed sentence says how): WholeScripts: laid · WholePermuted: laid · WholeStatic: laid · ScriptOutcomes: laid · ScriptSplits: laid · ScriptErrors: laid · ScriptUnknown: laid · ReplayMatchesReference: laid · ReplayVerifies: laid · ReplayChecks: laid · ReplayAppends: laid · ReplayKeeps: laid · WholeReplays: laid.
  DERIVED. THE GIVEN ROWS OF THIS SEAT. 13 by the template 'for every input the law returns true; each argument reads behind the call as it read before'; 0 by the template 'total and deterministic' (their statements: YtaoaknafiegfoaaGreatDoorTotals.lean).
  GIVEN WITH THE SEED: the statements are not yours to turn. If you find one false, say at which input.
  Laid BY PROGRAM, IN A SANDBOX (cutbox-rows.mjs): the forced cells as the released guide's own fill.sh prints them over the translation 4299d7a86d198a7f… (all of the seat's roots in one cut). By AI agents, Wed Nov 11 2026. No macro, syntax, notation, axiom, sorry.
-/
import Derived.Test.YtaoaknafiegfoaaGreatDoorChecked
import GoSem.Claim
import GoSem.ClaimJoined
import GoSem.ClaimMapViews
import Derived.JoinedTies
import Derived.KernelRfl
namespace Go.Proofs.YtaoaknafiegfoaaGreatDoor
/- THE CELL 'sum', in the pinned program and in every row, IS THE sha256 OF THE DUMP (.gsa) THAT YtaoaknafiegfoaaGreatDoorProg.lean LOADS. Nothing in Lean hashes anything: it is a label: what it is worth is what the hold of that sum in a sandbox is worth. -/
noncomputable def Tryz.pinned : Pinned := { name := "ytaoaknafiegfoaagreatdoor", sum := "4299d7a86d198a7f8cbfd24840d54ebd6a28960cbb783cf941d957741898b71e", checked := Tryz.checked }
namespace Rows
def none {H : Type} : Left H := { results := [], args := [] }

/- WHAT THE LISTED PACKAGE-LEVEL VARIABLES READ AS WHEN THE CALL BEGINS. Each datum BY PROGRAM (the guide's laid-datum.mjs) off the statement by which the dump's own 'gosem.cut.vars' lays the variable. In a bare row this is a premise. The card (YtaoaknafiegfoaaGreatDoorCards.lean) ties it to the program's text. -/
def laid_billiard_box_none {H : Type} : DataW H := .agg [.lit (.int .i32 1), .lit (.int .i32 0), .lit (.int .i32 0), .lit (.int .i32 0)]
def laid_billiard_cell_factors {H : Type} : DataW H := .agg [.lit (.int .u32 73856093), .lit (.int .u32 19349663)]

/-- 'billiardtop.WholeScripts': WHATEVER THE INPUT: true; the input reads as it did. -/
def wholeScriptsSpec : ChangeSpec := { name := "wholeScripts", fn := fun _ => fun
  | [d] => { results := [.lit (.bool true)], args := [d] }
  | _ => none }
def wholeScriptsRow : OpenClaim := { program := "ytaoaknafiegfoaagreatdoor", sum := "4299d7a86d198a7f8cbfd24840d54ebd6a28960cbb783cf941d957741898b71e", func := "billiard/billiardtop.WholeScripts", spec := "wholeScripts", inPlace := ["math/bits.Add64"], unfollowed := true, recurses := true, named := ["billiard/cell.factors", "billiard/box.none", "math/bits.divideError", "math/bits.overflowError"], plainKeys := false, apart := false, laid := [("billiard/box.none", laid_billiard_box_none), ("billiard/cell.factors", laid_billiard_cell_factors)] }
def WholeScriptsSaid : Prop := wholeScriptsRow.holds Tryz.pinned (OpenSpec.ofChange wholeScriptsSpec)

/-- ITS FALSE NEIGHBOUR: 'it returns false'. Refute it at one input. -/
def wholeScriptsWrong : ChangeSpec := { name := "wholeScripts", fn := fun _ => fun
  | [d] => { results := [.lit (.bool false)], args := [d] }
  | _ => none }
def WholeScriptsWrongFalsely : Prop := wholeScriptsRow.holds Tryz.pinned (OpenSpec.ofChange wholeScriptsWrong)

/-- 'billiardtop.WholePermuted': WHATEVER THE INPUT: true; the input reads as it did. -/
def wholePermutedSpec : ChangeSpec := { name := "wholePermuted", fn := fun _ => fun
  | [d1, d2, d3, d4] => { results := [.lit (.bool true)], args := [d1, d2, d3, d4] }
  | _ => none }
def wholePermutedRow : OpenClaim := { program := "ytaoaknafiegfoaagreatdoor", sum := "4299d7a86d198a7f8cbfd24840d54ebd6a28960cbb783cf941d957741898b71e", func := "billiard/billiardtop.WholePermuted", spec := "wholePermuted", inPlace := ["math/bits.Add64"], unfollowed := true, recurses := true, named := ["billiard/cell.factors", "billiard/box.none", "math/bits.divideError", "math/bits.overflowError"], plainKeys := false, apart := false, laid := [("billiard/box.none", laid_billiard_box_none), ("billiard/cell.factors", laid_billiard_cell_factors)] }
def WholePermutedSaid : Prop := wholePermutedRow.holds Tryz.pinned (OpenSpec.ofChange wholePermutedSpec)

/-- ITS FALSE NEIGHBOUR: 'it returns false'. Refute it at one input. -/
def wholePermutedWrong : ChangeSpec := { name := "wholePermuted", fn := fun _ => fun
  | [d1, d2, d3, d4] => { results := [.lit (.bool false)], args := [d1, d2, d3, d4] }
  | _ => none }
def WholePermutedWrongFalsely : Prop := wholePermutedRow.holds Tryz.pinned (OpenSpec.ofChange wholePermutedWrong)

/-- 'billiardtop.WholeStatic': WHATEVER THE INPUT: true; the input reads as it did. -/
def wholeStaticSpec : ChangeSpec := { name := "wholeStatic", fn := fun _ => fun
  | [d1, d2] => { results := [.lit (.bool true)], args := [d1, d2] }
  | _ => none }
def wholeStaticRow : OpenClaim := { program := "ytaoaknafiegfoaagreatdoor", sum := "4299d7a86d198a7f8cbfd24840d54ebd6a28960cbb783cf941d957741898b71e", func := "billiard/billiardtop.WholeStatic", spec := "wholeStatic", inPlace := ["math/bits.Add64"], unfollowed := true, recurses := true, named := ["billiard/cell.factors", "billiard/box.none", "math/bits.divideError", "math/bits.overflowError"], plainKeys := false, apart := false, laid := [("billiard/box.none", laid_billiard_box_none), ("billiard/cell.factors", laid_billiard_cell_factors)] }
def WholeStaticSaid : Prop := wholeStaticRow.holds Tryz.pinned (OpenSpec.ofChange wholeStaticSpec)

/-- ITS FALSE NEIGHBOUR: 'it returns false'. Refute it at one input. -/
def wholeStaticWrong : ChangeSpec := { name := "wholeStatic", fn := fun _ => fun
  | [d1, d2] => { results := [.lit (.bool false)], args := [d1, d2] }
  | _ => none }
def WholeStaticWrongFalsely : Prop := wholeStaticRow.holds Tryz.pinned (OpenSpec.ofChange wholeStaticWrong)

/-- 'billiardlaw23.ScriptOutcomes': WHATEVER THE INPUT: true; the input reads as it did. -/
def scriptOutcomesSpec : ChangeSpec := { name := "scriptOutcomes", fn := fun _ => fun
  | [d] => { results := [.lit (.bool true)], args := [d] }
  | _ => none }
def scriptOutcomesRow : OpenClaim := { program := "ytaoaknafiegfoaagreatdoor", sum := "4299d7a86d198a7f8cbfd24840d54ebd6a28960cbb783cf941d957741898b71e", func := "billiard/billiardlaw23.ScriptOutcomes", spec := "scriptOutcomes", inPlace := ["math/bits.Add64"], unfollowed := true, recurses := true, named := ["billiard/cell.factors", "billiard/box.none", "math/bits.divideError", "math/bits.overflowError"], plainKeys := false, apart := false, laid := [("billiard/box.none", laid_billiard_box_none), ("billiard/cell.factors", laid_billiard_cell_factors)] }
def ScriptOutcomesSaid : Prop := scriptOutcomesRow.holds Tryz.pinned (OpenSpec.ofChange scriptOutcomesSpec)

/-- ITS FALSE NEIGHBOUR: 'it returns false'. Refute it at one input. -/
def scriptOutcomesWrong : ChangeSpec := { name := "scriptOutcomes", fn := fun _ => fun
  | [d] => { results := [.lit (.bool false)], args := [d] }
  | _ => none }
def ScriptOutcomesWrongFalsely : Prop := scriptOutcomesRow.holds Tryz.pinned (OpenSpec.ofChange scriptOutcomesWrong)

/-- 'billiardlaw23.ScriptSplits': WHATEVER THE INPUT: true; the input reads as it did. -/
def scriptSplitsSpec : ChangeSpec := { name := "scriptSplits", fn := fun _ => fun
  | [d1, d2] => { results := [.lit (.bool true)], args := [d1, d2] }
  | _ => none }
def scriptSplitsRow : OpenClaim := { program := "ytaoaknafiegfoaagreatdoor", sum := "4299d7a86d198a7f8cbfd24840d54ebd6a28960cbb783cf941d957741898b71e", func := "billiard/billiardlaw23.ScriptSplits", spec := "scriptSplits", inPlace := ["math/bits.Add64"], unfollowed := true, recurses := true, named := ["billiard/cell.factors", "billiard/box.none", "math/bits.divideError", "math/bits.overflowError"], plainKeys := false, apart := false, laid := [("billiard/box.none", laid_billiard_box_none), ("billiard/cell.factors", laid_billiard_cell_factors)] }
def ScriptSplitsSaid : Prop := scriptSplitsRow.holds Tryz.pinned (OpenSpec.ofChange scriptSplitsSpec)

/-- ITS FALSE NEIGHBOUR: 'it returns false'. Refute it at one input. -/
def scriptSplitsWrong : ChangeSpec := { name := "scriptSplits", fn := fun _ => fun
  | [d1, d2] => { results := [.lit (.bool false)], args := [d1, d2] }
  | _ => none }
def ScriptSplitsWrongFalsely : Prop := scriptSplitsRow.holds Tryz.pinned (OpenSpec.ofChange scriptSplitsWrong)

/-- 'billiardlaw23.ScriptErrors': WHATEVER THE INPUT: true; the input reads as it did. -/
def scriptErrorsSpec : ChangeSpec := { name := "scriptErrors", fn := fun _ => fun
  | [d] => { results := [.lit (.bool true)], args := [d] }
  | _ => none }
def scriptErrorsRow : OpenClaim := { program := "ytaoaknafiegfoaagreatdoor", sum := "4299d7a86d198a7f8cbfd24840d54ebd6a28960cbb783cf941d957741898b71e", func := "billiard/billiardlaw23.ScriptErrors", spec := "scriptErrors", inPlace := ["math/bits.Add64"], unfollowed := true, recurses := true, named := ["billiard/cell.factors", "billiard/box.none", "math/bits.divideError", "math/bits.overflowError"], plainKeys := false, apart := false, laid := [("billiard/box.none", laid_billiard_box_none), ("billiard/cell.factors", laid_billiard_cell_factors)] }
def ScriptErrorsSaid : Prop := scriptErrorsRow.holds Tryz.pinned (OpenSpec.ofChange scriptErrorsSpec)

/-- ITS FALSE NEIGHBOUR: 'it returns false'. Refute it at one input. -/
def scriptErrorsWrong : ChangeSpec := { name := "scriptErrors", fn := fun _ => fun
  | [d] => { results := [.lit (.bool false)], args := [d] }
  | _ => none }
def ScriptErrorsWrongFalsely : Prop := scriptErrorsRow.holds Tryz.pinned (OpenSpec.ofChange scriptErrorsWrong)

/-- 'billiardlaw23.ScriptUnknown': WHATEVER THE INPUT: true; the input reads as it did. -/
def scriptUnknownSpec : ChangeSpec := { name := "scriptUnknown", fn := fun _ => fun
  | [d1, d2] => { results := [.lit (.bool true)], args := [d1, d2] }
  | _ => none }
def scriptUnknownRow : OpenClaim := { program := "ytaoaknafiegfoaagreatdoor", sum := "4299d7a86d198a7f8cbfd24840d54ebd6a28960cbb783cf941d957741898b71e", func := "billiard/billiardlaw23.ScriptUnknown", spec := "scriptUnknown", inPlace := ["math/bits.Add64"], unfollowed := true, recurses := true, named := ["billiard/cell.factors", "billiard/box.none", "math/bits.divideError", "math/bits.overflowError"], plainKeys := false, apart := false, laid := [("billiard/box.none", laid_billiard_box_none), ("billiard/cell.factors", laid_billiard_cell_factors)] }
def ScriptUnknownSaid : Prop := scriptUnknownRow.holds Tryz.pinned (OpenSpec.ofChange scriptUnknownSpec)

/-- ITS FALSE NEIGHBOUR: 'it returns false'. Refute it at one input. -/
def scriptUnknownWrong : ChangeSpec := { name := "scriptUnknown", fn := fun _ => fun
  | [d1, d2] => { results := [.lit (.bool false)], args := [d1, d2] }
  | _ => none }
def ScriptUnknownWrongFalsely : Prop := scriptUnknownRow.holds Tryz.pinned (OpenSpec.ofChange scriptUnknownWrong)

/-- 'billiardlaw28.ReplayMatchesReference': WHATEVER THE INPUT: true; the input reads as it did. -/
def replayMatchesReferenceSpec : ChangeSpec := { name := "replayMatchesReference", fn := fun _ => fun
  | [d1, d2, d3] => { results := [.lit (.bool true)], args := [d1, d2, d3] }
  | _ => none }
def replayMatchesReferenceRow : OpenClaim := { program := "ytaoaknafiegfoaagreatdoor", sum := "4299d7a86d198a7f8cbfd24840d54ebd6a28960cbb783cf941d957741898b71e", func := "billiard/billiardlaw28.ReplayMatchesReference", spec := "replayMatchesReference", inPlace := ["math/bits.Add64"], unfollowed := true, recurses := true, named := ["billiard/cell.factors", "billiard/box.none", "math/bits.divideError", "math/bits.overflowError"], plainKeys := false, apart := false, laid := [("billiard/box.none", laid_billiard_box_none), ("billiard/cell.factors", laid_billiard_cell_factors)] }
def ReplayMatchesReferenceSaid : Prop := replayMatchesReferenceRow.holds Tryz.pinned (OpenSpec.ofChange replayMatchesReferenceSpec)

/-- ITS FALSE NEIGHBOUR: 'it returns false'. Refute it at one input. -/
def replayMatchesReferenceWrong : ChangeSpec := { name := "replayMatchesReference", fn := fun _ => fun
  | [d1, d2, d3] => { results := [.lit (.bool false)], args := [d1, d2, d3] }
  | _ => none }
def ReplayMatchesReferenceWrongFalsely : Prop := replayMatchesReferenceRow.holds Tryz.pinned (OpenSpec.ofChange replayMatchesReferenceWrong)

/-- 'billiardlaw28.ReplayVerifies': WHATEVER THE INPUT: true; the input reads as it did. -/
def replayVerifiesSpec : ChangeSpec := { name := "replayVerifies", fn := fun _ => fun
  | [d1, d2, d3, d4] => { results := [.lit (.bool true)], args := [d1, d2, d3, d4] }
  | _ => none }
def replayVerifiesRow : OpenClaim := { program := "ytaoaknafiegfoaagreatdoor", sum := "4299d7a86d198a7f8cbfd24840d54ebd6a28960cbb783cf941d957741898b71e", func := "billiard/billiardlaw28.ReplayVerifies", spec := "replayVerifies", inPlace := ["math/bits.Add64"], unfollowed := true, recurses := true, named := ["billiard/cell.factors", "billiard/box.none", "math/bits.divideError", "math/bits.overflowError"], plainKeys := false, apart := false, laid := [("billiard/box.none", laid_billiard_box_none), ("billiard/cell.factors", laid_billiard_cell_factors)] }
def ReplayVerifiesSaid : Prop := replayVerifiesRow.holds Tryz.pinned (OpenSpec.ofChange replayVerifiesSpec)

/-- ITS FALSE NEIGHBOUR: 'it returns false'. Refute it at one input. -/
def replayVerifiesWrong : ChangeSpec := { name := "replayVerifies", fn := fun _ => fun
  | [d1, d2, d3, d4] => { results := [.lit (.bool false)], args := [d1, d2, d3, d4] }
  | _ => none }
def ReplayVerifiesWrongFalsely : Prop := replayVerifiesRow.holds Tryz.pinned (OpenSpec.ofChange replayVerifiesWrong)

/-- 'billiardlaw28.ReplayChecks': WHATEVER THE INPUT: true; the input reads as it did. -/
def replayChecksSpec : ChangeSpec := { name := "replayChecks", fn := fun _ => fun
  | [d] => { results := [.lit (.bool true)], args := [d] }
  | _ => none }
def replayChecksRow : OpenClaim := { program := "ytaoaknafiegfoaagreatdoor", sum := "4299d7a86d198a7f8cbfd24840d54ebd6a28960cbb783cf941d957741898b71e", func := "billiard/billiardlaw28.ReplayChecks", spec := "replayChecks", inPlace := ["math/bits.Add64"], unfollowed := true, recurses := true, named := ["billiard/cell.factors", "billiard/box.none", "math/bits.divideError", "math/bits.overflowError"], plainKeys := false, apart := false, laid := [("billiard/box.none", laid_billiard_box_none), ("billiard/cell.factors", laid_billiard_cell_factors)] }
def ReplayChecksSaid : Prop := replayChecksRow.holds Tryz.pinned (OpenSpec.ofChange replayChecksSpec)

/-- ITS FALSE NEIGHBOUR: 'it returns false'. Refute it at one input. -/
def replayChecksWrong : ChangeSpec := { name := "replayChecks", fn := fun _ => fun
  | [d] => { results := [.lit (.bool false)], args := [d] }
  | _ => none }
def ReplayChecksWrongFalsely : Prop := replayChecksRow.holds Tryz.pinned (OpenSpec.ofChange replayChecksWrong)

/-- 'billiardlaw28.ReplayAppends': WHATEVER THE INPUT: true; the input reads as it did. -/
def replayAppendsSpec : ChangeSpec := { name := "replayAppends", fn := fun _ => fun
  | [d1, d2] => { results := [.lit (.bool true)], args := [d1, d2] }
  | _ => none }
def replayAppendsRow : OpenClaim := { program := "ytaoaknafiegfoaagreatdoor", sum := "4299d7a86d198a7f8cbfd24840d54ebd6a28960cbb783cf941d957741898b71e", func := "billiard/billiardlaw28.ReplayAppends", spec := "replayAppends", inPlace := ["math/bits.Add64"], unfollowed := true, recurses := true, named := ["billiard/cell.factors", "billiard/box.none", "math/bits.divideError", "math/bits.overflowError"], plainKeys := false, apart := false, laid := [("billiard/box.none", laid_billiard_box_none), ("billiard/cell.factors", laid_billiard_cell_factors)] }
def ReplayAppendsSaid : Prop := replayAppendsRow.holds Tryz.pinned (OpenSpec.ofChange replayAppendsSpec)

/-- ITS FALSE NEIGHBOUR: 'it returns false'. Refute it at one input. -/
def replayAppendsWrong : ChangeSpec := { name := "replayAppends", fn := fun _ => fun
  | [d1, d2] => { results := [.lit (.bool false)], args := [d1, d2] }
  | _ => none }
def ReplayAppendsWrongFalsely : Prop := replayAppendsRow.holds Tryz.pinned (OpenSpec.ofChange replayAppendsWrong)

/-- 'billiardlaw28.ReplayKeeps': WHATEVER THE INPUT: true; the input reads as it did. -/
def replayKeepsSpec : ChangeSpec := { name := "replayKeeps", fn := fun _ => fun
  | [d1, d2] => { results := [.lit (.bool true)], args := [d1, d2] }
  | _ => none }
def replayKeepsRow : OpenClaim := { program := "ytaoaknafiegfoaagreatdoor", sum := "4299d7a86d198a7f8cbfd24840d54ebd6a28960cbb783cf941d957741898b71e", func := "billiard/billiardlaw28.ReplayKeeps", spec := "replayKeeps", inPlace := ["math/bits.Add64"], unfollowed := true, recurses := true, named := ["billiard/cell.factors", "billiard/box.none", "math/bits.divideError", "math/bits.overflowError"], plainKeys := false, apart := false, laid := [("billiard/box.none", laid_billiard_box_none), ("billiard/cell.factors", laid_billiard_cell_factors)] }
def ReplayKeepsSaid : Prop := replayKeepsRow.holds Tryz.pinned (OpenSpec.ofChange replayKeepsSpec)

/-- ITS FALSE NEIGHBOUR: 'it returns false'. Refute it at one input. -/
def replayKeepsWrong : ChangeSpec := { name := "replayKeeps", fn := fun _ => fun
  | [d1, d2] => { results := [.lit (.bool false)], args := [d1, d2] }
  | _ => none }
def ReplayKeepsWrongFalsely : Prop := replayKeepsRow.holds Tryz.pinned (OpenSpec.ofChange replayKeepsWrong)

/-- 'billiardtop.WholeReplays': WHATEVER THE INPUT: true; the input reads as it did. -/
def wholeReplaysSpec : ChangeSpec := { name := "wholeReplays", fn := fun _ => fun
  | [d1, d2, d3] => { results := [.lit (.bool true)], args := [d1, d2, d3] }
  | _ => none }
def wholeReplaysRow : OpenClaim := { program := "ytaoaknafiegfoaagreatdoor", sum := "4299d7a86d198a7f8cbfd24840d54ebd6a28960cbb783cf941d957741898b71e", func := "billiard/billiardtop.WholeReplays", spec := "wholeReplays", inPlace := ["math/bits.Add64"], unfollowed := true, recurses := true, named := ["billiard/cell.factors", "billiard/box.none", "math/bits.divideError", "math/bits.overflowError"], plainKeys := false, apart := false, laid := [("billiard/box.none", laid_billiard_box_none), ("billiard/cell.factors", laid_billiard_cell_factors)] }
def WholeReplaysSaid : Prop := wholeReplaysRow.holds Tryz.pinned (OpenSpec.ofChange wholeReplaysSpec)

/-- ITS FALSE NEIGHBOUR: 'it returns false'. Refute it at one input. -/
def wholeReplaysWrong : ChangeSpec := { name := "wholeReplays", fn := fun _ => fun
  | [d1, d2, d3] => { results := [.lit (.bool false)], args := [d1, d2, d3] }
  | _ => none }
def WholeReplaysWrongFalsely : Prop := wholeReplaysRow.holds Tryz.pinned (OpenSpec.ofChange wholeReplaysWrong)

/- THE SECOND FORM. 'bulk': how many values and letters a reading holds, each counted each time it is reached (what is shared counts as often as it is met; a slice's spare places count too). A statement '..UptoSaid' is the law's where the arguments, and the package variables that the reading takes, are together of bulk at most 1048576: NARROWER than '..Said'. Prove '..Said' where nothing that the law and all that it calls make is longer than what came in: it says more and counts as full. Else prove '..UptoSaid'. A law counts once. -/
mutual
def uptoBulk {H : Type} : DataW H → Nat
  | .lit (.string bytes) => bytes.length + 1
  | .lit _ => 1
  | .nil => 1
  | .ptr d => uptoBulk d + 1
  | .slice elems spare => uptoBulkAll elems + uptoBulkAll spare + 1
  | .agg parts => uptoBulkAll parts + 1
  | .iface _ d => uptoBulk d + 1
  | .map entries => uptoBulkEntries entries + 1
  | .held _ => 1
def uptoBulkAll {H : Type} : List (DataW H) → Nat
  | [] => 0
  | d :: r => uptoBulk d + uptoBulkAll r
def uptoBulkEntries {H : Type} : List (Lit × DataW H) → Nat
  | [] => 0
  | x :: r => uptoBulkEntry x + uptoBulkEntries r
def uptoBulkEntry {H : Type} : Lit × DataW H → Nat
  | (.string bytes, d) => bytes.length + uptoBulk d + 1
  | (_, d) => uptoBulk d + 1
 end
def uptoSmall : (H : Type) → List (DataW H) → Bool := fun _ ds => decide (uptoBulkAll ds ≤ 1048576)
def OpenSpec.upto (s : _root_.Go.ChangeSpec) : _root_.Go.OpenSpec := { _root_.Go.OpenSpec.ofChange s with cond := some uptoSmall }

/-- 'billiardtop.WholeScripts', WHERE WHAT IT READS IS OF BULK AT MOST 1048576: true; the input reads as it did. -/
def wholeScriptsUptoRow : OpenClaim := { program := "ytaoaknafiegfoaagreatdoor", sum := "4299d7a86d198a7f8cbfd24840d54ebd6a28960cbb783cf941d957741898b71e", func := "billiard/billiardtop.WholeScripts", spec := "wholeScripts", inPlace := ["math/bits.Add64"], unfollowed := true, recurses := true, named := ["billiard/cell.factors", "billiard/box.none", "math/bits.divideError", "math/bits.overflowError"], plainKeys := false, apart := false, laid := [("billiard/box.none", laid_billiard_box_none), ("billiard/cell.factors", laid_billiard_cell_factors)], narrowed := true }
def WholeScriptsUptoSaid : Prop := wholeScriptsUptoRow.holds Tryz.pinned (OpenSpec.upto wholeScriptsSpec)

/-- 'billiardtop.WholePermuted', WHERE WHAT IT READS IS OF BULK AT MOST 1048576: true; the input reads as it did. -/
def wholePermutedUptoRow : OpenClaim := { program := "ytaoaknafiegfoaagreatdoor", sum := "4299d7a86d198a7f8cbfd24840d54ebd6a28960cbb783cf941d957741898b71e", func := "billiard/billiardtop.WholePermuted", spec := "wholePermuted", inPlace := ["math/bits.Add64"], unfollowed := true, recurses := true, named := ["billiard/cell.factors", "billiard/box.none", "math/bits.divideError", "math/bits.overflowError"], plainKeys := false, apart := false, laid := [("billiard/box.none", laid_billiard_box_none), ("billiard/cell.factors", laid_billiard_cell_factors)], narrowed := true }
def WholePermutedUptoSaid : Prop := wholePermutedUptoRow.holds Tryz.pinned (OpenSpec.upto wholePermutedSpec)

/-- 'billiardtop.WholeStatic', WHERE WHAT IT READS IS OF BULK AT MOST 1048576: true; the input reads as it did. -/
def wholeStaticUptoRow : OpenClaim := { program := "ytaoaknafiegfoaagreatdoor", sum := "4299d7a86d198a7f8cbfd24840d54ebd6a28960cbb783cf941d957741898b71e", func := "billiard/billiardtop.WholeStatic", spec := "wholeStatic", inPlace := ["math/bits.Add64"], unfollowed := true, recurses := true, named := ["billiard/cell.factors", "billiard/box.none", "math/bits.divideError", "math/bits.overflowError"], plainKeys := false, apart := false, laid := [("billiard/box.none", laid_billiard_box_none), ("billiard/cell.factors", laid_billiard_cell_factors)], narrowed := true }
def WholeStaticUptoSaid : Prop := wholeStaticUptoRow.holds Tryz.pinned (OpenSpec.upto wholeStaticSpec)

/-- 'billiardlaw23.ScriptOutcomes', WHERE WHAT IT READS IS OF BULK AT MOST 1048576: true; the input reads as it did. -/
def scriptOutcomesUptoRow : OpenClaim := { program := "ytaoaknafiegfoaagreatdoor", sum := "4299d7a86d198a7f8cbfd24840d54ebd6a28960cbb783cf941d957741898b71e", func := "billiard/billiardlaw23.ScriptOutcomes", spec := "scriptOutcomes", inPlace := ["math/bits.Add64"], unfollowed := true, recurses := true, named := ["billiard/cell.factors", "billiard/box.none", "math/bits.divideError", "math/bits.overflowError"], plainKeys := false, apart := false, laid := [("billiard/box.none", laid_billiard_box_none), ("billiard/cell.factors", laid_billiard_cell_factors)], narrowed := true }
def ScriptOutcomesUptoSaid : Prop := scriptOutcomesUptoRow.holds Tryz.pinned (OpenSpec.upto scriptOutcomesSpec)

/-- 'billiardlaw23.ScriptSplits', WHERE WHAT IT READS IS OF BULK AT MOST 1048576: true; the input reads as it did. -/
def scriptSplitsUptoRow : OpenClaim := { program := "ytaoaknafiegfoaagreatdoor", sum := "4299d7a86d198a7f8cbfd24840d54ebd6a28960cbb783cf941d957741898b71e", func := "billiard/billiardlaw23.ScriptSplits", spec := "scriptSplits", inPlace := ["math/bits.Add64"], unfollowed := true, recurses := true, named := ["billiard/cell.factors", "billiard/box.none", "math/bits.divideError", "math/bits.overflowError"], plainKeys := false, apart := false, laid := [("billiard/box.none", laid_billiard_box_none), ("billiard/cell.factors", laid_billiard_cell_factors)], narrowed := true }
def ScriptSplitsUptoSaid : Prop := scriptSplitsUptoRow.holds Tryz.pinned (OpenSpec.upto scriptSplitsSpec)

/-- 'billiardlaw23.ScriptErrors', WHERE WHAT IT READS IS OF BULK AT MOST 1048576: true; the input reads as it did. -/
def scriptErrorsUptoRow : OpenClaim := { program := "ytaoaknafiegfoaagreatdoor", sum := "4299d7a86d198a7f8cbfd24840d54ebd6a28960cbb783cf941d957741898b71e", func := "billiard/billiardlaw23.ScriptErrors", spec := "scriptErrors", inPlace := ["math/bits.Add64"], unfollowed := true, recurses := true, named := ["billiard/cell.factors", "billiard/box.none", "math/bits.divideError", "math/bits.overflowError"], plainKeys := false, apart := false, laid := [("billiard/box.none", laid_billiard_box_none), ("billiard/cell.factors", laid_billiard_cell_factors)], narrowed := true }
def ScriptErrorsUptoSaid : Prop := scriptErrorsUptoRow.holds Tryz.pinned (OpenSpec.upto scriptErrorsSpec)

/-- 'billiardlaw23.ScriptUnknown', WHERE WHAT IT READS IS OF BULK AT MOST 1048576: true; the input reads as it did. -/
def scriptUnknownUptoRow : OpenClaim := { program := "ytaoaknafiegfoaagreatdoor", sum := "4299d7a86d198a7f8cbfd24840d54ebd6a28960cbb783cf941d957741898b71e", func := "billiard/billiardlaw23.ScriptUnknown", spec := "scriptUnknown", inPlace := ["math/bits.Add64"], unfollowed := true, recurses := true, named := ["billiard/cell.factors", "billiard/box.none", "math/bits.divideError", "math/bits.overflowError"], plainKeys := false, apart := false, laid := [("billiard/box.none", laid_billiard_box_none), ("billiard/cell.factors", laid_billiard_cell_factors)], narrowed := true }
def ScriptUnknownUptoSaid : Prop := scriptUnknownUptoRow.holds Tryz.pinned (OpenSpec.upto scriptUnknownSpec)

/-- 'billiardlaw28.ReplayMatchesReference', WHERE WHAT IT READS IS OF BULK AT MOST 1048576: true; the input reads as it did. -/
def replayMatchesReferenceUptoRow : OpenClaim := { program := "ytaoaknafiegfoaagreatdoor", sum := "4299d7a86d198a7f8cbfd24840d54ebd6a28960cbb783cf941d957741898b71e", func := "billiard/billiardlaw28.ReplayMatchesReference", spec := "replayMatchesReference", inPlace := ["math/bits.Add64"], unfollowed := true, recurses := true, named := ["billiard/cell.factors", "billiard/box.none", "math/bits.divideError", "math/bits.overflowError"], plainKeys := false, apart := false, laid := [("billiard/box.none", laid_billiard_box_none), ("billiard/cell.factors", laid_billiard_cell_factors)], narrowed := true }
def ReplayMatchesReferenceUptoSaid : Prop := replayMatchesReferenceUptoRow.holds Tryz.pinned (OpenSpec.upto replayMatchesReferenceSpec)

/-- 'billiardlaw28.ReplayVerifies', WHERE WHAT IT READS IS OF BULK AT MOST 1048576: true; the input reads as it did. -/
def replayVerifiesUptoRow : OpenClaim := { program := "ytaoaknafiegfoaagreatdoor", sum := "4299d7a86d198a7f8cbfd24840d54ebd6a28960cbb783cf941d957741898b71e", func := "billiard/billiardlaw28.ReplayVerifies", spec := "replayVerifies", inPlace := ["math/bits.Add64"], unfollowed := true, recurses := true, named := ["billiard/cell.factors", "billiard/box.none", "math/bits.divideError", "math/bits.overflowError"], plainKeys := false, apart := false, laid := [("billiard/box.none", laid_billiard_box_none), ("billiard/cell.factors", laid_billiard_cell_factors)], narrowed := true }
def ReplayVerifiesUptoSaid : Prop := replayVerifiesUptoRow.holds Tryz.pinned (OpenSpec.upto replayVerifiesSpec)

/-- 'billiardlaw28.ReplayChecks', WHERE WHAT IT READS IS OF BULK AT MOST 1048576: true; the input reads as it did. -/
def replayChecksUptoRow : OpenClaim := { program := "ytaoaknafiegfoaagreatdoor", sum := "4299d7a86d198a7f8cbfd24840d54ebd6a28960cbb783cf941d957741898b71e", func := "billiard/billiardlaw28.ReplayChecks", spec := "replayChecks", inPlace := ["math/bits.Add64"], unfollowed := true, recurses := true, named := ["billiard/cell.factors", "billiard/box.none", "math/bits.divideError", "math/bits.overflowError"], plainKeys := false, apart := false, laid := [("billiard/box.none", laid_billiard_box_none), ("billiard/cell.factors", laid_billiard_cell_factors)], narrowed := true }
def ReplayChecksUptoSaid : Prop := replayChecksUptoRow.holds Tryz.pinned (OpenSpec.upto replayChecksSpec)

/-- 'billiardlaw28.ReplayAppends', WHERE WHAT IT READS IS OF BULK AT MOST 1048576: true; the input reads as it did. -/
def replayAppendsUptoRow : OpenClaim := { program := "ytaoaknafiegfoaagreatdoor", sum := "4299d7a86d198a7f8cbfd24840d54ebd6a28960cbb783cf941d957741898b71e", func := "billiard/billiardlaw28.ReplayAppends", spec := "replayAppends", inPlace := ["math/bits.Add64"], unfollowed := true, recurses := true, named := ["billiard/cell.factors", "billiard/box.none", "math/bits.divideError", "math/bits.overflowError"], plainKeys := false, apart := false, laid := [("billiard/box.none", laid_billiard_box_none), ("billiard/cell.factors", laid_billiard_cell_factors)], narrowed := true }
def ReplayAppendsUptoSaid : Prop := replayAppendsUptoRow.holds Tryz.pinned (OpenSpec.upto replayAppendsSpec)

/-- 'billiardlaw28.ReplayKeeps', WHERE WHAT IT READS IS OF BULK AT MOST 1048576: true; the input reads as it did. -/
def replayKeepsUptoRow : OpenClaim := { program := "ytaoaknafiegfoaagreatdoor", sum := "4299d7a86d198a7f8cbfd24840d54ebd6a28960cbb783cf941d957741898b71e", func := "billiard/billiardlaw28.ReplayKeeps", spec := "replayKeeps", inPlace := ["math/bits.Add64"], unfollowed := true, recurses := true, named := ["billiard/cell.factors", "billiard/box.none", "math/bits.divideError", "math/bits.overflowError"], plainKeys := false, apart := false, laid := [("billiard/box.none", laid_billiard_box_none), ("billiard/cell.factors", laid_billiard_cell_factors)], narrowed := true }
def ReplayKeepsUptoSaid : Prop := replayKeepsUptoRow.holds Tryz.pinned (OpenSpec.upto replayKeepsSpec)

/-- 'billiardtop.WholeReplays', WHERE WHAT IT READS IS OF BULK AT MOST 1048576: true; the input reads as it did. -/
def wholeReplaysUptoRow : OpenClaim := { program := "ytaoaknafiegfoaagreatdoor", sum := "4299d7a86d198a7f8cbfd24840d54ebd6a28960cbb783cf941d957741898b71e", func := "billiard/billiardtop.WholeReplays", spec := "wholeReplays", inPlace := ["math/bits.Add64"], unfollowed := true, recurses := true, named := ["billiard/cell.factors", "billiard/box.none", "math/bits.divideError", "math/bits.overflowError"], plainKeys := false, apart := false, laid := [("billiard/box.none", laid_billiard_box_none), ("billiard/cell.factors", laid_billiard_cell_factors)], narrowed := true }
def WholeReplaysUptoSaid : Prop := wholeReplaysUptoRow.holds Tryz.pinned (OpenSpec.upto wholeReplaysSpec)

end Rows
end Go.Proofs.YtaoaknafiegfoaaGreatDoor
