/-
  NARROWER THAN 'FOR EVERY INPUT', by the rows' own cells (each row's printed sentence says how): ReplayAppends: laid · ReplayKeeps: laid.
  DERIVED. THE GIVEN ROWS OF THIS SEAT. 2 by the template 'for every input the law returns true; each argument reads behind the call as it read before'; 0 by the template 'total and deterministic' (their statements: YtpcloigancpnbaaGreatDoorTotals.lean).
  GIVEN WITH THE SEED: the statements are not yours to turn. If you find one false, say at which input.
  Laid BY PROGRAM, IN A SANDBOX (cutbox-rows.mjs): the forced cells as the released guide's own fill.sh prints them over the translation 705df43d541d8f99… (all of the seat's roots in one cut). By AI agents, Wed Nov 11 2026. No macro, syntax, notation, axiom, sorry.
-/
import Derived.Test.YtpcloigancpnbaaGreatDoorChecked
import GoSem.Claim
import GoSem.ClaimJoined
import GoSem.ClaimMapViews
import Derived.JoinedTies
import Derived.KernelRfl
namespace Go.Proofs.YtpcloigancpnbaaGreatDoor
/- THE CELL 'sum', in the pinned program and in every row, IS THE sha256 OF THE DUMP (.gsa) THAT YtpcloigancpnbaaGreatDoorProg.lean LOADS. Nothing in Lean hashes anything: it is a label: what it is worth is what the hold of that sum in a sandbox is worth. -/
noncomputable def Tryz.pinned : Pinned := { name := "ytpcloigancpnbaagreatdoor", sum := "705df43d541d8f99ae014cf7314ef63dc21a8ea9c2dd0822a9c5161e640a0584", checked := Tryz.checked }
namespace Rows
def none {H : Type} : Left H := { results := [], args := [] }

/- WHAT THE LISTED PACKAGE-LEVEL VARIABLES READ AS WHEN THE CALL BEGINS. Each datum BY PROGRAM (the guide's laid-datum.mjs) off the statement by which the dump's own 'gosem.cut.vars' lays the variable. In a bare row this is a premise. The card (YtpcloigancpnbaaGreatDoorCards.lean) ties it to the program's text. -/
def laid_billiard_box_none {H : Type} : DataW H := .agg [.lit (.int .i32 1), .lit (.int .i32 0), .lit (.int .i32 0), .lit (.int .i32 0)]
def laid_billiard_cell_factors {H : Type} : DataW H := .agg [.lit (.int .u32 73856093), .lit (.int .u32 19349663)]

/-- 'billiardlaw28.ReplayAppends': WHATEVER THE INPUT: true; the input reads as it did. -/
def replayAppendsSpec : ChangeSpec := { name := "replayAppends", fn := fun _ => fun
  | [d1, d2] => { results := [.lit (.bool true)], args := [d1, d2] }
  | _ => none }
def replayAppendsRow : OpenClaim := { program := "ytpcloigancpnbaagreatdoor", sum := "705df43d541d8f99ae014cf7314ef63dc21a8ea9c2dd0822a9c5161e640a0584", func := "billiard/billiardlaw28.ReplayAppends", spec := "replayAppends", inPlace := ["math/bits.Add64"], unfollowed := true, recurses := true, named := ["billiard/cell.factors", "billiard/box.none", "math/bits.divideError", "math/bits.overflowError"], plainKeys := false, apart := false, laid := [("billiard/box.none", laid_billiard_box_none), ("billiard/cell.factors", laid_billiard_cell_factors)] }
def ReplayAppendsSaid : Prop := replayAppendsRow.holds Tryz.pinned (OpenSpec.ofChange replayAppendsSpec)

/-- ITS FALSE NEIGHBOUR: 'it returns false'. Refute it at one input. -/
def replayAppendsWrong : ChangeSpec := { name := "replayAppends", fn := fun _ => fun
  | [d1, d2] => { results := [.lit (.bool false)], args := [d1, d2] }
  | _ => none }
def ReplayAppendsWrongFalsely : Prop := replayAppendsRow.holds Tryz.pinned (OpenSpec.ofChange replayAppendsWrong)

/-- 'billiardlaw28.ReplayKeeps': WHATEVER THE INPUT: true; the input reads as it did. -/
def replayKeepsSpec : ChangeSpec := { name := "replayKeeps", fn := fun _ => fun
  | [d1, d2] => { results := [.lit (.bool true)], args := [d1, d2] }
  | _ => none }
def replayKeepsRow : OpenClaim := { program := "ytpcloigancpnbaagreatdoor", sum := "705df43d541d8f99ae014cf7314ef63dc21a8ea9c2dd0822a9c5161e640a0584", func := "billiard/billiardlaw28.ReplayKeeps", spec := "replayKeeps", inPlace := ["math/bits.Add64"], unfollowed := true, recurses := true, named := ["billiard/cell.factors", "billiard/box.none", "math/bits.divideError", "math/bits.overflowError"], plainKeys := false, apart := false, laid := [("billiard/box.none", laid_billiard_box_none), ("billiard/cell.factors", laid_billiard_cell_factors)] }
def ReplayKeepsSaid : Prop := replayKeepsRow.holds Tryz.pinned (OpenSpec.ofChange replayKeepsSpec)

/-- ITS FALSE NEIGHBOUR: 'it returns false'. Refute it at one input. -/
def replayKeepsWrong : ChangeSpec := { name := "replayKeeps", fn := fun _ => fun
  | [d1, d2] => { results := [.lit (.bool false)], args := [d1, d2] }
  | _ => none }
def ReplayKeepsWrongFalsely : Prop := replayKeepsRow.holds Tryz.pinned (OpenSpec.ofChange replayKeepsWrong)

/- THE SECOND FORM. 'bulk': how many values and letters a reading holds, each counted each time it is reached (what is shared counts as often as it is met; a slice's spare places count too). A statement '..UptoSaid' is the law's where the arguments, and the package variables that the reading takes, are together of bulk at most 1048576: NARROWER than '..Said'. Prove '..Said' where nothing that the law and all that it calls make is longer than what came in: it says more and counts as full. Else prove '..UptoSaid'. A law counts once. -/
mutual
def uptoBulk {H : Type} : DataW H → Nat
  | .lit (.string bytes) => bytes.length + 1
  | .lit _ => 1
  | .nil => 1
  | .ptr d => uptoBulk d + 1
  | .slice elems spare => uptoBulkAll elems + uptoBulkAll spare + 1
  | .agg parts => uptoBulkAll parts + 1
  | .iface _ d => uptoBulk d + 1
  | .map entries => uptoBulkEntries entries + 1
  | .held _ => 1
def uptoBulkAll {H : Type} : List (DataW H) → Nat
  | [] => 0
  | d :: r => uptoBulk d + uptoBulkAll r
def uptoBulkEntries {H : Type} : List (Lit × DataW H) → Nat
  | [] => 0
  | x :: r => uptoBulkEntry x + uptoBulkEntries r
def uptoBulkEntry {H : Type} : Lit × DataW H → Nat
  | (.string bytes, d) => bytes.length + uptoBulk d + 1
  | (_, d) => uptoBulk d + 1
 end
def uptoSmall : (H : Type) → List (DataW H) → Bool := fun _ ds => decide (uptoBulkAll ds ≤ 1048576)
def OpenSpec.upto (s : _root_.Go.ChangeSpec) : _root_.Go.OpenSpec := { _root_.Go.OpenSpec.ofChange s with cond := some uptoSmall }

/-- 'billiardlaw28.ReplayAppends', WHERE WHAT IT READS IS OF BULK AT MOST 1048576: true; the input reads as it did. -/
def replayAppendsUptoRow : OpenClaim := { program := "ytpcloigancpnbaagreatdoor", sum := "705df43d541d8f99ae014cf7314ef63dc21a8ea9c2dd0822a9c5161e640a0584", func := "billiard/billiardlaw28.ReplayAppends", spec := "replayAppends", inPlace := ["math/bits.Add64"], unfollowed := true, recurses := true, named := ["billiard/cell.factors", "billiard/box.none", "math/bits.divideError", "math/bits.overflowError"], plainKeys := false, apart := false, laid := [("billiard/box.none", laid_billiard_box_none), ("billiard/cell.factors", laid_billiard_cell_factors)], narrowed := true }
def ReplayAppendsUptoSaid : Prop := replayAppendsUptoRow.holds Tryz.pinned (OpenSpec.upto replayAppendsSpec)

/-- 'billiardlaw28.ReplayKeeps', WHERE WHAT IT READS IS OF BULK AT MOST 1048576: true; the input reads as it did. -/
def replayKeepsUptoRow : OpenClaim := { program := "ytpcloigancpnbaagreatdoor", sum := "705df43d541d8f99ae014cf7314ef63dc21a8ea9c2dd0822a9c5161e640a0584", func := "billiard/billiardlaw28.ReplayKeeps", spec := "replayKeeps", inPlace := ["math/bits.Add64"], unfollowed := true, recurses := true, named := ["billiard/cell.factors", "billiard/box.none", "math/bits.divideError", "math/bits.overflowError"], plainKeys := false, apart := false, laid := [("billiard/box.none", laid_billiard_box_none), ("billiard/cell.factors", laid_billiard_cell_factors)], narrowed := true }
def ReplayKeepsUptoSaid : Prop := replayKeepsUptoRow.holds Tryz.pinned (OpenSpec.upto replayKeepsSpec)

end Rows
end Go.Proofs.YtpcloigancpnbaaGreatDoor
