/-
  NARROWER THAN 'FOR EVERY INPUT', by the rows' own cells (each row's printed sentence says how): ContactsMatchesReference: laid · ContactsAll: laid.
  DERIVED. THE GIVEN ROWS OF THIS SEAT. 2 by the template 'for every input the law returns true; each argument reads behind the call as it read before'; 0 by the template 'total and deterministic' (their statements: YtkegiinlfmlhlaaGreatDoorTotals.lean).
  GIVEN WITH THE SEED: the statements are not yours to turn. If you find one false, say at which input.
  Laid BY PROGRAM, IN A SANDBOX (cutbox-rows.mjs): the forced cells as the released guide's own fill.sh prints them over the translation c2e3ac3a1ae9bc77… (all of the seat's roots in one cut). By AI agents, Wed Nov 11 2026. No macro, syntax, notation, axiom, sorry.
-/
import Derived.Test.YtkegiinlfmlhlaaGreatDoorChecked
import GoSem.Claim
import GoSem.ClaimJoined
import GoSem.ClaimMapViews
import Derived.JoinedTies
import Derived.KernelRfl
namespace Go.Proofs.YtkegiinlfmlhlaaGreatDoor
/- THE CELL 'sum', in the pinned program and in every row, IS THE sha256 OF THE DUMP (.gsa) THAT YtkegiinlfmlhlaaGreatDoorProg.lean LOADS. Nothing in Lean hashes anything: it is a label: what it is worth is what the hold of that sum in a sandbox is worth. -/
noncomputable def Tryz.pinned : Pinned := { name := "ytkegiinlfmlhlaagreatdoor", sum := "c2e3ac3a1ae9bc77d901e6f08760a5faeaab861610d6a66cbc440c7d2bd20979", checked := Tryz.checked }
namespace Rows
def none {H : Type} : Left H := { results := [], args := [] }

/- WHAT THE LISTED PACKAGE-LEVEL VARIABLES READ AS WHEN THE CALL BEGINS. Each datum BY PROGRAM (the guide's laid-datum.mjs) off the statement by which the dump's own 'gosem.cut.vars' lays the variable. In a bare row this is a premise. The card (YtkegiinlfmlhlaaGreatDoorCards.lean) ties it to the program's text. -/
def laid_billiard_box_none {H : Type} : DataW H := .agg [.lit (.int .i32 1), .lit (.int .i32 0), .lit (.int .i32 0), .lit (.int .i32 0)]
def laid_billiard_cell_factors {H : Type} : DataW H := .agg [.lit (.int .u32 73856093), .lit (.int .u32 19349663)]

/-- 'billiardlaw15.ContactsMatchesReference': WHATEVER THE INPUT: true; the input reads as it did. -/
def contactsMatchesReferenceSpec : ChangeSpec := { name := "contactsMatchesReference", fn := fun _ => fun
  | [d1, d2, d3] => { results := [.lit (.bool true)], args := [d1, d2, d3] }
  | _ => none }
def contactsMatchesReferenceRow : OpenClaim := { program := "ytkegiinlfmlhlaagreatdoor", sum := "c2e3ac3a1ae9bc77d901e6f08760a5faeaab861610d6a66cbc440c7d2bd20979", func := "billiard/billiardlaw15.ContactsMatchesReference", spec := "contactsMatchesReference", unfollowed := true, recurses := true, named := ["billiard/cell.factors", "billiard/box.none", "math/bits.divideError", "math/bits.overflowError"], plainKeys := false, apart := false, laid := [("billiard/box.none", laid_billiard_box_none), ("billiard/cell.factors", laid_billiard_cell_factors)] }
def ContactsMatchesReferenceSaid : Prop := contactsMatchesReferenceRow.holds Tryz.pinned (OpenSpec.ofChange contactsMatchesReferenceSpec)

/-- ITS FALSE NEIGHBOUR: 'it returns false'. Refute it at one input. -/
def contactsMatchesReferenceWrong : ChangeSpec := { name := "contactsMatchesReference", fn := fun _ => fun
  | [d1, d2, d3] => { results := [.lit (.bool false)], args := [d1, d2, d3] }
  | _ => none }
def ContactsMatchesReferenceWrongFalsely : Prop := contactsMatchesReferenceRow.holds Tryz.pinned (OpenSpec.ofChange contactsMatchesReferenceWrong)

/-- 'billiardlaw15.ContactsAll': WHATEVER THE INPUT: true; the input reads as it did. -/
def contactsAllSpec : ChangeSpec := { name := "contactsAll", fn := fun _ => fun
  | [d] => { results := [.lit (.bool true)], args := [d] }
  | _ => none }
def contactsAllRow : OpenClaim := { program := "ytkegiinlfmlhlaagreatdoor", sum := "c2e3ac3a1ae9bc77d901e6f08760a5faeaab861610d6a66cbc440c7d2bd20979", func := "billiard/billiardlaw15.ContactsAll", spec := "contactsAll", unfollowed := true, recurses := true, named := ["billiard/cell.factors", "billiard/box.none", "math/bits.divideError", "math/bits.overflowError"], plainKeys := false, apart := false, laid := [("billiard/box.none", laid_billiard_box_none), ("billiard/cell.factors", laid_billiard_cell_factors)] }
def ContactsAllSaid : Prop := contactsAllRow.holds Tryz.pinned (OpenSpec.ofChange contactsAllSpec)

/-- ITS FALSE NEIGHBOUR: 'it returns false'. Refute it at one input. -/
def contactsAllWrong : ChangeSpec := { name := "contactsAll", fn := fun _ => fun
  | [d] => { results := [.lit (.bool false)], args := [d] }
  | _ => none }
def ContactsAllWrongFalsely : Prop := contactsAllRow.holds Tryz.pinned (OpenSpec.ofChange contactsAllWrong)

/- THE SECOND FORM. 'bulk': how many values and letters a reading holds, each counted each time it is reached (what is shared counts as often as it is met; a slice's spare places count too). A statement '..UptoSaid' is the law's where the arguments, and the package variables that the reading takes, are together of bulk at most 1048576: NARROWER than '..Said'. Prove '..Said' where nothing that the law and all that it calls make is longer than what came in: it says more and counts as full. Else prove '..UptoSaid'. A law counts once. -/
mutual
def uptoBulk {H : Type} : DataW H → Nat
  | .lit (.string bytes) => bytes.length + 1
  | .lit _ => 1
  | .nil => 1
  | .ptr d => uptoBulk d + 1
  | .slice elems spare => uptoBulkAll elems + uptoBulkAll spare + 1
  | .agg parts => uptoBulkAll parts + 1
  | .iface _ d => uptoBulk d + 1
  | .map entries => uptoBulkEntries entries + 1
  | .held _ => 1
def uptoBulkAll {H : Type} : List (DataW H) → Nat
  | [] => 0
  | d :: r => uptoBulk d + uptoBulkAll r
def uptoBulkEntries {H : Type} : List (Lit × DataW H) → Nat
  | [] => 0
  | x :: r => uptoBulkEntry x + uptoBulkEntries r
def uptoBulkEntry {H : Type} : Lit × DataW H → Nat
  | (.string bytes, d) => bytes.length + uptoBulk d + 1
  | (_, d) => uptoBulk d + 1
 end
def uptoSmall : (H : Type) → List (DataW H) → Bool := fun _ ds => decide (uptoBulkAll ds ≤ 1048576)
def OpenSpec.upto (s : _root_.Go.ChangeSpec) : _root_.Go.OpenSpec := { _root_.Go.OpenSpec.ofChange s with cond := some uptoSmall }

/-- 'billiardlaw15.ContactsMatchesReference', WHERE WHAT IT READS IS OF BULK AT MOST 1048576: true; the input reads as it did. -/
def contactsMatchesReferenceUptoRow : OpenClaim := { program := "ytkegiinlfmlhlaagreatdoor", sum := "c2e3ac3a1ae9bc77d901e6f08760a5faeaab861610d6a66cbc440c7d2bd20979", func := "billiard/billiardlaw15.ContactsMatchesReference", spec := "contactsMatchesReference", unfollowed := true, recurses := true, named := ["billiard/cell.factors", "billiard/box.none", "math/bits.divideError", "math/bits.overflowError"], plainKeys := false, apart := false, laid := [("billiard/box.none", laid_billiard_box_none), ("billiard/cell.factors", laid_billiard_cell_factors)], narrowed := true }
def ContactsMatchesReferenceUptoSaid : Prop := contactsMatchesReferenceUptoRow.holds Tryz.pinned (OpenSpec.upto contactsMatchesReferenceSpec)

/-- 'billiardlaw15.ContactsAll', WHERE WHAT IT READS IS OF BULK AT MOST 1048576: true; the input reads as it did. -/
def contactsAllUptoRow : OpenClaim := { program := "ytkegiinlfmlhlaagreatdoor", sum := "c2e3ac3a1ae9bc77d901e6f08760a5faeaab861610d6a66cbc440c7d2bd20979", func := "billiard/billiardlaw15.ContactsAll", spec := "contactsAll", unfollowed := true, recurses := true, named := ["billiard/cell.factors", "billiard/box.none", "math/bits.divideError", "math/bits.overflowError"], plainKeys := false, apart := false, laid := [("billiard/box.none", laid_billiard_box_none), ("billiard/cell.factors", laid_billiard_cell_factors)], narrowed := true }
def ContactsAllUptoSaid : Prop := contactsAllUptoRow.holds Tryz.pinned (OpenSpec.upto contactsAllSpec)

end Rows
end Go.Proofs.YtkegiinlfmlhlaaGreatDoor
