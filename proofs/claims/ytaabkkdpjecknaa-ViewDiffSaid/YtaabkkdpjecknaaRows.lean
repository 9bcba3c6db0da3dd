/-
  No cell of these rows narrows 'for every input' (looked for: loops, veiled, ifaces, maps, wideKeys, modest, calm, conditions, laid).
  DERIVED. THE GIVEN ROWS OF THIS SEAT. 10 by the template 'for every input the law returns true; each argument reads behind the call as it read before'; 0 by the template 'total and deterministic' (their statements: YtaabkkdpjecknaaTotals.lean).
  GIVEN WITH THE SEED: the statements are not yours to turn. If you find one false, say at which input.
  Laid BY PROGRAM, IN A SANDBOX (cutbox-rows.mjs): the forced cells as the released guide's own fill.sh prints them over the translation 15a12fc9e76eaf45… (all of the seat's roots in one cut). By AI agents, Wed Nov 11 2026. No macro, syntax, notation, axiom, sorry.
-/
import Derived.Test.YtaabkkdpjecknaaChecked
import GoSem.Claim
import GoSem.ClaimJoined
import GoSem.ClaimMapViews
import Derived.JoinedTies
import Derived.KernelRfl
namespace Go.Proofs.Ytaabkkdpjecknaa
/- THE CELL 'sum', in the pinned program and in every row, IS THE sha256 OF THE DUMP (.gsa) THAT YtaabkkdpjecknaaProg.lean LOADS. Nothing in Lean hashes anything: it is a label: what it is worth is what the hold of that sum in a sandbox is worth. -/
noncomputable def Try.pinned : Pinned := { name := "ytaabkkdpjecknaa", sum := "15a12fc9e76eaf45bfa4de57f12a1599b40ab12dfca8908ab07bd2d0b4ef7ea8", checked := Try.checked }
namespace Rows
def none {H : Type} : Left H := { results := [], args := [] }

/-- 'billiardlaw06.StoreOrder': WHATEVER THE INPUT: true; the input reads as it did. -/
def storeOrderSpec : ChangeSpec := { name := "storeOrder", fn := fun _ => fun
  | [d1, d2] => { results := [.lit (.bool true)], args := [d1, d2] }
  | _ => none }
def storeOrderRow : OpenClaim := { program := "ytaabkkdpjecknaa", sum := "15a12fc9e76eaf45bfa4de57f12a1599b40ab12dfca8908ab07bd2d0b4ef7ea8", func := "billiard/billiardlaw06.StoreOrder", spec := "storeOrder", unfollowed := true, recurses := true, apart := false }
def StoreOrderSaid : Prop := storeOrderRow.holds Try.pinned (OpenSpec.ofChange storeOrderSpec)

/-- ITS FALSE NEIGHBOUR: 'it returns false'. Refute it at one input. -/
def storeOrderWrong : ChangeSpec := { name := "storeOrder", fn := fun _ => fun
  | [d1, d2] => { results := [.lit (.bool false)], args := [d1, d2] }
  | _ => none }
def StoreOrderWrongFalsely : Prop := storeOrderRow.holds Try.pinned (OpenSpec.ofChange storeOrderWrong)

/-- 'billiardlaw06.StoreFull': WHATEVER THE INPUT: true; the input reads as it did. -/
def storeFullSpec : ChangeSpec := { name := "storeFull", fn := fun _ => fun
  | [d1, d2] => { results := [.lit (.bool true)], args := [d1, d2] }
  | _ => none }
def storeFullRow : OpenClaim := { program := "ytaabkkdpjecknaa", sum := "15a12fc9e76eaf45bfa4de57f12a1599b40ab12dfca8908ab07bd2d0b4ef7ea8", func := "billiard/billiardlaw06.StoreFull", spec := "storeFull", unfollowed := true, recurses := true, apart := false }
def StoreFullSaid : Prop := storeFullRow.holds Try.pinned (OpenSpec.ofChange storeFullSpec)

/-- ITS FALSE NEIGHBOUR: 'it returns false'. Refute it at one input. -/
def storeFullWrong : ChangeSpec := { name := "storeFull", fn := fun _ => fun
  | [d1, d2] => { results := [.lit (.bool false)], args := [d1, d2] }
  | _ => none }
def StoreFullWrongFalsely : Prop := storeFullRow.holds Try.pinned (OpenSpec.ofChange storeFullWrong)

/-- 'billiardlaw06.StoreRemoves': WHATEVER THE INPUT: true; the input reads as it did. -/
def storeRemovesSpec : ChangeSpec := { name := "storeRemoves", fn := fun _ => fun
  | [d1, d2] => { results := [.lit (.bool true)], args := [d1, d2] }
  | _ => none }
def storeRemovesRow : OpenClaim := { program := "ytaabkkdpjecknaa", sum := "15a12fc9e76eaf45bfa4de57f12a1599b40ab12dfca8908ab07bd2d0b4ef7ea8", func := "billiard/billiardlaw06.StoreRemoves", spec := "storeRemoves", unfollowed := true, recurses := true, apart := false }
def StoreRemovesSaid : Prop := storeRemovesRow.holds Try.pinned (OpenSpec.ofChange storeRemovesSpec)

/-- ITS FALSE NEIGHBOUR: 'it returns false'. Refute it at one input. -/
def storeRemovesWrong : ChangeSpec := { name := "storeRemoves", fn := fun _ => fun
  | [d1, d2] => { results := [.lit (.bool false)], args := [d1, d2] }
  | _ => none }
def StoreRemovesWrongFalsely : Prop := storeRemovesRow.holds Try.pinned (OpenSpec.ofChange storeRemovesWrong)

/-- 'billiardlaw06.StoreClones': WHATEVER THE INPUT: true; the input reads as it did. -/
def storeClonesSpec : ChangeSpec := { name := "storeClones", fn := fun _ => fun
  | [d1, d2] => { results := [.lit (.bool true)], args := [d1, d2] }
  | _ => none }
def storeClonesRow : OpenClaim := { program := "ytaabkkdpjecknaa", sum := "15a12fc9e76eaf45bfa4de57f12a1599b40ab12dfca8908ab07bd2d0b4ef7ea8", func := "billiard/billiardlaw06.StoreClones", spec := "storeClones", inPlace := ["maps.clone"], unfollowed := true, recurses := true, apart := false }
def StoreClonesSaid : Prop := storeClonesRow.holds Try.pinned (OpenSpec.ofChange storeClonesSpec)

/-- ITS FALSE NEIGHBOUR: 'it returns false'. Refute it at one input. -/
def storeClonesWrong : ChangeSpec := { name := "storeClones", fn := fun _ => fun
  | [d1, d2] => { results := [.lit (.bool false)], args := [d1, d2] }
  | _ => none }
def StoreClonesWrongFalsely : Prop := storeClonesRow.holds Try.pinned (OpenSpec.ofChange storeClonesWrong)

/-- 'billiardlaw06.StoreMatchesReference': WHATEVER THE INPUT: true; the input reads as it did. -/
def storeMatchesReferenceSpec : ChangeSpec := { name := "storeMatchesReference", fn := fun _ => fun
  | [d] => { results := [.lit (.bool true)], args := [d] }
  | _ => none }
def storeMatchesReferenceRow : OpenClaim := { program := "ytaabkkdpjecknaa", sum := "15a12fc9e76eaf45bfa4de57f12a1599b40ab12dfca8908ab07bd2d0b4ef7ea8", func := "billiard/billiardlaw06.StoreMatchesReference", spec := "storeMatchesReference", unfollowed := true, recurses := true, apart := false }
def StoreMatchesReferenceSaid : Prop := storeMatchesReferenceRow.holds Try.pinned (OpenSpec.ofChange storeMatchesReferenceSpec)

/-- ITS FALSE NEIGHBOUR: 'it returns false'. Refute it at one input. -/
def storeMatchesReferenceWrong : ChangeSpec := { name := "storeMatchesReference", fn := fun _ => fun
  | [d] => { results := [.lit (.bool false)], args := [d] }
  | _ => none }
def StoreMatchesReferenceWrongFalsely : Prop := storeMatchesReferenceRow.holds Try.pinned (OpenSpec.ofChange storeMatchesReferenceWrong)

/-- 'billiardlaw07.ViewMatchesReference': WHATEVER THE INPUT: true; the input reads as it did. -/
def viewMatchesReferenceSpec : ChangeSpec := { name := "viewMatchesReference", fn := fun _ => fun
  | [d1, d2, d3] => { results := [.lit (.bool true)], args := [d1, d2, d3] }
  | _ => none }
def viewMatchesReferenceRow : OpenClaim := { program := "ytaabkkdpjecknaa", sum := "15a12fc9e76eaf45bfa4de57f12a1599b40ab12dfca8908ab07bd2d0b4ef7ea8", func := "billiard/billiardlaw07.ViewMatchesReference", spec := "viewMatchesReference", unfollowed := true, recurses := true, apart := false }
def ViewMatchesReferenceSaid : Prop := viewMatchesReferenceRow.holds Try.pinned (OpenSpec.ofChange viewMatchesReferenceSpec)

/-- ITS FALSE NEIGHBOUR: 'it returns false'. Refute it at one input. -/
def viewMatchesReferenceWrong : ChangeSpec := { name := "viewMatchesReference", fn := fun _ => fun
  | [d1, d2, d3] => { results := [.lit (.bool false)], args := [d1, d2, d3] }
  | _ => none }
def ViewMatchesReferenceWrongFalsely : Prop := viewMatchesReferenceRow.holds Try.pinned (OpenSpec.ofChange viewMatchesReferenceWrong)

/-- 'billiardlaw07.ViewSorts': WHATEVER THE INPUT: true; the input reads as it did. -/
def viewSortsSpec : ChangeSpec := { name := "viewSorts", fn := fun _ => fun
  | [d] => { results := [.lit (.bool true)], args := [d] }
  | _ => none }
def viewSortsRow : OpenClaim := { program := "ytaabkkdpjecknaa", sum := "15a12fc9e76eaf45bfa4de57f12a1599b40ab12dfca8908ab07bd2d0b4ef7ea8", func := "billiard/billiardlaw07.ViewSorts", spec := "viewSorts", unfollowed := true, recurses := true, apart := false }
def ViewSortsSaid : Prop := viewSortsRow.holds Try.pinned (OpenSpec.ofChange viewSortsSpec)

/-- ITS FALSE NEIGHBOUR: 'it returns false'. Refute it at one input. -/
def viewSortsWrong : ChangeSpec := { name := "viewSorts", fn := fun _ => fun
  | [d] => { results := [.lit (.bool false)], args := [d] }
  | _ => none }
def ViewSortsWrongFalsely : Prop := viewSortsRow.holds Try.pinned (OpenSpec.ofChange viewSortsWrong)

/-- 'billiardlaw07.ViewParts': WHATEVER THE INPUT: true; the input reads as it did. -/
def viewPartsSpec : ChangeSpec := { name := "viewParts", fn := fun _ => fun
  | [d1, d2, d3] => { results := [.lit (.bool true)], args := [d1, d2, d3] }
  | _ => none }
def viewPartsRow : OpenClaim := { program := "ytaabkkdpjecknaa", sum := "15a12fc9e76eaf45bfa4de57f12a1599b40ab12dfca8908ab07bd2d0b4ef7ea8", func := "billiard/billiardlaw07.ViewParts", spec := "viewParts", unfollowed := true, recurses := true, apart := false }
def ViewPartsSaid : Prop := viewPartsRow.holds Try.pinned (OpenSpec.ofChange viewPartsSpec)

/-- ITS FALSE NEIGHBOUR: 'it returns false'. Refute it at one input. -/
def viewPartsWrong : ChangeSpec := { name := "viewParts", fn := fun _ => fun
  | [d1, d2, d3] => { results := [.lit (.bool false)], args := [d1, d2, d3] }
  | _ => none }
def ViewPartsWrongFalsely : Prop := viewPartsRow.holds Try.pinned (OpenSpec.ofChange viewPartsWrong)

/-- 'billiardlaw07.ViewDiff': WHATEVER THE INPUT: true; the input reads as it did. -/
def viewDiffSpec : ChangeSpec := { name := "viewDiff", fn := fun _ => fun
  | [d1, d2] => { results := [.lit (.bool true)], args := [d1, d2] }
  | _ => none }
def viewDiffRow : OpenClaim := { program := "ytaabkkdpjecknaa", sum := "15a12fc9e76eaf45bfa4de57f12a1599b40ab12dfca8908ab07bd2d0b4ef7ea8", func := "billiard/billiardlaw07.ViewDiff", spec := "viewDiff", unfollowed := true, recurses := true, apart := false }
def ViewDiffSaid : Prop := viewDiffRow.holds Try.pinned (OpenSpec.ofChange viewDiffSpec)

/-- ITS FALSE NEIGHBOUR: 'it returns false'. Refute it at one input. -/
def viewDiffWrong : ChangeSpec := { name := "viewDiff", fn := fun _ => fun
  | [d1, d2] => { results := [.lit (.bool false)], args := [d1, d2] }
  | _ => none }
def ViewDiffWrongFalsely : Prop := viewDiffRow.holds Try.pinned (OpenSpec.ofChange viewDiffWrong)

/-- 'billiardlaw07.ViewKeeps': WHATEVER THE INPUT: true; the input reads as it did. -/
def viewKeepsSpec : ChangeSpec := { name := "viewKeeps", fn := fun _ => fun
  | [d1, d2] => { results := [.lit (.bool true)], args := [d1, d2] }
  | _ => none }
def viewKeepsRow : OpenClaim := { program := "ytaabkkdpjecknaa", sum := "15a12fc9e76eaf45bfa4de57f12a1599b40ab12dfca8908ab07bd2d0b4ef7ea8", func := "billiard/billiardlaw07.ViewKeeps", spec := "viewKeeps", unfollowed := true, recurses := true, apart := false }
def ViewKeepsSaid : Prop := viewKeepsRow.holds Try.pinned (OpenSpec.ofChange viewKeepsSpec)

/-- ITS FALSE NEIGHBOUR: 'it returns false'. Refute it at one input. -/
def viewKeepsWrong : ChangeSpec := { name := "viewKeeps", fn := fun _ => fun
  | [d1, d2] => { results := [.lit (.bool false)], args := [d1, d2] }
  | _ => none }
def ViewKeepsWrongFalsely : Prop := viewKeepsRow.holds Try.pinned (OpenSpec.ofChange viewKeepsWrong)

/- THE SECOND FORM. 'bulk': how many values and letters a reading holds, each counted each time it is reached (what is shared counts as often as it is met; a slice's spare places count too). A statement '..UptoSaid' is the law's where the arguments, and the package variables that the reading takes, are together of bulk at most 1048576: NARROWER than '..Said'. Prove '..Said' where nothing that the law and all that it calls make is longer than what came in: it says more and counts as full. Else prove '..UptoSaid'. A law counts once. -/
mutual
def uptoBulk {H : Type} : DataW H → Nat
  | .lit (.string bytes) => bytes.length + 1
  | .lit _ => 1
  | .nil => 1
  | .ptr d => uptoBulk d + 1
  | .slice elems spare => uptoBulkAll elems + uptoBulkAll spare + 1
  | .agg parts => uptoBulkAll parts + 1
  | .iface _ d => uptoBulk d + 1
  | .map entries => uptoBulkEntries entries + 1
  | .held _ => 1
def uptoBulkAll {H : Type} : List (DataW H) → Nat
  | [] => 0
  | d :: r => uptoBulk d + uptoBulkAll r
def uptoBulkEntries {H : Type} : List (Lit × DataW H) → Nat
  | [] => 0
  | x :: r => uptoBulkEntry x + uptoBulkEntries r
def uptoBulkEntry {H : Type} : Lit × DataW H → Nat
  | (.string bytes, d) => bytes.length + uptoBulk d + 1
  | (_, d) => uptoBulk d + 1
 end
def uptoSmall : (H : Type) → List (DataW H) → Bool := fun _ ds => decide (uptoBulkAll ds ≤ 1048576)
def OpenSpec.upto (s : _root_.Go.ChangeSpec) : _root_.Go.OpenSpec := { _root_.Go.OpenSpec.ofChange s with cond := some uptoSmall }

/-- 'billiardlaw06.StoreOrder', WHERE WHAT IT READS IS OF BULK AT MOST 1048576: true; the input reads as it did. -/
def storeOrderUptoRow : OpenClaim := { program := "ytaabkkdpjecknaa", sum := "15a12fc9e76eaf45bfa4de57f12a1599b40ab12dfca8908ab07bd2d0b4ef7ea8", func := "billiard/billiardlaw06.StoreOrder", spec := "storeOrder", unfollowed := true, recurses := true, apart := false, narrowed := true }
def StoreOrderUptoSaid : Prop := storeOrderUptoRow.holds Try.pinned (OpenSpec.upto storeOrderSpec)

/-- 'billiardlaw06.StoreFull', WHERE WHAT IT READS IS OF BULK AT MOST 1048576: true; the input reads as it did. -/
def storeFullUptoRow : OpenClaim := { program := "ytaabkkdpjecknaa", sum := "15a12fc9e76eaf45bfa4de57f12a1599b40ab12dfca8908ab07bd2d0b4ef7ea8", func := "billiard/billiardlaw06.StoreFull", spec := "storeFull", unfollowed := true, recurses := true, apart := false, narrowed := true }
def StoreFullUptoSaid : Prop := storeFullUptoRow.holds Try.pinned (OpenSpec.upto storeFullSpec)

/-- 'billiardlaw06.StoreRemoves', WHERE WHAT IT READS IS OF BULK AT MOST 1048576: true; the input reads as it did. -/
def storeRemovesUptoRow : OpenClaim := { program := "ytaabkkdpjecknaa", sum := "15a12fc9e76eaf45bfa4de57f12a1599b40ab12dfca8908ab07bd2d0b4ef7ea8", func := "billiard/billiardlaw06.StoreRemoves", spec := "storeRemoves", unfollowed := true, recurses := true, apart := false, narrowed := true }
def StoreRemovesUptoSaid : Prop := storeRemovesUptoRow.holds Try.pinned (OpenSpec.upto storeRemovesSpec)

/-- 'billiardlaw06.StoreClones', WHERE WHAT IT READS IS OF BULK AT MOST 1048576: true; the input reads as it did. -/
def storeClonesUptoRow : OpenClaim := { program := "ytaabkkdpjecknaa", sum := "15a12fc9e76eaf45bfa4de57f12a1599b40ab12dfca8908ab07bd2d0b4ef7ea8", func := "billiard/billiardlaw06.StoreClones", spec := "storeClones", inPlace := ["maps.clone"], unfollowed := true, recurses := true, apart := false, narrowed := true }
def StoreClonesUptoSaid : Prop := storeClonesUptoRow.holds Try.pinned (OpenSpec.upto storeClonesSpec)

/-- 'billiardlaw06.StoreMatchesReference', WHERE WHAT IT READS IS OF BULK AT MOST 1048576: true; the input reads as it did. -/
def storeMatchesReferenceUptoRow : OpenClaim := { program := "ytaabkkdpjecknaa", sum := "15a12fc9e76eaf45bfa4de57f12a1599b40ab12dfca8908ab07bd2d0b4ef7ea8", func := "billiard/billiardlaw06.StoreMatchesReference", spec := "storeMatchesReference", unfollowed := true, recurses := true, apart := false, narrowed := true }
def StoreMatchesReferenceUptoSaid : Prop := storeMatchesReferenceUptoRow.holds Try.pinned (OpenSpec.upto storeMatchesReferenceSpec)

/-- 'billiardlaw07.ViewMatchesReference', WHERE WHAT IT READS IS OF BULK AT MOST 1048576: true; the input reads as it did. -/
def viewMatchesReferenceUptoRow : OpenClaim := { program := "ytaabkkdpjecknaa", sum := "15a12fc9e76eaf45bfa4de57f12a1599b40ab12dfca8908ab07bd2d0b4ef7ea8", func := "billiard/billiardlaw07.ViewMatchesReference", spec := "viewMatchesReference", unfollowed := true, recurses := true, apart := false, narrowed := true }
def ViewMatchesReferenceUptoSaid : Prop := viewMatchesReferenceUptoRow.holds Try.pinned (OpenSpec.upto viewMatchesReferenceSpec)

/-- 'billiardlaw07.ViewSorts', WHERE WHAT IT READS IS OF BULK AT MOST 1048576: true; the input reads as it did. -/
def viewSortsUptoRow : OpenClaim := { program := "ytaabkkdpjecknaa", sum := "15a12fc9e76eaf45bfa4de57f12a1599b40ab12dfca8908ab07bd2d0b4ef7ea8", func := "billiard/billiardlaw07.ViewSorts", spec := "viewSorts", unfollowed := true, recurses := true, apart := false, narrowed := true }
def ViewSortsUptoSaid : Prop := viewSortsUptoRow.holds Try.pinned (OpenSpec.upto viewSortsSpec)

/-- 'billiardlaw07.ViewParts', WHERE WHAT IT READS IS OF BULK AT MOST 1048576: true; the input reads as it did. -/
def viewPartsUptoRow : OpenClaim := { program := "ytaabkkdpjecknaa", sum := "15a12fc9e76eaf45bfa4de57f12a1599b40ab12dfca8908ab07bd2d0b4ef7ea8", func := "billiard/billiardlaw07.ViewParts", spec := "viewParts", unfollowed := true, recurses := true, apart := false, narrowed := true }
def ViewPartsUptoSaid : Prop := viewPartsUptoRow.holds Try.pinned (OpenSpec.upto viewPartsSpec)

/-- 'billiardlaw07.ViewDiff', WHERE WHAT IT READS IS OF BULK AT MOST 1048576: true; the input reads as it did. -/
def viewDiffUptoRow : OpenClaim := { program := "ytaabkkdpjecknaa", sum := "15a12fc9e76eaf45bfa4de57f12a1599b40ab12dfca8908ab07bd2d0b4ef7ea8", func := "billiard/billiardlaw07.ViewDiff", spec := "viewDiff", unfollowed := true, recurses := true, apart := false, narrowed := true }
def ViewDiffUptoSaid : Prop := viewDiffUptoRow.holds Try.pinned (OpenSpec.upto viewDiffSpec)

/-- 'billiardlaw07.ViewKeeps', WHERE WHAT IT READS IS OF BULK AT MOST 1048576: true; the input reads as it did. -/
def viewKeepsUptoRow : OpenClaim := { program := "ytaabkkdpjecknaa", sum := "15a12fc9e76eaf45bfa4de57f12a1599b40ab12dfca8908ab07bd2d0b4ef7ea8", func := "billiard/billiardlaw07.ViewKeeps", spec := "viewKeeps", unfollowed := true, recurses := true, apart := false, narrowed := true }
def ViewKeepsUptoSaid : Prop := viewKeepsUptoRow.holds Try.pinned (OpenSpec.upto viewKeepsSpec)

end Rows
end Go.Proofs.Ytaabkkdpjecknaa
