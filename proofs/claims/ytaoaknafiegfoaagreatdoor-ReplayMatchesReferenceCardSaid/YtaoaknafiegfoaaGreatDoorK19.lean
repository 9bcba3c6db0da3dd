/- Part of the proof of a law of this seat (1 texts). No conditions. -/
import Derived.Test.YtaoaknafiegfoaaGreatDoorProg
import Derived.Shelf.Lays7
set_option linter.unusedVariables false
set_option linter.unusedSimpArgs false
set_option linter.unnecessarySimpa false
set_option maxHeartbeats 100000000
namespace Go.Proofs.YtaoaknafiegfoaaGreatDoor
open Go.Proofs
open Go.Proofs.Tryz
def aJt:Go.Shelf.Ren:=⟨fun | 25=>286 | n=>n,fun | 22=>237 | n=>n,fun | n=>n⟩
theorem bAk:Lays7.n25 prog aJt where
 mixed:=by kernel_rfl
 f25:=func286.trans (congrArg some (by kernel_rfl))
 t22:=underlying237
 a22:=Tryz.isAgg237
 z22:=Tryz.sizeOf237
 v22:=Tryz.zeroValue237
 i22:=by kernel_rfl
end Go.Proofs.YtaoaknafiegfoaaGreatDoor
