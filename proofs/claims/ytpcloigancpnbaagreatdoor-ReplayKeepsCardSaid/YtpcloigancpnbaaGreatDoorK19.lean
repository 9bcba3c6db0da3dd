/- Part of the proof of a law of this seat (1 texts). No conditions. -/
import Derived.Test.YtpcloigancpnbaaGreatDoorProg
import Derived.Shelf.Lays7
set_option linter.unusedVariables false
set_option linter.unusedSimpArgs false
set_option linter.unnecessarySimpa false
set_option maxHeartbeats 100000000
namespace Go.Proofs.YtpcloigancpnbaaGreatDoor
open Go.Proofs
open Go.Proofs.Tryz
def aIh:Go.Shelf.Ren:=⟨fun | 25=>257 | n=>n,fun | 22=>193 | n=>n,fun | n=>n⟩
theorem aXt:Lays7.n25 prog aIh where
 mixed:=by kernel_rfl
 f25:=func257.trans (congrArg some (by kernel_rfl))
 t22:=underlying193
 a22:=Tryz.isAgg193
 z22:=Tryz.sizeOf193
 v22:=Tryz.zeroValue193
 i22:=by kernel_rfl
end Go.Proofs.YtpcloigancpnbaaGreatDoor
