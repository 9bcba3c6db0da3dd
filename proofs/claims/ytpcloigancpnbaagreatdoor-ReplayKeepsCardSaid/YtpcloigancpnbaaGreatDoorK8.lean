/- Part of the proof of a law of this seat (1 texts). No conditions. -/
import Derived.Test.YtpcloigancpnbaaGreatDoorProg
import Derived.Shelf.Lays
set_option linter.unusedVariables false
set_option linter.unusedSimpArgs false
set_option linter.unnecessarySimpa false
set_option maxHeartbeats 100000000
namespace Go.Proofs.YtpcloigancpnbaaGreatDoor
open Go.Proofs
open Go.Proofs.Tryz
def aIt:Go.Shelf.Ren:=⟨fun | 264=>196 | n=>n,fun | 53=>193 | 46=>136 | n=>n,fun | n=>n⟩
theorem aZs:Lays.n264 prog aIt where
 mixed:=by kernel_rfl
 f264:=func196.trans (congrArg some (by kernel_rfl))
 t46:=underlying136
 a46:=Tryz.isAgg136
 z46:=Tryz.sizeOf136
 v46:=Tryz.zeroValue136
 t53:=underlying193
 a53:=Tryz.isAgg193
 z53:=Tryz.sizeOf193
 v53:=Tryz.zeroValue193
def aMn:Go.Shelf.Ren:=⟨fun | 134=>222 | 129=>126 | n=>n,fun | 53=>193 | 3=>3 | 4=>4 | 46=>136 | 5=>5 | 9=>9 | n=>n,fun | n=>n⟩
theorem bFi:Lays.n134 prog aMn where
 mixed:=by kernel_rfl
 f129:=func126.trans (congrArg some (by kernel_rfl))
 f134:=func222.trans (congrArg some (by kernel_rfl))
 t3:=underlying3
 a3:=Tryz.isAgg3
 z3:=Tryz.sizeOf3
 v3:=Tryz.zeroValue3
 t4:=underlying4
 a4:=Tryz.isAgg4
 z4:=Tryz.sizeOf4
 v4:=Tryz.zeroValue4
 t5:=underlying5
 a5:=Tryz.isAgg5
 z5:=Tryz.sizeOf5
 v5:=Tryz.zeroValue5
 t9:=underlying9
 a9:=Tryz.isAgg9
 z9:=Tryz.sizeOf9
 v9:=Tryz.zeroValue9
 t46:=underlying136
 a46:=Tryz.isAgg136
 z46:=Tryz.sizeOf136
 v46:=Tryz.zeroValue136
 t53:=underlying193
 a53:=Tryz.isAgg193
 z53:=Tryz.sizeOf193
 v53:=Tryz.zeroValue193
end Go.Proofs.YtpcloigancpnbaaGreatDoor
