/- Part of the proof of a law of this seat (1 texts). No conditions. -/
import Derived.Test.YtaoaknafiegfoaaGreatDoorProg
import Derived.Shelf.Lays
set_option linter.unusedVariables false
set_option linter.unusedSimpArgs false
set_option linter.unnecessarySimpa false
set_option maxHeartbeats 100000000
namespace Go.Proofs.YtaoaknafiegfoaaGreatDoor
open Go.Proofs
open Go.Proofs.Tryz
def aKf:Go.Shelf.Ren:=⟨fun | 264=>221 | n=>n,fun | 53=>237 | 46=>178 | n=>n,fun | n=>n⟩
theorem bCi:Lays.n264 prog aKf where
 mixed:=by kernel_rfl
 f264:=func221.trans (congrArg some (by kernel_rfl))
 t46:=underlying178
 a46:=Tryz.isAgg178
 z46:=Tryz.sizeOf178
 v46:=Tryz.zeroValue178
 t53:=underlying237
 a53:=Tryz.isAgg237
 z53:=Tryz.sizeOf237
 v53:=Tryz.zeroValue237
def aOf:Go.Shelf.Ren:=⟨fun | 134=>245 | 129=>173 | n=>n,fun | 53=>237 | 3=>3 | 4=>4 | 46=>178 | 5=>5 | 9=>9 | n=>n,fun | n=>n⟩
theorem bIi:Lays.n134 prog aOf where
 mixed:=by kernel_rfl
 f129:=func173.trans (congrArg some (by kernel_rfl))
 f134:=func245.trans (congrArg some (by kernel_rfl))
 t3:=underlying3
 a3:=Tryz.isAgg3
 z3:=Tryz.sizeOf3
 v3:=Tryz.zeroValue3
 t4:=underlying4
 a4:=Tryz.isAgg4
 z4:=Tryz.sizeOf4
 v4:=Tryz.zeroValue4
 t5:=underlying5
 a5:=Tryz.isAgg5
 z5:=Tryz.sizeOf5
 v5:=Tryz.zeroValue5
 t9:=underlying9
 a9:=Tryz.isAgg9
 z9:=Tryz.sizeOf9
 v9:=Tryz.zeroValue9
 t46:=underlying178
 a46:=Tryz.isAgg178
 z46:=Tryz.sizeOf178
 v46:=Tryz.zeroValue178
 t53:=underlying237
 a53:=Tryz.isAgg237
 z53:=Tryz.sizeOf237
 v53:=Tryz.zeroValue237
end Go.Proofs.YtaoaknafiegfoaaGreatDoor
