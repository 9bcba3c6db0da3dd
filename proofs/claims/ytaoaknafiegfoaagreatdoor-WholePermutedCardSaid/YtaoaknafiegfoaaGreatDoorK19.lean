/- Part of the proof of the laws of this seat: LayA. No conditions. -/
import Derived.Test.YtaoaknafiegfoaaGreatDoorProg
import Derived.Shelf.Lays7
set_option linter.unusedVariables false
set_option linter.unusedSimpArgs false
set_option linter.unnecessarySimpa false
namespace Go.Proofs.YtaoaknafiegfoaaGreatDoor
open Go.Proofs
def aAz : Go.Shelf.Ren := ⟨fun | 25 => 286 | n => n, fun | 22 => 237 | n => n, fun | n => n⟩
theorem aPd : Lays7.n25 Tryz.prog aAz where
 mixed := by kernel_rfl
 f25 := Tryz.func286.trans (congrArg some (by kernel_rfl))
 t22 := Tryz.underlying237
 a22 := Tryz.isAgg237
 z22 := Tryz.sizeOf237
 v22 := Tryz.zeroValue237
 i22 := by kernel_rfl
end Go.Proofs.YtaoaknafiegfoaaGreatDoor
