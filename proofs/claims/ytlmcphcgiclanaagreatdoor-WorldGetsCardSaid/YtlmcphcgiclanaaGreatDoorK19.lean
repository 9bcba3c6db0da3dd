/- Part of the proof of the laws of this seat: LayA. No conditions. -/
import Derived.Test.YtlmcphcgiclanaaGreatDoorProg
import Derived.Shelf.Lays7
set_option linter.unusedVariables false
set_option linter.unusedSimpArgs false
set_option linter.unnecessarySimpa false
namespace Go.Proofs.YtlmcphcgiclanaaGreatDoor
open Go.Proofs
def yZ : Go.Shelf.Ren := ⟨fun | 25 => 248 | n => n, fun | 22 => 170 | n => n, fun | n => n⟩
theorem aMa : Lays7.n25 Tryz.prog yZ where
 mixed := by kernel_rfl
 f25 := Tryz.func248.trans (congrArg some (by kernel_rfl))
 t22 := Tryz.underlying170
 a22 := Tryz.isAgg170
 z22 := Tryz.sizeOf170
 v22 := Tryz.zeroValue170
 i22 := by kernel_rfl
end Go.Proofs.YtlmcphcgiclanaaGreatDoor
