/- Part of the proof of the laws of this seat: LayB. No conditions. -/
import Derived.Test.YtlmcphcgiclanaaGreatDoorProg
import Derived.Shelf.Lays
set_option linter.unusedVariables false
set_option linter.unusedSimpArgs false
set_option linter.unnecessarySimpa false
namespace Go.Proofs.YtlmcphcgiclanaaGreatDoor
open Go.Proofs
def zW : Go.Shelf.Ren := ⟨fun | 264 => 178 | n => n, fun | 53 => 170 | 46 => 136 | n => n, fun | n => n⟩
theorem aPr : Lays.n264 Tryz.prog zW where
 mixed := by kernel_rfl
 f264 := Tryz.func178.trans (congrArg some (by kernel_rfl))
 t46 := Tryz.underlying136
 a46 := Tryz.isAgg136
 z46 := Tryz.sizeOf136
 v46 := Tryz.zeroValue136
 t53 := Tryz.underlying170
 a53 := Tryz.isAgg170
 z53 := Tryz.sizeOf170
 v53 := Tryz.zeroValue170
def aEe : Go.Shelf.Ren := ⟨fun | 134 => 206 | 129 => 159 | n => n, fun | 53 => 170 | 3 => 3 | 4 => 4 | 46 => 136 | 5 => 5 | 9 => 9 | n => n, fun | n => n⟩
theorem aQq : Lays.n134 Tryz.prog aEe where
 mixed := by kernel_rfl
 f129 := Tryz.func159.trans (congrArg some (by kernel_rfl))
 f134 := Tryz.func206.trans (congrArg some (by kernel_rfl))
 t3 := Tryz.underlying3
 a3 := Tryz.isAgg3
 z3 := Tryz.sizeOf3
 v3 := Tryz.zeroValue3
 t4 := Tryz.underlying4
 a4 := Tryz.isAgg4
 z4 := Tryz.sizeOf4
 v4 := Tryz.zeroValue4
 t5 := Tryz.underlying5
 a5 := Tryz.isAgg5
 z5 := Tryz.sizeOf5
 v5 := Tryz.zeroValue5
 t9 := Tryz.underlying9
 a9 := Tryz.isAgg9
 z9 := Tryz.sizeOf9
 v9 := Tryz.zeroValue9
 t46 := Tryz.underlying136
 a46 := Tryz.isAgg136
 z46 := Tryz.sizeOf136
 v46 := Tryz.zeroValue136
 t53 := Tryz.underlying170
 a53 := Tryz.isAgg170
 z53 := Tryz.sizeOf170
 v53 := Tryz.zeroValue170
end Go.Proofs.YtlmcphcgiclanaaGreatDoor
