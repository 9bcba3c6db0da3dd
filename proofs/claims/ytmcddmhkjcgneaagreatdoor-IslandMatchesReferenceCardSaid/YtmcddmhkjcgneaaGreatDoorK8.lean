/- Part of the proof of the laws of this seat: LayB. No conditions. -/
import Derived.Test.YtmcddmhkjcgneaaGreatDoorProg
import Derived.Shelf.Lays
/- The library's functions of this seat beside the shelf's bodies. -/
namespace Go.Proofs.YtmcddmhkjcgneaaGreatDoor
open Go.Proofs
def mul64_lay_ren : Go.Shelf.Ren := ⟨fun | 264 => 154 | n => n, fun | 53 => 26 | 46 => 176 | n => n, fun | n => n⟩
theorem mul64_lay : Lays.n264 Tryz.prog mul64_lay_ren where
  mixed := by kernel_rfl
  f264 := Tryz.func154.trans (congrArg some (by kernel_rfl))
  t46 := Tryz.underlying176
  a46 := Tryz.isAgg176
  z46 := Tryz.sizeOf176
  v46 := Tryz.zeroValue176
  t53 := Tryz.underlying26
  a53 := Tryz.isAgg26
  z53 := Tryz.sizeOf26
  v53 := Tryz.zeroValue26
def lz64_lay_ren : Go.Shelf.Ren := ⟨fun | 134 => 158 | 129 => 140 | n => n, fun | 53 => 26 | 3 => 3 | 4 => 4 | 46 => 176 | 5 => 5 | 9 => 9 | n => n, fun | n => n⟩
theorem lz64_lay : Lays.n134 Tryz.prog lz64_lay_ren where
  mixed := by kernel_rfl
  f129 := Tryz.func140.trans (congrArg some (by kernel_rfl))
  f134 := Tryz.func158.trans (congrArg some (by kernel_rfl))
  t3 := Tryz.underlying3
  a3 := Tryz.isAgg3
  z3 := Tryz.sizeOf3
  v3 := Tryz.zeroValue3
  t4 := Tryz.underlying4
  a4 := Tryz.isAgg4
  z4 := Tryz.sizeOf4
  v4 := Tryz.zeroValue4
  t5 := Tryz.underlying5
  a5 := Tryz.isAgg5
  z5 := Tryz.sizeOf5
  v5 := Tryz.zeroValue5
  t9 := Tryz.underlying9
  a9 := Tryz.isAgg9
  z9 := Tryz.sizeOf9
  v9 := Tryz.zeroValue9
  t46 := Tryz.underlying176
  a46 := Tryz.isAgg176
  z46 := Tryz.sizeOf176
  v46 := Tryz.zeroValue176
  t53 := Tryz.underlying26
  a53 := Tryz.isAgg26
  z53 := Tryz.sizeOf26
  v53 := Tryz.zeroValue26
end Go.Proofs.YtmcddmhkjcgneaaGreatDoor
