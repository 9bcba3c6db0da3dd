/- Part of the proof of the laws of this seat: LayB. No conditions. -/
import Derived.Test.YtkegiinlfmlhlaaDoorProg
import Derived.Shelf.Lays
/- The library's functions of this seat beside the shelf's bodies. -/
namespace Go.Proofs.YtkegiinlfmlhlaaDoor
open Go.Proofs
def mul64_lay_ren : Go.Shelf.Ren := ⟨fun | 264 => 140 | n => n, fun | 53 => 145 | 46 => 130 | n => n, fun | n => n⟩
theorem mul64_lay : Lays.n264 Tryd.prog mul64_lay_ren where
  mixed := by kernel_rfl
  f264 := Tryd.func140.trans (congrArg some (by kernel_rfl))
  t46 := Tryd.underlying130
  a46 := Tryd.isAgg130
  z46 := Tryd.sizeOf130
  v46 := Tryd.zeroValue130
  t53 := Tryd.underlying145
  a53 := Tryd.isAgg145
  z53 := Tryd.sizeOf145
  v53 := Tryd.zeroValue145
def lz64_lay_ren : Go.Shelf.Ren := ⟨fun | 134 => 144 | 129 => 100 | n => n, fun | 53 => 145 | 3 => 3 | 4 => 4 | 46 => 130 | 5 => 5 | 9 => 9 | n => n, fun | n => n⟩
theorem lz64_lay : Lays.n134 Tryd.prog lz64_lay_ren where
  mixed := by kernel_rfl
  f129 := Tryd.func100.trans (congrArg some (by kernel_rfl))
  f134 := Tryd.func144.trans (congrArg some (by kernel_rfl))
  t3 := Tryd.underlying3
  a3 := Tryd.isAgg3
  z3 := Tryd.sizeOf3
  v3 := Tryd.zeroValue3
  t4 := Tryd.underlying4
  a4 := Tryd.isAgg4
  z4 := Tryd.sizeOf4
  v4 := Tryd.zeroValue4
  t5 := Tryd.underlying5
  a5 := Tryd.isAgg5
  z5 := Tryd.sizeOf5
  v5 := Tryd.zeroValue5
  t9 := Tryd.underlying9
  a9 := Tryd.isAgg9
  z9 := Tryd.sizeOf9
  v9 := Tryd.zeroValue9
  t46 := Tryd.underlying130
  a46 := Tryd.isAgg130
  z46 := Tryd.sizeOf130
  v46 := Tryd.zeroValue130
  t53 := Tryd.underlying145
  a53 := Tryd.isAgg145
  z53 := Tryd.sizeOf145
  v53 := Tryd.zeroValue145
end Go.Proofs.YtkegiinlfmlhlaaDoor
