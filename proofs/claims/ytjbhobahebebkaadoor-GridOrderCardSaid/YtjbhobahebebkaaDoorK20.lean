/- Part of the proof of the laws of this seat: LayL. No conditions. -/
import Derived.Test.YtjbhobahebebkaaDoorProg
import Derived.Shelf.Lays
/- The library's functions of this seat beside the shelf's bodies. -/
namespace Go.Proofs.YtjbhobahebebkaaDoor
open Go.Proofs
def len_lay_ren : Go.Shelf.Ren := ⟨fun | 125 => 48 | 128 => 64 | 129 => 65 | n => n, fun | 46 => 92 | 3 => 3 | 51 => 42 | 53 => 114 | 4 => 4 | 5 => 5 | 9 => 9 | n => n, fun | n => n⟩
theorem len_lay : Lays.n125 Tryd.prog len_lay_ren where
  mixed := by kernel_rfl
  f125 := Tryd.func48.trans (congrArg some (by kernel_rfl))
  f128 := Tryd.func64.trans (congrArg some (by kernel_rfl))
  f129 := Tryd.func65.trans (congrArg some (by kernel_rfl))
  t3 := Tryd.underlying3
  a3 := Tryd.isAgg3
  z3 := Tryd.sizeOf3
  v3 := Tryd.zeroValue3
  t4 := Tryd.underlying4
  a4 := Tryd.isAgg4
  z4 := Tryd.sizeOf4
  v4 := Tryd.zeroValue4
  t5 := Tryd.underlying5
  a5 := Tryd.isAgg5
  z5 := Tryd.sizeOf5
  v5 := Tryd.zeroValue5
  t9 := Tryd.underlying9
  a9 := Tryd.isAgg9
  z9 := Tryd.sizeOf9
  v9 := Tryd.zeroValue9
  t46 := Tryd.underlying92
  a46 := Tryd.isAgg92
  z46 := Tryd.sizeOf92
  v46 := Tryd.zeroValue92
  t51 := Tryd.underlying42
  a51 := Tryd.isAgg42
  z51 := Tryd.sizeOf42
  v51 := Tryd.zeroValue42
  t53 := Tryd.underlying114
  a53 := Tryd.isAgg114
  z53 := Tryd.sizeOf114
  v53 := Tryd.zeroValue114
end Go.Proofs.YtjbhobahebebkaaDoor
