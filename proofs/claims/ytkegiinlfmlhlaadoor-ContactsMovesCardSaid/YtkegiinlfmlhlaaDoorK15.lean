/- Part of the proof of the laws of this seat: Lay. No conditions. -/
import Derived.Test.YtkegiinlfmlhlaaDoorProg
import Derived.Shelf.SlLaysF0
/- The library's functions of this seat beside the shelf's bodies. -/
namespace Go.Proofs.YtkegiinlfmlhlaaDoor
open Go.Proofs
def sortP_lay_ren : Go.Shelf.Ren := ⟨fun | 6 => 65 | 15 => 71 | 14 => 88 | 28 => 99 | 29 => 100 | 20 => 114 | 21 => 115 | 22 => 116 | 23 => 117 | 24 => 118 | 25 => 119 | 26 => 120 | 27 => 121 | 46 => 130 | 47 => 123 | 48 => 124 | 49 => 131 | 50 => 132 | 57 => 136 | n => n, fun | 22 => 56 | 24 => 36 | 25 => 95 | 3 => 3 | 39 => 130 | 0 => 0 | 53 => 30 | 55 => 145 | 4 => 4 | 46 => 157 | 45 => 156 | 50 => 162 | 5 => 5 | 9 => 9 | 66 => 187 | 70 => 191 | 76 => 198 | 77 => 199 | n => n, fun | n => n⟩
theorem sortP_lay : SlLaysF0.n6 Tryd.prog sortP_lay_ren where
  mixed := by kernel_rfl
  f6 := ⟨Tryd.f65.name, by decide, Tryd.func65.trans (congrArg some (by kernel_rfl))⟩
  f14 := ⟨Tryd.f88.name, by decide, Tryd.func88.trans (congrArg some (by kernel_rfl))⟩
  f15 := Tryd.func71.trans (congrArg some (by kernel_rfl))
  f20 := ⟨Tryd.f114.name, by decide, Tryd.func114.trans (congrArg some (by kernel_rfl))⟩
  f21 := ⟨Tryd.f115.name, by decide, Tryd.func115.trans (congrArg some (by kernel_rfl))⟩
  f22 := ⟨Tryd.f116.name, by decide, Tryd.func116.trans (congrArg some (by kernel_rfl))⟩
  f23 := ⟨Tryd.f117.name, by decide, Tryd.func117.trans (congrArg some (by kernel_rfl))⟩
  f24 := ⟨Tryd.f118.name, by decide, Tryd.func118.trans (congrArg some (by kernel_rfl))⟩
  f25 := ⟨Tryd.f119.name, by decide, Tryd.func119.trans (congrArg some (by kernel_rfl))⟩
  f26 := ⟨Tryd.f120.name, by decide, Tryd.func120.trans (congrArg some (by kernel_rfl))⟩
  f27 := ⟨Tryd.f121.name, by decide, Tryd.func121.trans (congrArg some (by kernel_rfl))⟩
  f28 := Tryd.func99.trans (congrArg some (by kernel_rfl))
  f29 := Tryd.func100.trans (congrArg some (by kernel_rfl))
  f46 := ⟨Tryd.f130.name, by decide, Tryd.func130.trans (congrArg some (by kernel_rfl))⟩
  f47 := Tryd.func123.trans (congrArg some (by kernel_rfl))
  f48 := Tryd.func124.trans (congrArg some (by kernel_rfl))
  f49 := ⟨Tryd.f131.name, by decide, Tryd.func131.trans (congrArg some (by kernel_rfl))⟩
  f50 := ⟨Tryd.f132.name, by decide, Tryd.func132.trans (congrArg some (by kernel_rfl))⟩
  f57 := ⟨Tryd.f136.name, by decide, Tryd.func136.trans (congrArg some (by kernel_rfl))⟩
  t0 := Tryd.underlying0
  a0 := Tryd.isAgg0
  z0 := Tryd.sizeOf0
  v0 := Tryd.zeroValue0
  t3 := Tryd.underlying3
  a3 := Tryd.isAgg3
  z3 := Tryd.sizeOf3
  v3 := Tryd.zeroValue3
  t4 := Tryd.underlying4
  a4 := Tryd.isAgg4
  z4 := Tryd.sizeOf4
  v4 := Tryd.zeroValue4
  t5 := Tryd.underlying5
  a5 := Tryd.isAgg5
  z5 := Tryd.sizeOf5
  v5 := Tryd.zeroValue5
  t9 := Tryd.underlying9
  a9 := Tryd.isAgg9
  z9 := Tryd.sizeOf9
  v9 := Tryd.zeroValue9
  t22 := Tryd.underlying56
  a22 := Tryd.isAgg56
  z22 := Tryd.sizeOf56
  v22 := Tryd.zeroValue56
  t25 := Tryd.underlying95
  a25 := Tryd.isAgg95
  z25 := Tryd.sizeOf95
  v25 := Tryd.zeroValue95
  t39 := Tryd.underlying130
  a39 := Tryd.isAgg130
  z39 := Tryd.sizeOf130
  v39 := Tryd.zeroValue130
  t45 := Tryd.underlying156
  a45 := Tryd.isAgg156
  z45 := Tryd.sizeOf156
  v45 := Tryd.zeroValue156
  t46 := Tryd.underlying157
  a46 := Tryd.isAgg157
  z46 := Tryd.sizeOf157
  v46 := Tryd.zeroValue157
  t50 := Tryd.underlying162
  a50 := Tryd.isAgg162
  z50 := Tryd.sizeOf162
  v50 := Tryd.zeroValue162
  t53 := Tryd.underlying30
  a53 := Tryd.isAgg30
  z53 := Tryd.sizeOf30
  v53 := Tryd.zeroValue30
  t55 := Tryd.underlying145
  a55 := Tryd.isAgg145
  z55 := Tryd.sizeOf145
  v55 := Tryd.zeroValue145
  t66 := Tryd.underlying187
  a66 := Tryd.isAgg187
  z66 := Tryd.sizeOf187
  v66 := Tryd.zeroValue187
  t70 := Tryd.underlying191
  a70 := Tryd.isAgg191
  z70 := Tryd.sizeOf191
  v70 := Tryd.zeroValue191
  t76 := Tryd.underlying198
  a76 := Tryd.isAgg198
  z76 := Tryd.sizeOf198
  v76 := Tryd.zeroValue198
  t77 := Tryd.underlying199
  a77 := Tryd.isAgg199
  z77 := Tryd.sizeOf199
  v77 := Tryd.zeroValue199
end Go.Proofs.YtkegiinlfmlhlaaDoor
