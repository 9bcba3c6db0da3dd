/- Part of the proof of the laws of this seat: Ty, T26, T25, T25l, R5, Bd, R6, Lib, St. No conditions. -/
import Derived.Test.YtmcddmhkjcgneaaGreatDoorProg
import Derived.Test.YtmcddmhkjcgneaaGreatDoorK2
import Derived.Test.YtmcddmhkjcgneaaGreatDoorK3
import Derived.Test.YtmcddmhkjcgneaaGreatDoorK4
import Derived.KernelRfl
/- Closed facts on the types and functions of this seat. -/
set_option linter.unusedVariables false
set_option linter.unusedSimpArgs false
namespace Go.Proofs.YtmcddmhkjcgneaaGreatDoor
open Go.Bil
open Go.Proofs
theorem one30 : oneB Tryz.prog 30 = true := by kernel_rfl
theorem one21 : oneB Tryz.prog 21 = true := by kernel_rfl
theorem agg29 : aggN Tryz.prog 29 = some 2 := by kernel_rfl
theorem eqI61 : ∀ (d : Nat) (w : World) (x0 x1 y0 y1 : Int), (Op.equalIn (d + 2) 61 (.agg [.int .u32 x0, .int .u32 x1].toArray) (.agg [.int .u32 y0, .int .u32 y1].toArray)).run Tryz.prog w = .ok (decide (x0 = y0 ∧ x1 = y1)) w := fun d w x0 x1 y0 y1 => by
    have h := eq_struct (P := Tryz.prog) (T := 61) (dd := d + 1) (xs := [.int .u32 x0, .int .u32 x1]) (ys := [.int .u32 y0, .int .u32 y1]) (w := w) Tryz.underlying61 (by kernel_rfl) (eqF_cons rfl (part1 one30 rfl) (part1 one30 rfl) (eq_int (dd := d + 0) Tryz.underlying30) (eqF_cons rfl (part1 one30 rfl) (part1 one30 rfl) (eq_int (dd := d + 0) Tryz.underlying30) (eqF_nil)))
    refine h.trans (congrArg (fun r => Result.ok r w) ?_)
    simp only [Bool.decide_and, Bool.and_true, Bool.and_assoc]
theorem eqA61 : ∀ (x0 x1 y0 y1 : Int), EqA Tryz.prog 61 [.int .u32 x0, .int .u32 x1] [.int .u32 y0, .int .u32 y1] (decide (x0 = y0 ∧ x1 = y1)) := fun x0 x1 y0 y1 => ⟨by kernel_rfl, fun w => eqI61 9998 w x0 x1 y0 y1⟩
theorem agg61 : aggN Tryz.prog 61 = some 2 := by kernel_rfl
theorem cal96 : callOk Tryz.prog 96 = true := by kernel_rfl
theorem zv61 : zeroV Tryz.prog 61 = some (.agg [.int .u32 0, .int .u32 0].toArray) := by kernel_rfl
theorem one3 : oneB Tryz.prog 3 = true := by kernel_rfl
theorem one26 : oneB Tryz.prog 26 = true := by kernel_rfl
theorem one2 : oneB Tryz.prog 2 = true := by kernel_rfl
theorem agg34 : aggN Tryz.prog 34 = some 4 := by kernel_rfl
theorem fld32_1 : fldB Tryz.prog 32 1 1 = true := by kernel_rfl
theorem fld32_2 : fldB Tryz.prog 32 2 2 = true := by kernel_rfl
theorem fld29_0 : fldB Tryz.prog 29 0 0 = true := by kernel_rfl
theorem cal85 : callOk Tryz.prog 85 = true := by kernel_rfl
theorem fld29_1 : fldB Tryz.prog 29 1 1 = true := by kernel_rfl
theorem fld32_3 : fldB Tryz.prog 32 3 4 = true := by kernel_rfl
theorem fld32_4 : fldB Tryz.prog 32 4 5 = true := by kernel_rfl
theorem fld32_5 : fldB Tryz.prog 32 5 6 = true := by kernel_rfl
theorem fld32_6 : fldB Tryz.prog 32 6 8 = true := by kernel_rfl
theorem sl22 : sliceB Tryz.prog 22 32 10 40 = true := by kernel_rfl
theorem fld32_0 : fldB Tryz.prog 32 0 0 = true := by kernel_rfl
theorem agg32 : aggN Tryz.prog 32 = some 10 := by kernel_rfl
theorem mixed : Tryz.prog.follows .mixedOrders = true := by kernel_rfl
theorem cal123 : callOk Tryz.prog 123 = true := by kernel_rfl
theorem cal70 : callOk Tryz.prog 70 = true := by kernel_rfl
theorem cal48 : callOk Tryz.prog 48 = true := by kernel_rfl
theorem cal86 : callOk Tryz.prog 86 = true := by kernel_rfl
theorem cal71 : callOk Tryz.prog 71 = true := by kernel_rfl
theorem cal56 : callOk Tryz.prog 56 = true := by kernel_rfl
theorem cal57 : callOk Tryz.prog 57 = true := by kernel_rfl
theorem sl52 : sliceB Tryz.prog 52 30 1 4 = true := by kernel_rfl
theorem cal69 : callOk Tryz.prog 69 = true := by kernel_rfl
theorem cal101 : callOk Tryz.prog 101 = true := by kernel_rfl
theorem zero34 : zeroL Tryz.prog 34 = some [.int .i32 0, .int .i32 0, .int .i32 0, .int .i32 0] := by kernel_rfl
theorem cal78 : callOk Tryz.prog 78 = true := by kernel_rfl
theorem struct34 : structB Tryz.prog 34 [.int .i32 0, .int .i32 0, .int .i32 0, .int .i32 0] [(0, 1), (1, 1), (2, 1), (3, 1)] := structB_mk Tryz.underlying34 (by kernel_rfl) (by kernel_rfl) (by kernel_rfl)
theorem fld34_0 : fldB Tryz.prog 34 0 0 = true := by kernel_rfl
theorem fld34_2 : fldB Tryz.prog 34 2 2 = true := by kernel_rfl
theorem fld34_1 : fldB Tryz.prog 34 1 1 = true := by kernel_rfl
theorem fld34_3 : fldB Tryz.prog 34 3 3 = true := by kernel_rfl
theorem cal64 : callOk Tryz.prog 64 = true := by kernel_rfl
theorem cal104 : callOk Tryz.prog 104 = true := by kernel_rfl
theorem zero143 : zeroL Tryz.prog 143 = some [.int .i32 0, .int .i32 0] := by kernel_rfl
theorem struct143 : structB Tryz.prog 143 [.int .i32 0, .int .i32 0] [(0, 1), (1, 1)] := structB_mk Tryz.underlying143 (by kernel_rfl) (by kernel_rfl) (by kernel_rfl)
theorem agg143 : aggN Tryz.prog 143 = some 2 := by kernel_rfl
theorem struct29 : structB Tryz.prog 29 [.int .i32 0, .int .i32 0] [(0, 1), (1, 1)] := structB_mk Tryz.underlying29 (by kernel_rfl) (by kernel_rfl) (by kernel_rfl)
theorem cal130 : callOk Tryz.prog 130 = true := by kernel_rfl
theorem cal118 : callOk Tryz.prog 118 = true := by kernel_rfl
theorem zero4 : zeroL Tryz.prog 4 = some [.bool false] := by kernel_rfl
theorem one4 : oneB Tryz.prog 4 = true := by kernel_rfl
theorem fld143_1 : fldB Tryz.prog 143 1 1 = true := by kernel_rfl
theorem fld143_0 : fldB Tryz.prog 143 0 0 = true := by kernel_rfl
theorem zero141 : zeroL Tryz.prog 141 = some [.slice none 0 0] := by kernel_rfl
theorem cal103 : callOk Tryz.prog 103 = true := by kernel_rfl
theorem cal119 : callOk Tryz.prog 119 = true := by kernel_rfl
theorem one141 : oneB Tryz.prog 141 = true := by kernel_rfl
theorem sl141 : sliceB Tryz.prog 141 143 2 8 = true := by kernel_rfl
theorem us21 : (Tryz.prog.underlying 21).isSome = true := by kernel_rfl
theorem arr166 : arrB Tryz.prog 166 2 30 1 = true := by kernel_rfl
theorem us30 : (Tryz.prog.underlying 30).isSome = true := by kernel_rfl
theorem cal158 : callOk Tryz.prog 158 = true := by kernel_rfl
theorem us3 : (Tryz.prog.underlying 3).isSome = true := by kernel_rfl
theorem us2 : (Tryz.prog.underlying 2).isSome = true := by kernel_rfl
theorem us26 : (Tryz.prog.underlying 26).isSome = true := by kernel_rfl
theorem cal155 : callOk Tryz.prog 155 = true := by kernel_rfl
theorem cal154 : callOk Tryz.prog 154 = true := by kernel_rfl
theorem cal156 : callOk Tryz.prog 156 = true := by kernel_rfl
theorem cal157 : callOk Tryz.prog 157 = true := by kernel_rfl
theorem cal159 : callOk Tryz.prog 159 = true := by kernel_rfl
theorem cal79 : callOk Tryz.prog 79 = true := by kernel_rfl
theorem cal63 : callOk Tryz.prog 63 = true := by kernel_rfl
theorem cal114 : callOk Tryz.prog 114 = true := by kernel_rfl
theorem zero29 : zeroL Tryz.prog 29 = some [.int .i32 0, .int .i32 0] := by kernel_rfl
theorem cal100 : callOk Tryz.prog 100 = true := by kernel_rfl
theorem cal113 : callOk Tryz.prog 113 = true := by kernel_rfl
theorem cal112 : callOk Tryz.prog 112 = true := by kernel_rfl
theorem cal152 : callOk Tryz.prog 152 = true := by kernel_rfl
theorem cal150 : callOk Tryz.prog 150 = true := by kernel_rfl
theorem zero2 : zeroL Tryz.prog 2 = some [.int .i64 0] := by kernel_rfl
theorem cal151 : callOk Tryz.prog 151 = true := by kernel_rfl
theorem zero26 : zeroL Tryz.prog 26 = some [.int .u64 0] := by kernel_rfl
theorem arr213 : arrB Tryz.prog 213 2 29 2 = true := by kernel_rfl
theorem zero213 : zeroL Tryz.prog 213 = some [.int .i32 0, .int .i32 0, .int .i32 0, .int .i32 0] := by kernel_rfl
theorem cal142 : callOk Tryz.prog 142 = true := by kernel_rfl
theorem cal141 : callOk Tryz.prog 141 = true := by kernel_rfl
theorem cal125 : callOk Tryz.prog 125 = true := by kernel_rfl
theorem zero156 : zeroL Tryz.prog 156 = some [.int .u32 0, .int .i32 0, .int .i32 0, .int .i32 0, .int .i32 0, .int .i32 0, .int .i32 0, .int .i32 0, .int .i32 0, .int .i32 0, .int .i32 0, .int .i32 0, .int .i32 0, .int .i32 0] := by kernel_rfl
theorem cal124 : callOk Tryz.prog 124 = true := by kernel_rfl
theorem struct156 : structB Tryz.prog 156 [.int .u32 0, .int .i32 0, .int .i32 0, .int .i32 0, .int .i32 0, .int .i32 0, .int .i32 0, .int .i32 0, .int .i32 0, .int .i32 0, .int .i32 0, .int .i32 0, .int .i32 0, .int .i32 0] [(0, 10), (10, 2), (12, 2)] := structB_mk Tryz.underlying156 (by kernel_rfl) (by kernel_rfl) (by kernel_rfl)
theorem agg156 : aggN Tryz.prog 156 = some 14 := by kernel_rfl
theorem cal110 : callOk Tryz.prog 110 = true := by kernel_rfl
theorem fld156_1 : fldB Tryz.prog 156 1 10 = true := by kernel_rfl
theorem fld156_2 : fldB Tryz.prog 156 2 12 = true := by kernel_rfl
theorem cal111 : callOk Tryz.prog 111 = true := by kernel_rfl
theorem fld156_0 : fldB Tryz.prog 156 0 0 = true := by kernel_rfl
theorem zero63 : zeroL Tryz.prog 63 = some [.int .u32 0, .int .u32 0, .int .i32 0, .int .i32 0, .int .i32 0] := by kernel_rfl
theorem cal97 : callOk Tryz.prog 97 = true := by kernel_rfl
theorem cal98 : callOk Tryz.prog 98 = true := by kernel_rfl
theorem struct63 : structB Tryz.prog 63 [.int .u32 0, .int .u32 0, .int .i32 0, .int .i32 0, .int .i32 0] [(0, 2), (2, 2), (4, 1)] := structB_mk Tryz.underlying63 (by kernel_rfl) (by kernel_rfl) (by kernel_rfl)
theorem agg63 : aggN Tryz.prog 63 = some 5 := by kernel_rfl
theorem struct61 : structB Tryz.prog 61 [.int .u32 0, .int .u32 0] [(0, 1), (1, 1)] := structB_mk Tryz.underlying61 (by kernel_rfl) (by kernel_rfl) (by kernel_rfl)
theorem zero61 : zeroL Tryz.prog 61 = some [.int .u32 0, .int .u32 0] := by kernel_rfl
theorem cal99 : callOk Tryz.prog 99 = true := by kernel_rfl
theorem fld123_1 : fldB Tryz.prog 123 1 1024 = true := by kernel_rfl
theorem cal87 : callOk Tryz.prog 87 = true := by kernel_rfl
theorem cal88 : callOk Tryz.prog 88 = true := by kernel_rfl
theorem map140 : mapB Tryz.prog 140 3 4 .i64 = true := by kernel_rfl
theorem zv4 : zeroV Tryz.prog 4 = some (.bool false) := by kernel_rfl
theorem fld123_0 : fldB Tryz.prog 123 0 0 = true := by kernel_rfl
theorem arr121 : arrB Tryz.prog 121 1024 52 1 = true := by kernel_rfl
theorem one52 : oneB Tryz.prog 52 = true := by kernel_rfl
theorem sl187 : sliceB Tryz.prog 187 3 1 8 = true := by kernel_rfl
theorem fld61_0 : fldB Tryz.prog 61 0 0 = true := by kernel_rfl
theorem fld61_1 : fldB Tryz.prog 61 1 1 = true := by kernel_rfl
theorem cal109 : callOk Tryz.prog 109 = true := by kernel_rfl
theorem cal108 : callOk Tryz.prog 108 = true := by kernel_rfl
theorem one147 : oneB Tryz.prog 147 = true := by kernel_rfl
theorem cal107 : callOk Tryz.prog 107 = true := by kernel_rfl
theorem one103 : oneB Tryz.prog 103 = true := by kernel_rfl
theorem sl103 : sliceB Tryz.prog 103 61 2 8 = true := by kernel_rfl
theorem cal120 : callOk Tryz.prog 120 = true := by kernel_rfl
theorem cal105 : callOk Tryz.prog 105 = true := by kernel_rfl
theorem cal106 : callOk Tryz.prog 106 = true := by kernel_rfl
theorem agg121 : aggN Tryz.prog 121 = some 1024 := by kernel_rfl
theorem cal93 : callOk Tryz.prog 93 = true := by kernel_rfl
theorem struct148 : structB Tryz.prog 148 [] [] := structB_mk Tryz.underlying148 (by kernel_rfl) (by kernel_rfl) (by kernel_rfl)
theorem cal95 : callOk Tryz.prog 95 = true := by kernel_rfl
theorem cal94 : callOk Tryz.prog 94 = true := by kernel_rfl
theorem zero32 : zeroL Tryz.prog 32 = some [.int .u32 0, .int .i32 0, .int .i32 0, .int .i32 0, .int .i32 0, .int .i32 0, .int .i32 0, .int .i32 0, .int .i32 0, .int .i32 0] := by kernel_rfl
theorem cal61 : callOk Tryz.prog 61 = true := by kernel_rfl
theorem map119 : mapB Tryz.prog 119 30 34 .u32 = true := by kernel_rfl
theorem zero3 : zeroL Tryz.prog 3 = some [.int .i64 0] := by kernel_rfl
theorem one119 : oneB Tryz.prog 119 = true := by kernel_rfl
theorem zv34 : zeroV Tryz.prog 34 = some (.agg [.int .i32 0, .int .i32 0, .int .i32 0, .int .i32 0].toArray) := by kernel_rfl
theorem cal90 : callOk Tryz.prog 90 = true := by kernel_rfl
theorem cal89 : callOk Tryz.prog 89 = true := by kernel_rfl
theorem cal92 : callOk Tryz.prog 92 = true := by kernel_rfl
theorem cal72 : callOk Tryz.prog 72 = true := by kernel_rfl
theorem cal73 : callOk Tryz.prog 73 = true := by kernel_rfl
theorem cal74 : callOk Tryz.prog 74 = true := by kernel_rfl
theorem cal76 : callOk Tryz.prog 76 = true := by kernel_rfl
theorem cal75 : callOk Tryz.prog 75 = true := by kernel_rfl
theorem cal91 : callOk Tryz.prog 91 = true := by kernel_rfl
theorem cal33 : callOk Tryz.prog 33 = true := by kernel_rfl
theorem fld102_0 : fldB Tryz.prog 102 0 0 = true := by kernel_rfl
theorem one100 : oneB Tryz.prog 100 = true := by kernel_rfl
theorem map100 : mapB Tryz.prog 100 30 32 .u32 = true := by kernel_rfl
theorem zv32 : zeroV Tryz.prog 32 = some (.agg [.int .u32 0, .int .i32 0, .int .i32 0, .int .i32 0, .int .i32 0, .int .i32 0, .int .i32 0, .int .i32 0, .int .i32 0, .int .i32 0].toArray) := by kernel_rfl
theorem cal77 : callOk Tryz.prog 77 = true := by kernel_rfl
theorem fld102_1 : fldB Tryz.prog 102 1 1 = true := by kernel_rfl
theorem one45 : oneB Tryz.prog 45 = true := by kernel_rfl
theorem sl45 : sliceB Tryz.prog 45 63 5 20 = true := by kernel_rfl
theorem cal60 : callOk Tryz.prog 60 = true := by kernel_rfl
theorem struct102 : structB Tryz.prog 102 [.map none, .slice none 0 0] [(0, 1), (1, 1)] := structB_mk Tryz.underlying102 (by kernel_rfl) (by kernel_rfl) (by kernel_rfl)
theorem cal58 : callOk Tryz.prog 58 = true := by kernel_rfl
theorem cal59 : callOk Tryz.prog 59 = true := by kernel_rfl
theorem zero197 : zeroL Tryz.prog 197 = some [.int .u64 0, .int .u64 0, .int .u64 0, .int .u64 0, .int .u64 0, .int .u64 0, .int .u64 0, .int .u64 0] := by kernel_rfl
theorem fld197_0 : fldB Tryz.prog 197 0 0 = true := by kernel_rfl
theorem arr195 : arrB Tryz.prog 195 8 26 1 = true := by kernel_rfl
theorem agg197 : aggN Tryz.prog 197 = some 8 := by kernel_rfl
theorem cal144 : callOk Tryz.prog 144 = true := by kernel_rfl
theorem cal143 : callOk Tryz.prog 143 = true := by kernel_rfl
theorem cal128 : callOk Tryz.prog 128 = true := by kernel_rfl
theorem cal127 : callOk Tryz.prog 127 = true := by kernel_rfl
theorem cal129 : callOk Tryz.prog 129 = true := by kernel_rfl
theorem cal16 : callOk Tryz.prog 16 = true := by kernel_rfl
theorem cal84 : callOk Tryz.prog 84 = true := by kernel_rfl
theorem cal68 : callOk Tryz.prog 68 = true := by kernel_rfl
theorem cal83 : callOk Tryz.prog 83 = true := by kernel_rfl
theorem cal115 : callOk Tryz.prog 115 = true := by kernel_rfl
theorem cal126 : callOk Tryz.prog 126 = true := by kernel_rfl
theorem cal116 : callOk Tryz.prog 116 = true := by kernel_rfl
theorem cal117 : callOk Tryz.prog 117 = true := by kernel_rfl
theorem fld112_1 : fldB Tryz.prog 112 1 2 = true := by kernel_rfl
theorem fld112_0 : fldB Tryz.prog 112 0 0 = true := by kernel_rfl
theorem zero112 : zeroL Tryz.prog 112 = some [.int .i32 0, .int .i32 0, .int .i32 0, .int .i32 0] := by kernel_rfl
theorem struct112 : structB Tryz.prog 112 [.int .i32 0, .int .i32 0, .int .i32 0, .int .i32 0] [(0, 2), (2, 2)] := structB_mk Tryz.underlying112 (by kernel_rfl) (by kernel_rfl) (by kernel_rfl)
theorem cal102 : callOk Tryz.prog 102 = true := by kernel_rfl
theorem sl162 : sliceB Tryz.prog 162 112 4 16 = true := by kernel_rfl
theorem agg112 : aggN Tryz.prog 112 = some 4 := by kernel_rfl
theorem cal66 : callOk Tryz.prog 66 = true := by kernel_rfl
theorem cal81 : callOk Tryz.prog 81 = true := by kernel_rfl
theorem cal82 : callOk Tryz.prog 82 = true := by kernel_rfl
theorem cal80 : callOk Tryz.prog 80 = true := by kernel_rfl
theorem cal65 : callOk Tryz.prog 65 = true := by kernel_rfl
theorem cal67 : callOk Tryz.prog 67 = true := by kernel_rfl
theorem cal46 : callOk Tryz.prog 46 = true := by kernel_rfl
end Go.Proofs.YtmcddmhkjcgneaaGreatDoor

/- Closed facts on the types and functions of this seat. -/
set_option linter.unusedVariables false
set_option linter.unusedSimpArgs false
namespace Go.Proofs.YtmcddmhkjcgneaaGreatDoor
open Go.Bil
open Go.Proofs
theorem cal50 : callOk Tryz.prog 50 = true := by kernel_rfl
theorem cal34 : callOk Tryz.prog 34 = true := by kernel_rfl
theorem struct32 : structB Tryz.prog 32 [.int .u32 0, .int .i32 0, .int .i32 0, .int .i32 0, .int .i32 0, .int .i32 0, .int .i32 0, .int .i32 0, .int .i32 0, .int .i32 0] [(0, 1), (1, 1), (2, 2), (4, 1), (5, 1), (6, 2), (8, 2)] := structB_mk Tryz.underlying32 (by kernel_rfl) (by kernel_rfl) (by kernel_rfl)
theorem cal14 : callOk Tryz.prog 14 = true := by kernel_rfl
theorem leaves32 : leaves Tryz.prog 4 32 = some [.u32, .i32, .i32, .i32, .i32, .i32, .i32, .i32, .i32, .i32] := by kernel_rfl
theorem cal22 : callOk Tryz.prog 22 = true := by kernel_rfl
end Go.Proofs.YtmcddmhkjcgneaaGreatDoor

/- Closed facts on the types and functions of this seat. -/
set_option linter.unusedVariables false
set_option linter.unusedSimpArgs false
namespace Go.Proofs.YtmcddmhkjcgneaaGreatDoor
open Go.Bil
open Go.Proofs
theorem map89 : mapB Tryz.prog 89 30 30 .u32 = true := by kernel_rfl
theorem zv30 : zeroV Tryz.prog 30 = some (.int .u32 0) := by kernel_rfl
theorem cal52 : callOk Tryz.prog 52 = true := by kernel_rfl
theorem fld63_0 : fldB Tryz.prog 63 0 0 = true := by kernel_rfl
theorem sl58 : sliceB Tryz.prog 58 4 1 1 = true := by kernel_rfl
theorem cal51 : callOk Tryz.prog 51 = true := by kernel_rfl
theorem map92 : mapB Tryz.prog 92 30 3 .u32 = true := by kernel_rfl
theorem sl50 : sliceB Tryz.prog 50 52 1 24 = true := by kernel_rfl
theorem zv3 : zeroV Tryz.prog 3 = some (.int .i64 0) := by kernel_rfl
theorem cal30 : callOk Tryz.prog 30 = true := by kernel_rfl
theorem cal49 : callOk Tryz.prog 49 = true := by kernel_rfl
theorem cal55 : callOk Tryz.prog 55 = true := by kernel_rfl
theorem cal54 : callOk Tryz.prog 54 = true := by kernel_rfl
theorem cal53 : callOk Tryz.prog 53 = true := by kernel_rfl
theorem cal26 : callOk Tryz.prog 26 = true := by kernel_rfl
theorem cal47 : callOk Tryz.prog 47 = true := by kernel_rfl
theorem cal25 : callOk Tryz.prog 25 = true := by kernel_rfl
theorem cal28 : callOk Tryz.prog 28 = true := by kernel_rfl
theorem cal29 : callOk Tryz.prog 29 = true := by kernel_rfl
end Go.Proofs.YtmcddmhkjcgneaaGreatDoor

/- Closed facts on the types and functions of this seat. -/
set_option linter.unusedVariables false
set_option linter.unusedSimpArgs false
namespace Go.Proofs.YtmcddmhkjcgneaaGreatDoor
open Go.Bil
open Go.Proofs
theorem cal23 : callOk Tryz.prog 23 = true := by kernel_rfl
theorem cal24 : callOk Tryz.prog 24 = true := by kernel_rfl
theorem leaves63 : leaves Tryz.prog 4 63 = some [.u32, .u32, .i32, .i32, .i32] := by kernel_rfl
theorem cal27 : callOk Tryz.prog 27 = true := by kernel_rfl
theorem leaves30 : leaves Tryz.prog 2 30 = some [.u32] := by kernel_rfl
end Go.Proofs.YtmcddmhkjcgneaaGreatDoor

/- Walks of Go functions over the frame of this claim: what each computes, for every input of the stated types (R5). -/
set_option linter.unusedVariables false
set_option linter.unusedSimpArgs false
set_option linter.unnecessarySimpa false
namespace Go.Proofs.YtmcddmhkjcgneaaGreatDoor
open Go.Bil
open Go.RowKit (Below)
open Go.Proofs

set_option maxHeartbeats 4000000 in
theorem ref05_In (w : World) (n l : Int) (h0 : 0 ≤ l) (h1 : l ≤ 2147483647) :
    Calls Tryz.prog 85 #[.int .i32 n, .int .i32 l] w (fun ex w' => ∃ v, ex = .returned v ∧ (fun v w' => v = .bool (decide (inR n l)) ∧ Below w.heap.size w w') v w') := by
  have hneg : IntKind.i32.wrap (-l) = -l := wr32 _ (by omega) (by omega)
  refine calls_of_W #[.tmp 4] 14 Tryz.func85 rfl Tryz.results85 Tryz.ntmps85 rfl ?_
  have M0 := Mem.refl w
  refine W_seq ?_
  refine W_region ?_
  refine wl_q (r_assign (.bool false) rfl) rfl rfl ?_
  refine wl_nil ?_
  refine thenN ?_
  refine W_seq ?_
  refine W_region ?_
  refine wl_q (r_move (.int _ _) rfl) rfl rfl ?_
  refine wl_q (r_move (.int _ _) rfl) rfl rfl ?_
  refine wl_q (r_neg rfl) rfl rfl ?_
  refine wl_re 7 (.int .i32 (-l)) (iE hneg) ?_
  refine wl_q (r_bin (.bool (decide _)) rfl rfl rfl) rfl rfl ?_
  refine wl_q (r_move (.bool (decide _)) rfl) rfl rfl ?_
  refine wl_splitD 9 rfl (fun g9 => ?_) (fun g9 => ?_)
  · skip
    refine wl_q (r_move (.int _ _) rfl) rfl rfl ?_
    refine wl_q (r_move (.int _ _) rfl) rfl rfl ?_
    refine wl_q (r_bin (.bool (decide _)) rfl rfl rfl) rfl rfl ?_
    refine wl_q (r_pick true (.bool (decide _)) rfl rfl) rfl rfl ?_
    refine wl_q (r_assign (.bool (decide _)) rfl) rfl rfl ?_
    refine wl_nil ?_
    refine thenN ?_
    refine W_ret ?_
    skip
    refine fin1 (.bool (decide _)) rfl ?_
    exact ⟨by unfold inR; first | exact bF (by omega) | exact bD (by omega), M0.below⟩
  · skip
    refine wl_skip rfl rfl ?_
    refine wl_skip rfl rfl ?_
    refine wl_skip rfl rfl ?_
    refine wl_q (r_pick false (.bool false) rfl rfl) rfl rfl ?_
    refine wl_q (r_assign (.bool false) rfl) rfl rfl ?_
    refine wl_nil ?_
    refine thenN ?_
    refine W_ret ?_
    skip
    refine fin1 (.bool false) rfl ?_
    exact ⟨by unfold inR; first | exact bF (by omega) | exact bD (by omega), M0.below⟩

set_option maxHeartbeats 4000000 in
theorem ref05_Check (w : World) (b : Body) :
    Calls Tryz.prog 70 #[(.agg (bodyCells b).toArray)] w (fun ex w' => ∃ v, ex = .returned v ∧ (fun v w' => v = .int .i64 (check b) ∧ Below w.heap.size w w') v w') := by
  refine calls_of_W #[.tmp 2] 63 Tryz.func70 rfl Tryz.results70 Tryz.ntmps70 rfl ?_
  have M0 := Mem.refl w
  refine W_seq ?_
  refine W_region ?_
  refine wl_box (.agg (List.toArray _)) M0 rfl rfl rfl (fun b1 w1 M1 => ?_)
  refine wl_q (r_assign (.int _ _) rfl) rfl rfl ?_
  refine wl_nil ?_
  refine thenN ?_
  refine W_seq ?_
  refine W_seq ?_
  refine W_region ?_
  refine wl_q (r_fieldAddr 1 fld32_1 rfl) rfl rfl ?_
  refine wl_q (r_ld 0 (.int _ _) one21 M1 rfl rfl rfl) rfl rfl ?_
  refine wl_q (r_bin (.bool (decide _)) rfl rfl rfl) rfl rfl ?_
  refine wl_q (r_move (.bool (decide _)) rfl) rfl rfl ?_
  refine wl_splitD 6 rfl (fun g6 => ?_) (fun g6 => ?_)
  · skip
    refine wl_skip rfl rfl ?_
    refine wl_skip rfl rfl ?_
    refine wl_skip rfl rfl ?_
    refine wl_q (r_pick true (.bool true) rfl rfl) rfl rfl ?_
    refine wl_nil ?_
    refine thenN ?_
    refine W_condT rfl ?_
    refine W_seq ?_
    refine W_region ?_
    refine wl_q (r_assign (.int _ _) rfl) rfl rfl ?_
    refine wl_nil ?_
    refine thenN ?_
    refine W_ret ?_
    refine thenR ?_
    skip
    refine fin1 (.int _ _) rfl ?_
    exact ⟨iE (by unfold check; unfold inR at *; (repeat' split) <;> omega), M1.below⟩
  · skip
    refine wl_q (r_fieldAddr 1 fld32_1 rfl) rfl rfl ?_
    refine wl_q (r_ld 0 (.int _ _) one21 M1 rfl rfl rfl) rfl rfl ?_
    refine wl_q (r_bin (.bool (decide _)) rfl rfl rfl) rfl rfl ?_
    refine wl_q (r_pick false (.bool (decide _)) rfl rfl) rfl rfl ?_
    refine wl_nil ?_
    refine thenN ?_
    refine W_condD rfl (fun h10 => ?_) (fun h10 => ?_)
    · skip
      refine W_seq ?_
      refine W_region ?_
      refine wl_q (r_assign (.int _ _) rfl) rfl rfl ?_
      refine wl_nil ?_
      refine thenN ?_
      refine W_ret ?_
      refine thenR ?_
      skip
      refine fin1 (.int _ _) rfl ?_
      exact ⟨iE (by unfold check; unfold inR at *; (repeat' split) <;> omega), M1.below⟩
    · skip
      refine W_skip ?_
      refine thenN ?_
      refine W_seq ?_
      refine W_seq ?_
      refine W_region ?_
      refine wl_q (r_fieldAddr 2 fld32_2 rfl) rfl rfl ?_
      refine wl_q (r_fieldAddr 0 fld29_0 rfl) rfl rfl ?_
      refine wl_q (r_ld 0 (.int _ _) one21 M1 rfl rfl rfl) rfl rfl ?_
      refine wl_cal cal85 rfl rfl rfl ?_
      refine (ref05_In _ _ _ (by omega) (by omega)).mono ?_
      rintro _ w2 ⟨v2, rfl, ⟨rfl, hb2⟩⟩
      refine ⟨_, rfl, ?_⟩
      have M2 := M1.callB hb2
      refine wl_q (r_not rfl) rfl rfl ?_
      refine wl_q (r_move (.bool (decide _)) rfl) rfl rfl ?_
      refine wl_splitD 16 rfl (fun g16 => ?_) (fun g16 => ?_)
      · skip
        refine wl_skip rfl rfl ?_
        refine wl_skip rfl rfl ?_
        refine wl_skip rfl rfl ?_
        refine wl_skip rfl rfl ?_
        refine wl_skip rfl rfl ?_
        refine wl_q (r_pick true (.bool true) rfl rfl) rfl rfl ?_
        refine wl_nil ?_
        refine thenN ?_
        refine W_condT rfl ?_
        refine W_seq ?_
        refine W_region ?_
        refine wl_q (r_assign (.int _ _) rfl) rfl rfl ?_
        refine wl_nil ?_
        refine thenN ?_
        refine W_ret ?_
        refine thenR ?_
        skip
        refine fin1 (.int _ _) rfl ?_
        exact ⟨iE (by unfold check; unfold inR at *; (repeat' split) <;> omega), M2.below⟩
      · skip
        refine wl_q (r_fieldAddr 2 fld32_2 rfl) rfl rfl ?_
        refine wl_q (r_fieldAddr 1 fld29_1 rfl) rfl rfl ?_
        refine wl_q (r_ld 0 (.int _ _) one21 M2 rfl rfl rfl) rfl rfl ?_
        refine wl_cal cal85 rfl rfl rfl ?_
        refine (ref05_In _ _ _ (by omega) (by omega)).mono ?_
        rintro _ w3 ⟨v3, rfl, ⟨rfl, hb3⟩⟩
        refine ⟨_, rfl, ?_⟩
        have M3 := M2.callB hb3
        refine wl_q (r_not rfl) rfl rfl ?_
        refine wl_q (r_pick false (.bool (decide _)) rfl rfl) rfl rfl ?_
        refine wl_nil ?_
        refine thenN ?_
        refine W_condD rfl (fun h22 => ?_) (fun h22 => ?_)
        · skip
          refine W_seq ?_
          refine W_region ?_
          refine wl_q (r_assign (.int _ _) rfl) rfl rfl ?_
          refine wl_nil ?_
          refine thenN ?_
          refine W_ret ?_
          refine thenR ?_
          skip
          refine fin1 (.int _ _) rfl ?_
          exact ⟨iE (by unfold check; unfold inR at *; (repeat' split) <;> omega), M3.below⟩
        · skip
          refine W_skip ?_
          refine thenN ?_
          refine W_seq ?_
          refine W_seq ?_
          refine W_region ?_
          refine wl_q (r_fieldAddr 4 fld32_3 rfl) rfl rfl ?_
          refine wl_q (r_ld 0 (.int _ _) one21 M3 rfl rfl rfl) rfl rfl ?_
          refine wl_q (r_bin (.bool (decide _)) rfl rfl rfl) rfl rfl ?_
          refine wl_q (r_move (.bool (decide _)) rfl) rfl rfl ?_
          refine wl_splitD 26 rfl (fun g26 => ?_) (fun g26 => ?_)
          · skip
            refine wl_skip rfl rfl ?_
            refine wl_skip rfl rfl ?_
            refine wl_skip rfl rfl ?_
            refine wl_q (r_pick true (.bool true) rfl rfl) rfl rfl ?_
            refine wl_nil ?_
            refine thenN ?_
            refine W_condT rfl ?_
            refine W_seq ?_
            refine W_region ?_
            refine wl_q (r_assign (.int _ _) rfl) rfl rfl ?_
            refine wl_nil ?_
            refine thenN ?_
            refine W_ret ?_
            refine thenR ?_
            skip
            refine fin1 (.int _ _) rfl ?_
            exact ⟨iE (by unfold check; unfold inR at *; (repeat' split) <;> omega), M3.below⟩
          · skip
            refine wl_q (r_fieldAddr 4 fld32_3 rfl) rfl rfl ?_
            refine wl_q (r_ld 0 (.int _ _) one21 M3 rfl rfl rfl) rfl rfl ?_
            refine wl_q (r_bin (.bool (decide _)) rfl rfl rfl) rfl rfl ?_
            refine wl_q (r_pick false (.bool (decide _)) rfl rfl) rfl rfl ?_
            refine wl_nil ?_
            refine thenN ?_
            refine W_condD rfl (fun h30 => ?_) (fun h30 => ?_)
            · skip
              refine W_seq ?_
              refine W_region ?_
              refine wl_q (r_assign (.int _ _) rfl) rfl rfl ?_
              refine wl_nil ?_
              refine thenN ?_
              refine W_ret ?_
              refine thenR ?_
              skip
              refine fin1 (.int _ _) rfl ?_
              exact ⟨iE (by unfold check; unfold inR at *; (repeat' split) <;> omega), M3.below⟩
            · skip
              refine W_skip ?_
              refine thenN ?_
              refine W_seq ?_
              refine W_seq ?_
              refine W_region ?_
              refine wl_q (r_fieldAddr 5 fld32_4 rfl) rfl rfl ?_
              refine wl_q (r_ld 0 (.int _ _) one21 M3 rfl rfl rfl) rfl rfl ?_
              refine wl_q (r_bin (.bool (decide _)) rfl rfl rfl) rfl rfl ?_
              refine wl_q (r_move (.bool (decide _)) rfl) rfl rfl ?_
              refine wl_splitD 34 rfl (fun g34 => ?_) (fun g34 => ?_)
              · skip
                refine wl_skip rfl rfl ?_
                refine wl_skip rfl rfl ?_
                refine wl_skip rfl rfl ?_
                refine wl_q (r_pick true (.bool true) rfl rfl) rfl rfl ?_
                refine wl_nil ?_
                refine thenN ?_
                refine W_condT rfl ?_
                refine W_seq ?_
                refine W_region ?_
                refine wl_q (r_assign (.int _ _) rfl) rfl rfl ?_
                refine wl_nil ?_
                refine thenN ?_
                refine W_ret ?_
                refine thenR ?_
                skip
                refine fin1 (.int _ _) rfl ?_
                exact ⟨iE (by unfold check; unfold inR at *; (repeat' split) <;> omega), M3.below⟩
              · skip
                refine wl_q (r_fieldAddr 5 fld32_4 rfl) rfl rfl ?_
                refine wl_q (r_ld 0 (.int _ _) one21 M3 rfl rfl rfl) rfl rfl ?_
                refine wl_q (r_bin (.bool (decide _)) rfl rfl rfl) rfl rfl ?_
                refine wl_q (r_pick false (.bool (decide _)) rfl rfl) rfl rfl ?_
                refine wl_nil ?_
                refine thenN ?_
                refine W_condD rfl (fun h38 => ?_) (fun h38 => ?_)
                · skip
                  refine W_seq ?_
                  refine W_region ?_
                  refine wl_q (r_assign (.int _ _) rfl) rfl rfl ?_
                  refine wl_nil ?_
                  refine thenN ?_
                  refine W_ret ?_
                  refine thenR ?_
                  skip
                  refine fin1 (.int _ _) rfl ?_
                  exact ⟨iE (by unfold check; unfold inR at *; (repeat' split) <;> omega), M3.below⟩
                · skip
                  refine W_skip ?_
                  refine thenN ?_
                  refine W_seq ?_
                  refine W_seq ?_
                  refine W_region ?_
                  refine wl_q (r_fieldAddr 6 fld32_5 rfl) rfl rfl ?_
                  refine wl_q (r_fieldAddr 0 fld29_0 rfl) rfl rfl ?_
                  refine wl_q (r_ld 0 (.int _ _) one21 M3 rfl rfl rfl) rfl rfl ?_
                  refine wl_cal cal85 rfl rfl rfl ?_
                  refine (ref05_In _ _ _ (by omega) (by omega)).mono ?_
                  rintro _ w4 ⟨v4, rfl, ⟨rfl, hb4⟩⟩
                  refine ⟨_, rfl, ?_⟩
                  have M4 := M3.callB hb4
                  refine wl_q (r_not rfl) rfl rfl ?_
                  refine wl_q (r_move (.bool (decide _)) rfl) rfl rfl ?_
                  refine wl_splitD 44 rfl (fun g44 => ?_) (fun g44 => ?_)
                  · skip
                    refine wl_skip rfl rfl ?_
                    refine wl_skip rfl rfl ?_
                    refine wl_skip rfl rfl ?_
                    refine wl_skip rfl rfl ?_
                    refine wl_skip rfl rfl ?_
                    refine wl_q (r_pick true (.bool true) rfl rfl) rfl rfl ?_
                    refine wl_nil ?_
                    refine thenN ?_
                    refine W_condT rfl ?_
                    refine W_seq ?_
                    refine W_region ?_
                    refine wl_q (r_assign (.int _ _) rfl) rfl rfl ?_
                    refine wl_nil ?_
                    refine thenN ?_
                    refine W_ret ?_
                    refine thenR ?_
                    skip
                    refine fin1 (.int _ _) rfl ?_
                    exact ⟨iE (by unfold check; unfold inR at *; (repeat' split) <;> omega), M4.below⟩
                  · skip
                    refine wl_q (r_fieldAddr 6 fld32_5 rfl) rfl rfl ?_
                    refine wl_q (r_fieldAddr 1 fld29_1 rfl) rfl rfl ?_
                    refine wl_q (r_ld 0 (.int _ _) one21 M4 rfl rfl rfl) rfl rfl ?_
                    refine wl_cal cal85 rfl rfl rfl ?_
                    refine (ref05_In _ _ _ (by omega) (by omega)).mono ?_
                    rintro _ w5 ⟨v5, rfl, ⟨rfl, hb5⟩⟩
                    refine ⟨_, rfl, ?_⟩
                    have M5 := M4.callB hb5
                    refine wl_q (r_not rfl) rfl rfl ?_
                    refine wl_q (r_pick false (.bool (decide _)) rfl rfl) rfl rfl ?_
                    refine wl_nil ?_
                    refine thenN ?_
                    refine W_condD rfl (fun h50 => ?_) (fun h50 => ?_)
                    · skip
                      refine W_seq ?_
                      refine W_region ?_
                      refine wl_q (r_assign (.int _ _) rfl) rfl rfl ?_
                      refine wl_nil ?_
                      refine thenN ?_
                      refine W_ret ?_
                      refine thenR ?_
                      skip
                      refine fin1 (.int _ _) rfl ?_
                      exact ⟨iE (by unfold check; unfold inR at *; (repeat' split) <;> omega), M5.below⟩
                    · skip
                      refine W_skip ?_
                      refine thenN ?_
                      refine W_seq ?_
                      refine W_seq ?_
                      refine W_region ?_
                      refine wl_q (r_fieldAddr 8 fld32_6 rfl) rfl rfl ?_
                      refine wl_q (r_fieldAddr 0 fld29_0 rfl) rfl rfl ?_
                      refine wl_q (r_ld 0 (.int _ _) one21 M5 rfl rfl rfl) rfl rfl ?_
                      refine wl_cal cal85 rfl rfl rfl ?_
                      refine (ref05_In _ _ _ (by omega) (by omega)).mono ?_
                      rintro _ w6 ⟨v6, rfl, ⟨rfl, hb6⟩⟩
                      refine ⟨_, rfl, ?_⟩
                      have M6 := M5.callB hb6
                      refine wl_q (r_not rfl) rfl rfl ?_
                      refine wl_q (r_move (.bool (decide _)) rfl) rfl rfl ?_
                      refine wl_splitD 56 rfl (fun g56 => ?_) (fun g56 => ?_)
                      · skip
                        refine wl_skip rfl rfl ?_
                        refine wl_skip rfl rfl ?_
                        refine wl_skip rfl rfl ?_
                        refine wl_skip rfl rfl ?_
                        refine wl_skip rfl rfl ?_
                        refine wl_q (r_pick true (.bool true) rfl rfl) rfl rfl ?_
                        refine wl_nil ?_
                        refine thenN ?_
                        refine W_condT rfl ?_
                        refine W_seq ?_
                        refine W_region ?_
                        refine wl_q (r_assign (.int _ _) rfl) rfl rfl ?_
                        refine wl_nil ?_
                        refine thenN ?_
                        refine W_ret ?_
                        refine thenR ?_
                        skip
                        refine fin1 (.int _ _) rfl ?_
                        exact ⟨iE (by unfold check; unfold inR at *; (repeat' split) <;> omega), M6.below⟩
                      · skip
                        refine wl_q (r_fieldAddr 8 fld32_6 rfl) rfl rfl ?_
                        refine wl_q (r_fieldAddr 1 fld29_1 rfl) rfl rfl ?_
                        refine wl_q (r_ld 0 (.int _ _) one21 M6 rfl rfl rfl) rfl rfl ?_
                        refine wl_cal cal85 rfl rfl rfl ?_
                        refine (ref05_In _ _ _ (by omega) (by omega)).mono ?_
                        rintro _ w7 ⟨v7, rfl, ⟨rfl, hb7⟩⟩
                        refine ⟨_, rfl, ?_⟩
                        have M7 := M6.callB hb7
                        refine wl_q (r_not rfl) rfl rfl ?_
                        refine wl_q (r_pick false (.bool (decide _)) rfl rfl) rfl rfl ?_
                        refine wl_nil ?_
                        refine thenN ?_
                        refine W_condD rfl (fun h62 => ?_) (fun h62 => ?_)
                        · skip
                          refine W_seq ?_
                          refine W_region ?_
                          refine wl_q (r_assign (.int _ _) rfl) rfl rfl ?_
                          refine wl_nil ?_
                          refine thenN ?_
                          refine W_ret ?_
                          refine thenR ?_
                          skip
                          refine fin1 (.int _ _) rfl ?_
                          exact ⟨iE (by unfold check; unfold inR at *; (repeat' split) <;> omega), M7.below⟩
                        · skip
                          refine W_skip ?_
                          refine thenN ?_
                          refine W_seq ?_
                          refine W_region ?_
                          refine wl_q (r_assign (.int _ _) rfl) rfl rfl ?_
                          refine wl_nil ?_
                          refine thenN ?_
                          refine W_ret ?_
                          skip
                          refine fin1 (.int _ _) rfl ?_
                          exact ⟨iE (by unfold check; unfold inR at *; (repeat' split) <;> omega), M7.below⟩

end Go.Proofs.YtmcddmhkjcgneaaGreatDoor

/- Walks of Go functions over the frame of this claim: what each computes, for every input of the stated types (Bd). -/
set_option linter.unusedVariables false
set_option linter.unusedSimpArgs false
set_option linter.unnecessarySimpa false
namespace Go.Proofs.YtmcddmhkjcgneaaGreatDoor
open Go.Bil
open Go.RowKit (Below)
open Go.Proofs

end Go.Proofs.YtmcddmhkjcgneaaGreatDoor

/- Walks of Go functions over the frame of this claim: what each computes, for every input of the stated types (R6). -/
set_option linter.unusedVariables false
set_option linter.unusedSimpArgs false
set_option linter.unnecessarySimpa false
namespace Go.Proofs.YtmcddmhkjcgneaaGreatDoor
open Go.Bil
open Go.RowKit (Below)
open Go.Proofs

set_option maxHeartbeats 4000000 in
theorem ref06_Find (w : World) (key : Int) (A : Option Addr) (n c : Nat) (xs : List Body) (R : Rd w 10 A n (xs.map bodyCells)) :
    Calls Tryz.prog 48 #[.slice A n c, .int .u32 key] w (fun ex w' => ∃ v, ex = .returned v ∧ (fun v w' => v = .int .i64 (findI key xs) ∧ Below w.heap.size w w') v w') := by
  have hlen : xs.length = n := by simpa using R.len
  have hbd := R.bound
  refine calls_of_W #[.tmp 4] 20 Tryz.func48 rfl Tryz.results48 Tryz.ntmps48 rfl ?_
  have M0 := Mem.refl w
  refine W_seq ?_
  refine W_region ?_
  refine wl_q (r_assign (.int _ _) rfl) rfl rfl ?_
  refine wl_nil ?_
  refine thenN ?_
  refine W_seq ?_
  refine W_seq ?_
  refine W_region ?_
  refine wl_q (r_assign (.int _ _) rfl) rfl rfl ?_
  refine wl_nil ?_
  refine thenN ?_
  refine W_block ?_
  refine W_loop (σ := Nat) [0, 1] (fun k => [(5, .int .i64 (k : Int))]) (fun k w' => (k ≤ n ∧ ∀ (j : Nat) (c : Body), j < k → xs[j]? = some c → c.key ≠ key) ∧ Mem w [] [] w') (fun k => n - k) 0 (agC rfl agN) (⟨⟨by omega, fun j c hj => by omega⟩, M0⟩) ?_
  rintro k ρ1 w1 ⟨⟨hk, hne⟩, hM1⟩
  refine W_seq ?_
  refine W_seq ?_
  refine W_region ?_
  refine wl_q (r_move (.int _ _) rfl) rfl rfl ?_
  refine wl_q (r_move (.slice _ _ _) rfl) rfl rfl ?_
  refine wl_q (r_lenS Tryz.underlying22 rfl) rfl rfl ?_
  refine wl_q (r_bin (.bool (decide _)) rfl rfl rfl) rfl rfl ?_
  refine wl_nil ?_
  refine thenN ?_
  refine W_condD rfl (fun h9 => ?_) (fun h9 => ?_)
  · skip
    obtain ⟨xb, hxb⟩ := getSome (k := k) hlen (by omega)
    refine W_skip ?_
    refine thenN ?_
    refine W_seq ?_
    refine W_block ?_
    refine W_seq ?_
    refine W_region ?_
    refine wl_q (r_move (.slice _ _ _) rfl) rfl rfl ?_
    refine wl_q (r_move (.int _ _) rfl) rfl rfl ?_
    refine wl_q (r_idxR (k) sl22 rfl rfl rfl ((R.mem hM1).below_len (mapGet bodyCells hxb)) ((R.mem hM1).someK (mapGet bodyCells hxb))) rfl rfl ?_
    refine wl_q (r_fieldAddrE 0 fld32_0 (R.mem hM1) (Nat.lt_of_le_of_lt (Nat.zero_le _) ((R.mem hM1).below_len (mapGet bodyCells hxb))) rfl) rfl rfl ?_
    refine wl_q (r_ldE (o := 0) (.int _ _) one30 (R.mem hM1) (mapGet bodyCells hxb) rfl rfl) rfl rfl ?_
    refine wl_q (r_move (.int _ _) rfl) rfl rfl ?_
    refine wl_q (r_bin (.bool (decide _)) rfl rfl rfl) rfl rfl ?_
    refine wl_nil ?_
    refine thenN ?_
    refine W_condD rfl (fun h18 => ?_) (fun h18 => ?_)
    · skip
      refine W_seq ?_
      refine W_region ?_
      refine wl_q (r_move (.int _ _) rfl) rfl rfl ?_
      refine wl_q (r_assign (.int _ _) rfl) rfl rfl ?_
      refine wl_nil ?_
      refine thenN ?_
      refine W_ret ?_
      refine blkR ?_
      refine thenR ?_
      refine roundR ?_
      refine blkR ?_
      refine thenR ?_
      skip
      refine fin1 (.int _ _) rfl ?_
      exact ⟨iE (findI_at hxb h18 hne).symm, hM1.below⟩
    · skip
      refine W_skip ?_
      refine blkN ?_
      refine thenN ?_
      refine W_region ?_
      refine wl_q (r_move (.int _ _) rfl) rfl rfl ?_
      refine wl_q (r_add rfl rfl (by omega) (by omega)) rfl rfl ?_
      refine wl_q (r_assign (.int _ _) rfl) rfl rfl ?_
      refine wl_nil ?_
      refine roundN (k + 1) (agC rfl agN) (akC rfl (akC rfl akN)) ?_ ?_
      · exact ⟨⟨by omega, allNext hne hxb h18⟩, hM1⟩
      · omega
  · skip
    refine W_exit ?_
    refine thenX ?_
    refine roundX ?_
    refine blkH ?_
    refine thenN ?_
    refine W_seq ?_
    refine W_region ?_
    refine wl_q (r_assign (.int _ _) rfl) rfl rfl ?_
    refine wl_nil ?_
    refine thenN ?_
    refine W_ret ?_
    skip
    refine fin1 (.int _ _) rfl ?_
    have hkn : k = n := by omega
    exact ⟨iE (findI_neg (fun j b hj => hne j b (by have := (List.getElem?_eq_some_iff.1 hj).1; omega) hj)).symm, hM1.below⟩

set_option maxHeartbeats 4000000 in
theorem ref06_Put (w : World) (b : Body) (gone : Bool) (A : Option Addr) (n c : Nat) (xs : List Body) (R : Rd w 10 A n (xs.map bodyCells)) (hn : n ≤ 1048576) :
    Calls Tryz.prog 86 #[.slice A n c, (.agg (bodyCells b).toArray), .bool gone] w (fun ex w' => ∃ v, ex = .returned v ∧ (fun v w' => ∃ A' n' c' e, v = .slice A' n' c' ∧ RowIs 32 10 A' n' c' ((putB xs b gone).map bodyCells) e ∧ Mem w [] [e] w') v w') := by
  have hlen : xs.length = n := by simpa using R.len
  have hbd := R.bound
  refine calls_of_W #[.tmp 6] 55 Tryz.func86 rfl Tryz.results86 Tryz.ntmps86 rfl ?_
  have M0 := Mem.refl w
  refine W_seq ?_
  refine W_region ?_
  refine wl_box (.agg (List.toArray _)) M0 rfl rfl rfl (fun b1 w1 M1 => ?_)
  refine wl_q (r_assign (.slice _ _ _) rfl) rfl rfl ?_
  refine wl_nil ?_
  refine thenN ?_
  refine W_seq ?_
  refine W_region ?_
  refine wl_q (r_assign (.slice _ _ _) rfl) rfl rfl ?_
  have M2 := M1.dummy default
  refine wl_nil ?_
  refine thenN ?_
  refine W_seq ?_
  refine W_region ?_
  refine wl_q (r_move (.bool _) rfl) rfl rfl ?_
  refine wl_q (r_assign (.bool _) rfl) rfl rfl ?_
  refine wl_nil ?_
  refine thenN ?_
  refine W_seq ?_
  refine W_seq ?_
  refine W_region ?_
  refine wl_q (r_assign (.int _ _) rfl) rfl rfl ?_
  refine wl_nil ?_
  refine thenN ?_
  refine W_block ?_
  refine W_loop (σ := Nat × List Body × Bool × Row) [0, 4, 6] (fun (k, acc, done, r) => [(7, .slice r.A r.n r.c), (8, .bool done), (9, .int .i64 (k : Int))]) (fun (k, acc, done, r) w' => (k ≤ n ∧ putAll b gone (xs.take k) = (acc, done) ∧ RowIs 32 10 r.A r.n r.c (acc.map bodyCells) r.e) ∧ Mem w [] [(some b1, bc (bodyCells b) 32), r.e] w') (fun (k, acc, done, r) => n - k) (0, [], gone, ⟨none, 0, 0, (none, default)⟩) (agC rfl (agC rfl (agC rfl agN))) (⟨⟨by omega, rfl, RowIs.nil _ _ _⟩, M2⟩) ?_
  rintro ⟨k, acc, done, r⟩ ρ3 w3 ⟨⟨hk, heq, hr⟩, hM3⟩
  have hra : acc.length = r.n := by simpa using hr.1
  have hrl : acc.length ≤ k + 1 := by have h := putAll_len b gone xs k; rw [heq] at h; exact h
  refine W_seq ?_
  refine W_seq ?_
  refine W_region ?_
  refine wl_q (r_move (.int _ _) rfl) rfl rfl ?_
  refine wl_q (r_move (.slice _ _ _) rfl) rfl rfl ?_
  refine wl_q (r_lenS Tryz.underlying22 rfl) rfl rfl ?_
  refine wl_q (r_bin (.bool (decide _)) rfl rfl rfl) rfl rfl ?_
  refine wl_nil ?_
  refine thenN ?_
  refine W_condD rfl (fun h14 => ?_) (fun h14 => ?_)
  · skip
    obtain ⟨xb, hxb⟩ := getSome (k := k) hlen (by omega)
    refine W_skip ?_
    refine thenN ?_
    refine W_seq ?_
    refine W_block ?_
    refine W_seq ?_
    refine W_seq ?_
    refine W_draw [(0, 0), (1, 0), (2, 0), (3, 0), (4, 0), (5, 1), (6, 1), (7, 1), (8, 0), (9, 1), (10, 0), (11, 0)] mixed rfl (by kernel_rfl) (fun w4 hb4 hh4 => ?_)
    have M4 := hM3.drew hb4 hh4
    refine D_p rfl rfl rfl (fun _ => r_move (.bool _) rfl) ?_
    refine D_p rfl rfl rfl (fun _ => r_notB _ rfl rfl) ?_
    refine D_p rfl rfl rfl (fun _ => r_move (.bool _) rfl) ?_
    refine D_split 19 _ rfl (fun g19 => ?_) (fun g19 => ?_)
    · skip
      have hd : done = false := by simpa using g19
      refine D_p rfl rfl rfl (fun _ => r_move (.slice _ _ _) rfl) ?_
      refine D_p rfl rfl rfl (fun _ => r_move (.int _ _) rfl) ?_
      refine D_r rfl rfl rfl (r_idxR (k) sl22 rfl rfl rfl ((R.mem M4).below_len (mapGet bodyCells hxb)) ((R.mem M4).someK (mapGet bodyCells hxb))) ?_
      refine D_r rfl rfl rfl (r_fieldAddrE 0 fld32_0 (R.mem M4) (Nat.lt_of_le_of_lt (Nat.zero_le _) ((R.mem M4).below_len (mapGet bodyCells hxb))) rfl) ?_
      refine D_r rfl rfl rfl (r_ldE (o := 0) (.int _ _) one30 (R.mem M4) (mapGet bodyCells hxb) rfl rfl) ?_
      refine D_p rfl rfl rfl (fun _ => r_fieldAddr 0 fld32_0 rfl) ?_
      refine D_r rfl rfl rfl (r_ld 0 (.int _ _) one30 M4 rfl rfl rfl) ?_
      refine D_p rfl rfl rfl (fun _ => r_bin (.bool (decide _)) rfl rfl rfl) ?_
      refine D_p rfl rfl rfl (fun _ => r_pick true (.bool (decide _)) rfl rfl) ?_
      refine D_nil ?_
      refine thenN ?_
      refine W_condD rfl (fun h28 => ?_) (fun h28 => ?_)
      · skip
        refine W_seq ?_
        refine W_region ?_
        refine wl_q (r_assign (.bool true) rfl) rfl rfl ?_
        refine wl_nil ?_
        refine thenN ?_
        refine W_region ?_
        refine wl_q (r_move (.slice _ _ _) rfl) rfl rfl ?_
        refine wl_q (r_ldW 0 agg32 M4 rfl rfl rfl) rfl rfl ?_
        refine wl_bslice [.agg (List.toArray _)] _ rfl sl22 M4 rfl rfl rfl rfl (lens_of rfl) (by decide) (fun b5 w5 M5 => ?_)
        refine wl_append 1 [bodyCells b] sl22 M5 rfl rfl rfl rfl rfl hr rfl (by simpa using ⟨bodyCells_len b, bodyCells_one b⟩) (Cells.ofMem 2 M5 rfl) (by omega) (fun A6 c6 e6 w6 M6 hR6 => ?_)
        refine wl_q (r_assign (.slice _ _ _) rfl) rfl rfl ?_
        refine wl_nil ?_
        refine thenN ?_
        refine W_seq ?_
        refine W_draw [(0, 0), (1, 0), (2, 1), (3, 1), (4, 1), (5, 0), (6, 1), (7, 0)] mixed rfl (by kernel_rfl) (fun w7 hb7 hh7 => ?_)
        have M7 := M6.drew hb7 hh7
        refine D_p rfl rfl rfl (fun _ => r_move (.slice _ _ _) rfl) ?_
        refine D_p rfl rfl rfl (fun _ => r_move (.int _ _) rfl) ?_
        refine D_r rfl rfl rfl (r_idxR (k) sl22 rfl rfl rfl ((R.mem M7).below_len (mapGet bodyCells hxb)) ((R.mem M7).someK (mapGet bodyCells hxb))) ?_
        refine D_r rfl rfl rfl (r_fieldAddrE 0 fld32_0 (R.mem M7) (Nat.lt_of_le_of_lt (Nat.zero_le _) ((R.mem M7).below_len (mapGet bodyCells hxb))) rfl) ?_
        refine D_r rfl rfl rfl (r_ldE (o := 0) (.int _ _) one30 (R.mem M7) (mapGet bodyCells hxb) rfl rfl) ?_
        refine D_p rfl rfl rfl (fun _ => r_fieldAddr 0 fld32_0 rfl) ?_
        refine D_r rfl rfl rfl (r_ld 0 (.int _ _) one30 M7 rfl rfl rfl) ?_
        refine D_p rfl rfl rfl (fun _ => r_bin (.bool (decide _)) rfl rfl rfl) ?_
        refine D_nil ?_
        refine thenN ?_
        refine W_condD rfl (fun h40 => ?_) (fun h40 => ?_)
        · skip
          refine W_region ?_
          refine wl_q (r_move (.slice _ _ _) rfl) rfl rfl ?_
          refine wl_q (r_move (.slice _ _ _) rfl) rfl rfl ?_
          refine wl_q (r_move (.int _ _) rfl) rfl rfl ?_
          refine wl_q (r_idxR (k) sl22 rfl rfl rfl ((R.mem M7).below_len (mapGet bodyCells hxb)) ((R.mem M7).someK (mapGet bodyCells hxb))) rfl rfl ?_
          refine wl_q (r_ldEA _ agg32 (R.mem M7) (mapGet bodyCells hxb) rfl) rfl rfl ?_
          refine wl_bslice [.agg (List.toArray _)] _ rfl sl22 M7 rfl rfl rfl rfl (lens_of rfl) (by decide) (fun b8 w8 M8 => ?_)
          refine wl_append 1 [bodyCells xb] sl22 M8 rfl rfl rfl rfl rfl hR6 rfl (by simpa using ⟨bodyCells_len xb, bodyCells_one xb⟩) (Cells.ofMem 3 M8 rfl) (by omega) (fun A9 c9 e9 w9 M9 hR9 => ?_)
          refine wl_q (r_assign (.slice _ _ _) rfl) rfl rfl ?_
          refine wl_nil ?_
          refine blkN ?_
          refine thenN ?_
          refine W_region ?_
          refine wl_q (r_move (.int _ _) rfl) rfl rfl ?_
          refine wl_q (r_add rfl rfl (by omega) (by omega)) rfl rfl ?_
          refine wl_q (r_assign (.int _ _) rfl) rfl rfl ?_
          refine wl_nil ?_
          refine roundN (k + 1, (putAll b gone (xs.take (k + 1))).1, (putAll b gone (xs.take (k + 1))).2, ⟨A9, r.n + 1 + 1, c9, e9⟩) (agC rfl (agC (bv rfl (by rw [putAll_snoc b gone hxb, heq]; simp [putStep, *])) (agC rfl agN))) (akC rfl (akC rfl (akC rfl akN))) ?_ ?_
          · exact ⟨⟨by omega, rfl, by rw [putAll_snoc b gone hxb, heq]; simpa [putStep, *] using hR9⟩, M9.keep [true, true, false, false]⟩
          · (show n - (k + 1) < n - k; omega)
        · skip
          refine W_skip ?_
          refine blkN ?_
          refine thenN ?_
          refine W_region ?_
          refine wl_q (r_move (.int _ _) rfl) rfl rfl ?_
          refine wl_q (r_add rfl rfl (by omega) (by omega)) rfl rfl ?_
          refine wl_q (r_assign (.int _ _) rfl) rfl rfl ?_
          refine wl_nil ?_
          refine roundN (k + 1, (putAll b gone (xs.take (k + 1))).1, (putAll b gone (xs.take (k + 1))).2, ⟨A6, r.n + 1, c6, e6⟩) (agC rfl (agC (bv rfl (by rw [putAll_snoc b gone hxb, heq]; simp [putStep, *])) (agC rfl agN))) (akC rfl (akC rfl (akC rfl akN))) ?_ ?_
          · exact ⟨⟨by omega, rfl, by rw [putAll_snoc b gone hxb, heq]; simpa [putStep, *] using hR6⟩, M7.keep [true, true, false]⟩
          · (show n - (k + 1) < n - k; omega)
      · skip
        refine W_skip ?_
        refine thenN ?_
        refine W_seq ?_
        refine W_draw [(0, 0), (1, 0), (2, 1), (3, 1), (4, 1), (5, 0), (6, 1), (7, 0)] mixed rfl (by kernel_rfl) (fun w10 hb10 hh10 => ?_)
        have M10 := M4.drew hb10 hh10
        refine D_p rfl rfl rfl (fun _ => r_move (.slice _ _ _) rfl) ?_
        refine D_p rfl rfl rfl (fun _ => r_move (.int _ _) rfl) ?_
        refine D_r rfl rfl rfl (r_idxR (k) sl22 rfl rfl rfl ((R.mem M10).below_len (mapGet bodyCells hxb)) ((R.mem M10).someK (mapGet bodyCells hxb))) ?_
        refine D_r rfl rfl rfl (r_fieldAddrE 0 fld32_0 (R.mem M10) (Nat.lt_of_le_of_lt (Nat.zero_le _) ((R.mem M10).below_len (mapGet bodyCells hxb))) rfl) ?_
        refine D_r rfl rfl rfl (r_ldE (o := 0) (.int _ _) one30 (R.mem M10) (mapGet bodyCells hxb) rfl rfl) ?_
        refine D_p rfl rfl rfl (fun _ => r_fieldAddr 0 fld32_0 rfl) ?_
        refine D_r rfl rfl rfl (r_ld 0 (.int _ _) one30 M10 rfl rfl rfl) ?_
        refine D_p rfl rfl rfl (fun _ => r_bin (.bool (decide _)) rfl rfl rfl) ?_
        refine D_nil ?_
        refine thenN ?_
        refine W_condD rfl (fun h40 => ?_) (fun h40 => ?_)
        · skip
          refine W_region ?_
          refine wl_q (r_move (.slice _ _ _) rfl) rfl rfl ?_
          refine wl_q (r_move (.slice _ _ _) rfl) rfl rfl ?_
          refine wl_q (r_move (.int _ _) rfl) rfl rfl ?_
          refine wl_q (r_idxR (k) sl22 rfl rfl rfl ((R.mem M10).below_len (mapGet bodyCells hxb)) ((R.mem M10).someK (mapGet bodyCells hxb))) rfl rfl ?_
          refine wl_q (r_ldEA _ agg32 (R.mem M10) (mapGet bodyCells hxb) rfl) rfl rfl ?_
          refine wl_bslice [.agg (List.toArray _)] _ rfl sl22 M10 rfl rfl rfl rfl (lens_of rfl) (by decide) (fun b11 w11 M11 => ?_)
          refine wl_append 1 [bodyCells xb] sl22 M11 rfl rfl rfl rfl rfl hr rfl (by simpa using ⟨bodyCells_len xb, bodyCells_one xb⟩) (Cells.ofMem 2 M11 rfl) (by omega) (fun A12 c12 e12 w12 M12 hR12 => ?_)
          refine wl_q (r_assign (.slice _ _ _) rfl) rfl rfl ?_
          refine wl_nil ?_
          refine blkN ?_
          refine thenN ?_
          refine W_region ?_
          refine wl_q (r_move (.int _ _) rfl) rfl rfl ?_
          refine wl_q (r_add rfl rfl (by omega) (by omega)) rfl rfl ?_
          refine wl_q (r_assign (.int _ _) rfl) rfl rfl ?_
          refine wl_nil ?_
          refine roundN (k + 1, (putAll b gone (xs.take (k + 1))).1, (putAll b gone (xs.take (k + 1))).2, ⟨A12, r.n + 1, c12, e12⟩) (agC rfl (agC (bv rfl (by rw [putAll_snoc b gone hxb, heq]; simp [putStep, *])) (agC rfl agN))) (akC rfl (akC rfl (akC rfl akN))) ?_ ?_
          · exact ⟨⟨by omega, rfl, by rw [putAll_snoc b gone hxb, heq]; simpa [putStep, *] using hR12⟩, M12.keep [true, true, false]⟩
          · (show n - (k + 1) < n - k; omega)
        · skip
          refine W_skip ?_
          refine blkN ?_
          refine thenN ?_
          refine W_region ?_
          refine wl_q (r_move (.int _ _) rfl) rfl rfl ?_
          refine wl_q (r_add rfl rfl (by omega) (by omega)) rfl rfl ?_
          refine wl_q (r_assign (.int _ _) rfl) rfl rfl ?_
          refine wl_nil ?_
          refine roundN (k + 1, (putAll b gone (xs.take (k + 1))).1, (putAll b gone (xs.take (k + 1))).2, r) (agC rfl (agC (bv rfl (by rw [putAll_snoc b gone hxb, heq]; simp [putStep, *])) (agC rfl agN))) (akC rfl (akC rfl (akC rfl akN))) ?_ ?_
          · exact ⟨⟨by omega, rfl, by rw [putAll_snoc b gone hxb, heq]; simpa [putStep, *] using hr⟩, M10.keep [true, true]⟩
          · (show n - (k + 1) < n - k; omega)
    · skip
      have hd : done = true := by simpa using g19
      refine D_s rfl rfl rfl ?_
      refine D_s rfl rfl rfl ?_
      refine D_s1 rfl rfl rfl ?_
      refine D_s1 rfl rfl rfl ?_
      refine D_s1 rfl rfl rfl ?_
      refine D_s rfl rfl rfl ?_
      refine D_s1 rfl rfl rfl ?_
      refine D_s rfl rfl rfl ?_
      refine D_p rfl rfl rfl (fun _ => r_pick false (.bool false) rfl rfl) ?_
      refine D_nil ?_
      refine thenN ?_
      refine W_condF rfl ?_
      refine W_skip ?_
      refine thenN ?_
      refine W_seq ?_
      refine W_draw [(0, 0), (1, 0), (2, 1), (3, 1), (4, 1), (5, 0), (6, 1), (7, 0)] mixed rfl (by kernel_rfl) (fun w13 hb13 hh13 => ?_)
      have M13 := M4.drew hb13 hh13
      refine D_p rfl rfl rfl (fun _ => r_move (.slice _ _ _) rfl) ?_
      refine D_p rfl rfl rfl (fun _ => r_move (.int _ _) rfl) ?_
      refine D_r rfl rfl rfl (r_idxR (k) sl22 rfl rfl rfl ((R.mem M13).below_len (mapGet bodyCells hxb)) ((R.mem M13).someK (mapGet bodyCells hxb))) ?_
      refine D_r rfl rfl rfl (r_fieldAddrE 0 fld32_0 (R.mem M13) (Nat.lt_of_le_of_lt (Nat.zero_le _) ((R.mem M13).below_len (mapGet bodyCells hxb))) rfl) ?_
      refine D_r rfl rfl rfl (r_ldE (o := 0) (.int _ _) one30 (R.mem M13) (mapGet bodyCells hxb) rfl rfl) ?_
      refine D_p rfl rfl rfl (fun _ => r_fieldAddr 0 fld32_0 rfl) ?_
      refine D_r rfl rfl rfl (r_ld 0 (.int _ _) one30 M13 rfl rfl rfl) ?_
      refine D_p rfl rfl rfl (fun _ => r_bin (.bool (decide _)) rfl rfl rfl) ?_
      refine D_nil ?_
      refine thenN ?_
      refine W_condD rfl (fun h40 => ?_) (fun h40 => ?_)
      · skip
        refine W_region ?_
        refine wl_q (r_move (.slice _ _ _) rfl) rfl rfl ?_
        refine wl_q (r_move (.slice _ _ _) rfl) rfl rfl ?_
        refine wl_q (r_move (.int _ _) rfl) rfl rfl ?_
        refine wl_q (r_idxR (k) sl22 rfl rfl rfl ((R.mem M13).below_len (mapGet bodyCells hxb)) ((R.mem M13).someK (mapGet bodyCells hxb))) rfl rfl ?_
        refine wl_q (r_ldEA _ agg32 (R.mem M13) (mapGet bodyCells hxb) rfl) rfl rfl ?_
        refine wl_bslice [.agg (List.toArray _)] _ rfl sl22 M13 rfl rfl rfl rfl (lens_of rfl) (by decide) (fun b14 w14 M14 => ?_)
        refine wl_append 1 [bodyCells xb] sl22 M14 rfl rfl rfl rfl rfl hr rfl (by simpa using ⟨bodyCells_len xb, bodyCells_one xb⟩) (Cells.ofMem 2 M14 rfl) (by omega) (fun A15 c15 e15 w15 M15 hR15 => ?_)
        refine wl_q (r_assign (.slice _ _ _) rfl) rfl rfl ?_
        refine wl_nil ?_
        refine blkN ?_
        refine thenN ?_
        refine W_region ?_
        refine wl_q (r_move (.int _ _) rfl) rfl rfl ?_
        refine wl_q (r_add rfl rfl (by omega) (by omega)) rfl rfl ?_
        refine wl_q (r_assign (.int _ _) rfl) rfl rfl ?_
        refine wl_nil ?_
        refine roundN (k + 1, (putAll b gone (xs.take (k + 1))).1, (putAll b gone (xs.take (k + 1))).2, ⟨A15, r.n + 1, c15, e15⟩) (agC rfl (agC (bv rfl (by rw [putAll_snoc b gone hxb, heq]; simp [putStep, *])) (agC rfl agN))) (akC rfl (akC rfl (akC rfl akN))) ?_ ?_
        · exact ⟨⟨by omega, rfl, by rw [putAll_snoc b gone hxb, heq]; simpa [putStep, *] using hR15⟩, M15.keep [true, true, false]⟩
        · (show n - (k + 1) < n - k; omega)
      · skip
        refine W_skip ?_
        refine blkN ?_
        refine thenN ?_
        refine W_region ?_
        refine wl_q (r_move (.int _ _) rfl) rfl rfl ?_
        refine wl_q (r_add rfl rfl (by omega) (by omega)) rfl rfl ?_
        refine wl_q (r_assign (.int _ _) rfl) rfl rfl ?_
        refine wl_nil ?_
        refine roundN (k + 1, (putAll b gone (xs.take (k + 1))).1, (putAll b gone (xs.take (k + 1))).2, r) (agC rfl (agC (bv rfl (by rw [putAll_snoc b gone hxb, heq]; simp [putStep, *])) (agC rfl agN))) (akC rfl (akC rfl (akC rfl akN))) ?_ ?_
        · exact ⟨⟨by omega, rfl, by rw [putAll_snoc b gone hxb, heq]; simpa [putStep, *] using hr⟩, M13.keep [true, true]⟩
        · (show n - (k + 1) < n - k; omega)
  · skip
    have hkn : k = n := by omega
    subst hkn
    rw [List.take_of_length_le (by omega)] at heq
    refine W_exit ?_
    refine thenX ?_
    refine roundX ?_
    refine blkH ?_
    refine thenN ?_
    refine W_seq ?_
    refine W_seq ?_
    refine W_region ?_
    refine wl_q (r_move (.bool _) rfl) rfl rfl ?_
    refine wl_q (r_notB _ rfl rfl) rfl rfl ?_
    refine wl_nil ?_
    refine thenN ?_
    refine W_cond _ rfl (fun h49 => ?_) (fun h49 => ?_)
    · skip
      have hd : done = false := by simpa using h49
      refine W_region ?_
      refine wl_q (r_move (.slice _ _ _) rfl) rfl rfl ?_
      refine wl_q (r_ldW 0 agg32 hM3 rfl rfl rfl) rfl rfl ?_
      refine wl_bslice [.agg (List.toArray _)] _ rfl sl22 hM3 rfl rfl rfl rfl (lens_of rfl) (by decide) (fun b16 w16 M16 => ?_)
      refine wl_append 1 [bodyCells b] sl22 M16 rfl rfl rfl rfl rfl hr rfl (by simpa using ⟨bodyCells_len b, bodyCells_one b⟩) (Cells.ofMem 2 M16 rfl) (by omega) (fun A17 c17 e17 w17 M17 hR17 => ?_)
      refine wl_q (r_assign (.slice _ _ _) rfl) rfl rfl ?_
      refine wl_nil ?_
      refine thenN ?_
      refine W_seq ?_
      refine W_region ?_
      refine wl_q (r_move (.slice _ _ _) rfl) rfl rfl ?_
      refine wl_q (r_assign (.slice _ _ _) rfl) rfl rfl ?_
      refine wl_nil ?_
      refine thenN ?_
      refine W_ret ?_
      skip
      refine fin1 (.slice _ _ _) rfl ?_
      exact ⟨_, _, _, _, rfl, by unfold putB; rw [heq]; simpa [*] using hR17, M17.keep [false, true, false]⟩
    · skip
      have hd : done = true := by simpa using h49
      refine W_skip ?_
      refine thenN ?_
      refine W_seq ?_
      refine W_region ?_
      refine wl_q (r_move (.slice _ _ _) rfl) rfl rfl ?_
      refine wl_q (r_assign (.slice _ _ _) rfl) rfl rfl ?_
      refine wl_nil ?_
      refine thenN ?_
      refine W_ret ?_
      skip
      refine fin1 (.slice _ _ _) rfl ?_
      exact ⟨_, _, _, _, rfl, by unfold putB; rw [heq]; simpa [*] using hr, hM3.keep [false, true]⟩

end Go.Proofs.YtmcddmhkjcgneaaGreatDoor

/- Walks of Go functions over the frame of this claim: what each computes, for every input of the stated types (Lib). -/
set_option linter.unusedVariables false
set_option linter.unusedSimpArgs false
set_option linter.unnecessarySimpa false
namespace Go.Proofs.YtmcddmhkjcgneaaGreatDoor
open Go.Bil
open Go.RowKit (Below)
open Go.Proofs

set_option maxHeartbeats 4000000 in
theorem cmp_isNaN32 (w : World) (x : Int) :
    Calls Tryz.prog 123 #[.int .u32 x] w (fun ex w' => ∃ v, ex = .returned v ∧ (fun v w' => v = .bool false ∧ w' = w) v w') := by
  refine calls_of_W #[.tmp 2] 6 Tryz.func123 rfl Tryz.results123 Tryz.ntmps123 rfl ?_
  have M0 := Mem.refl w
  refine W_seq ?_
  refine W_region ?_
  refine wl_q (r_assign (.bool false) rfl) rfl rfl ?_
  refine wl_nil ?_
  refine thenN ?_
  refine W_seq ?_
  refine W_region ?_
  refine wl_q (r_move (.int _ _) rfl) rfl rfl ?_
  refine wl_q (r_move (.int _ _) rfl) rfl rfl ?_
  refine wl_q (r_bin (.bool (decide _)) rfl rfl rfl) rfl rfl ?_
  refine wl_q (r_assign (.bool (decide _)) rfl) rfl rfl ?_
  refine wl_nil ?_
  refine thenN ?_
  refine W_ret ?_
  skip
  refine fin1 (.bool (decide _)) rfl ?_
  exact ⟨(bF (by omega)).symm, rfl⟩

set_option maxHeartbeats 4000000 in
theorem cmp_Compare32 (w : World) (x y : Int) :
    Calls Tryz.prog 109 #[.int .u32 x, .int .u32 y] w (fun ex w' => ∃ v, ex = .returned v ∧ (fun v w' => v = .int .i64 (cmpI x y) ∧ w' = w) v w') := by
  refine calls_of_W #[.tmp 4] 20 Tryz.func109 rfl Tryz.results109 Tryz.ntmps109 rfl ?_
  have M0 := Mem.refl w
  refine W_seq ?_
  refine W_region ?_
  refine wl_q (r_assign (.int _ _) rfl) rfl rfl ?_
  refine wl_nil ?_
  refine thenN ?_
  refine W_seq ?_
  refine W_region ?_
  refine wl_q (r_move (.int _ _) rfl) rfl rfl ?_
  refine wl_cal cal123 rfl rfl rfl ?_
  refine (cmp_isNaN32 _ _).mono ?_
  rintro _ w1 ⟨v1, rfl, ⟨rfl, rfl⟩⟩
  refine ⟨_, rfl, ?_⟩
  have M1 : Mem _ _ [] _ := M0
  refine wl_q (r_assign (.bool false) rfl) rfl rfl ?_
  refine wl_nil ?_
  refine thenN ?_
  refine W_seq ?_
  refine W_region ?_
  refine wl_q (r_move (.int _ _) rfl) rfl rfl ?_
  refine wl_cal cal123 rfl rfl rfl ?_
  refine (cmp_isNaN32 _ _).mono ?_
  rintro _ w2 ⟨v2, rfl, ⟨rfl, rfl⟩⟩
  refine ⟨_, rfl, ?_⟩
  have M2 : Mem _ _ [] _ := M1
  refine wl_q (r_assign (.bool false) rfl) rfl rfl ?_
  refine wl_nil ?_
  refine thenN ?_
  refine W_seq ?_
  refine W_seq ?_
  refine W_region ?_
  refine wl_q (r_move (.bool false) rfl) rfl rfl ?_
  refine wl_nil ?_
  refine thenN ?_
  refine W_condF rfl ?_
  refine W_skip ?_
  refine thenN ?_
  refine W_seq ?_
  refine W_seq ?_
  refine W_region ?_
  refine wl_q (r_move (.bool false) rfl) rfl rfl ?_
  refine wl_nil ?_
  refine thenN ?_
  refine W_condF rfl ?_
  refine W_skip ?_
  refine thenN ?_
  refine W_seq ?_
  refine W_seq ?_
  refine W_region ?_
  refine wl_q (r_move (.int _ _) rfl) rfl rfl ?_
  refine wl_q (r_move (.int _ _) rfl) rfl rfl ?_
  refine wl_q (r_bin (.bool (decide _)) rfl rfl rfl) rfl rfl ?_
  refine wl_nil ?_
  refine thenN ?_
  refine W_condD rfl (fun h16 => ?_) (fun h16 => ?_)
  · skip
    refine W_seq ?_
    refine W_region ?_
    refine wl_q (r_assign (.int _ _) rfl) rfl rfl ?_
    refine wl_nil ?_
    refine thenN ?_
    refine W_ret ?_
    refine thenR ?_
    skip
    refine fin1 (.int _ _) rfl ?_
    exact ⟨iE (by unfold cmpI; (repeat' split) <;> omega), rfl⟩
  · skip
    refine W_skip ?_
    refine thenN ?_
    refine W_seq ?_
    refine W_seq ?_
    refine W_region ?_
    refine wl_q (r_move (.int _ _) rfl) rfl rfl ?_
    refine wl_q (r_move (.int _ _) rfl) rfl rfl ?_
    refine wl_q (r_bin (.bool (decide _)) rfl rfl rfl) rfl rfl ?_
    refine wl_nil ?_
    refine thenN ?_
    refine W_condD rfl (fun h19 => ?_) (fun h19 => ?_)
    · skip
      refine W_seq ?_
      refine W_region ?_
      refine wl_q (r_assign (.int _ _) rfl) rfl rfl ?_
      refine wl_nil ?_
      refine thenN ?_
      refine W_ret ?_
      refine thenR ?_
      skip
      refine fin1 (.int _ _) rfl ?_
      exact ⟨iE (by unfold cmpI; (repeat' split) <;> omega), rfl⟩
    · skip
      refine W_skip ?_
      refine thenN ?_
      refine W_seq ?_
      refine W_region ?_
      refine wl_q (r_assign (.int _ _) rfl) rfl rfl ?_
      refine wl_nil ?_
      refine thenN ?_
      refine W_ret ?_
      skip
      refine fin1 (.int _ _) rfl ?_
      exact ⟨iE (by unfold cmpI; (repeat' split) <;> omega), rfl⟩

end Go.Proofs.YtmcddmhkjcgneaaGreatDoor

/- Walks of Go functions over the frame of this claim: what each computes, for every input of the stated types (St). -/
set_option linter.unusedVariables false
set_option linter.unusedSimpArgs false
set_option linter.unnecessarySimpa false
namespace Go.Proofs.YtmcddmhkjcgneaaGreatDoor
open Go.Bil
open Go.RowKit (Below)
open Go.Proofs

end Go.Proofs.YtmcddmhkjcgneaaGreatDoor
