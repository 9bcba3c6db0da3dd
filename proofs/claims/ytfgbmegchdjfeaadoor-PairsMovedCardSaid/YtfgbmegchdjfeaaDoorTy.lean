/- Closed facts on the types and functions of this seat. -/
import Derived.Test.YtfgbmegchdjfeaaDoorProg
import Derived.Test.YtfgbmegchdjfeaaDoorFwJ
import Derived.Test.YtfgbmegchdjfeaaDoorFwO
import Derived.Test.YtfgbmegchdjfeaaDoorMd3
import Derived.KernelRfl
set_option linter.unusedVariables false
set_option linter.unusedSimpArgs false
namespace Go.Proofs.YtfgbmegchdjfeaaDoor
open Go.Bil
open Go.Proofs
theorem one25 : oneB Tryd.prog 25 = true := by kernel_rfl
theorem one21 : oneB Tryd.prog 21 = true := by kernel_rfl
theorem eqI47 : ∀ (d : Nat) (w : World) (x0 x1 y0 y1 : Int), (Op.equalIn (d + 2) 47 (.agg [.int .i32 x0, .int .i32 x1].toArray) (.agg [.int .i32 y0, .int .i32 y1].toArray)).run Tryd.prog w = .ok (decide (x0 = y0 ∧ x1 = y1)) w := fun d w x0 x1 y0 y1 => by
    have h := eq_struct (P := Tryd.prog) (T := 47) (dd := d + 1) (xs := [.int .i32 x0, .int .i32 x1]) (ys := [.int .i32 y0, .int .i32 y1]) (w := w) Tryd.underlying47 (by kernel_rfl) (eqF_cons rfl (part1 one21 rfl) (part1 one21 rfl) (eq_int (dd := d + 0) Tryd.underlying21) (eqF_cons rfl (part1 one21 rfl) (part1 one21 rfl) (eq_int (dd := d + 0) Tryd.underlying21) (eqF_nil)))
    refine h.trans (congrArg (fun r => Result.ok r w) ?_)
    simp only [Bool.decide_and, Bool.and_true, Bool.and_assoc]
theorem agg47 : aggN Tryd.prog 47 = some 2 := by kernel_rfl
theorem eqI49 : ∀ (d : Nat) (w : World) (x0 x1 x2 x3 x4 x5 x6 x7 x8 x9 y0 y1 y2 y3 y4 y5 y6 y7 y8 y9 : Int), (Op.equalIn (d + 3) 49 (.agg [.int .u32 x0, .int .i32 x1, .int .i32 x2, .int .i32 x3, .int .i32 x4, .int .i32 x5, .int .i32 x6, .int .i32 x7, .int .i32 x8, .int .i32 x9].toArray) (.agg [.int .u32 y0, .int .i32 y1, .int .i32 y2, .int .i32 y3, .int .i32 y4, .int .i32 y5, .int .i32 y6, .int .i32 y7, .int .i32 y8, .int .i32 y9].toArray)).run Tryd.prog w = .ok (decide (x0 = y0 ∧ x1 = y1 ∧ x2 = y2 ∧ x3 = y3 ∧ x4 = y4 ∧ x5 = y5 ∧ x6 = y6 ∧ x7 = y7 ∧ x8 = y8 ∧ x9 = y9)) w := fun d w x0 x1 x2 x3 x4 x5 x6 x7 x8 x9 y0 y1 y2 y3 y4 y5 y6 y7 y8 y9 => by
    have h := eq_struct (P := Tryd.prog) (T := 49) (dd := d + 2) (xs := [.int .u32 x0, .int .i32 x1, .int .i32 x2, .int .i32 x3, .int .i32 x4, .int .i32 x5, .int .i32 x6, .int .i32 x7, .int .i32 x8, .int .i32 x9]) (ys := [.int .u32 y0, .int .i32 y1, .int .i32 y2, .int .i32 y3, .int .i32 y4, .int .i32 y5, .int .i32 y6, .int .i32 y7, .int .i32 y8, .int .i32 y9]) (w := w) Tryd.underlying49 (by kernel_rfl) (eqF_cons rfl (part1 one25 rfl) (part1 one25 rfl) (eq_int (dd := d + 1) Tryd.underlying25) (eqF_cons rfl (part1 one21 rfl) (part1 one21 rfl) (eq_int (dd := d + 1) Tryd.underlying21) (eqF_cons rfl (partA agg47 rfl) (partA agg47 rfl) (eqI47 (d + 0) w x2 x3 y2 y3) (eqF_cons rfl (part1 one21 rfl) (part1 one21 rfl) (eq_int (dd := d + 1) Tryd.underlying21) (eqF_cons rfl (part1 one21 rfl) (part1 one21 rfl) (eq_int (dd := d + 1) Tryd.underlying21) (eqF_cons rfl (partA agg47 rfl) (partA agg47 rfl) (eqI47 (d + 0) w x6 x7 y6 y7) (eqF_cons rfl (partA agg47 rfl) (partA agg47 rfl) (eqI47 (d + 0) w x8 x9 y8 y9) (eqF_nil))))))))
    refine h.trans (congrArg (fun r => Result.ok r w) ?_)
    simp only [Bool.decide_and, Bool.and_true, Bool.and_assoc]
theorem eqA49 : ∀ (x0 x1 x2 x3 x4 x5 x6 x7 x8 x9 y0 y1 y2 y3 y4 y5 y6 y7 y8 y9 : Int), EqA Tryd.prog 49 [.int .u32 x0, .int .i32 x1, .int .i32 x2, .int .i32 x3, .int .i32 x4, .int .i32 x5, .int .i32 x6, .int .i32 x7, .int .i32 x8, .int .i32 x9] [.int .u32 y0, .int .i32 y1, .int .i32 y2, .int .i32 y3, .int .i32 y4, .int .i32 y5, .int .i32 y6, .int .i32 y7, .int .i32 y8, .int .i32 y9] (decide (x0 = y0 ∧ x1 = y1 ∧ x2 = y2 ∧ x3 = y3 ∧ x4 = y4 ∧ x5 = y5 ∧ x6 = y6 ∧ x7 = y7 ∧ x8 = y8 ∧ x9 = y9)) := fun x0 x1 x2 x3 x4 x5 x6 x7 x8 x9 y0 y1 y2 y3 y4 y5 y6 y7 y8 y9 => ⟨by kernel_rfl, fun w => eqI49 9997 w x0 x1 x2 x3 x4 x5 x6 x7 x8 x9 y0 y1 y2 y3 y4 y5 y6 y7 y8 y9⟩
theorem eqI42 : ∀ (d : Nat) (w : World) (x0 x1 y0 y1 : Int), (Op.equalIn (d + 2) 42 (.agg [.int .u32 x0, .int .u32 x1].toArray) (.agg [.int .u32 y0, .int .u32 y1].toArray)).run Tryd.prog w = .ok (decide (x0 = y0 ∧ x1 = y1)) w := fun d w x0 x1 y0 y1 => by
    have h := eq_struct (P := Tryd.prog) (T := 42) (dd := d + 1) (xs := [.int .u32 x0, .int .u32 x1]) (ys := [.int .u32 y0, .int .u32 y1]) (w := w) Tryd.underlying42 (by kernel_rfl) (eqF_cons rfl (part1 one25 rfl) (part1 one25 rfl) (eq_int (dd := d + 0) Tryd.underlying25) (eqF_cons rfl (part1 one25 rfl) (part1 one25 rfl) (eq_int (dd := d + 0) Tryd.underlying25) (eqF_nil)))
    refine h.trans (congrArg (fun r => Result.ok r w) ?_)
    simp only [Bool.decide_and, Bool.and_true, Bool.and_assoc]
theorem eqA42 : ∀ (x0 x1 y0 y1 : Int), EqA Tryd.prog 42 [.int .u32 x0, .int .u32 x1] [.int .u32 y0, .int .u32 y1] (decide (x0 = y0 ∧ x1 = y1)) := fun x0 x1 y0 y1 => ⟨by kernel_rfl, fun w => eqI42 9998 w x0 x1 y0 y1⟩
theorem agg42 : aggN Tryd.prog 42 = some 2 := by kernel_rfl
theorem cal53 : callOk Tryd.prog 53 = true := by kernel_rfl
theorem zv42 : zeroV Tryd.prog 42 = some (.agg [.int .u32 0, .int .u32 0].toArray) := by kernel_rfl
theorem fld49_1 : fldB Tryd.prog 49 1 1 = true := by kernel_rfl
theorem fld49_2 : fldB Tryd.prog 49 2 2 = true := by kernel_rfl
theorem fld47_0 : fldB Tryd.prog 47 0 0 = true := by kernel_rfl
theorem cal73 : callOk Tryd.prog 73 = true := by kernel_rfl
theorem fld47_1 : fldB Tryd.prog 47 1 1 = true := by kernel_rfl
theorem fld49_3 : fldB Tryd.prog 49 3 4 = true := by kernel_rfl
theorem fld49_4 : fldB Tryd.prog 49 4 5 = true := by kernel_rfl
theorem fld49_5 : fldB Tryd.prog 49 5 6 = true := by kernel_rfl
theorem fld49_6 : fldB Tryd.prog 49 6 8 = true := by kernel_rfl
theorem sl22 : sliceB Tryd.prog 22 49 10 40 = true := by kernel_rfl
theorem fld49_0 : fldB Tryd.prog 49 0 0 = true := by kernel_rfl
theorem mixed : Tryd.prog.follows .mixedOrders = true := by kernel_rfl
theorem agg49 : aggN Tryd.prog 49 = some 10 := by kernel_rfl
theorem cal80 : callOk Tryd.prog 80 = true := by kernel_rfl
theorem cal59 : callOk Tryd.prog 59 = true := by kernel_rfl
theorem cal21 : callOk Tryd.prog 21 = true := by kernel_rfl
theorem cal74 : callOk Tryd.prog 74 = true := by kernel_rfl
theorem cal60 : callOk Tryd.prog 60 = true := by kernel_rfl
theorem cal43 : callOk Tryd.prog 43 = true := by kernel_rfl
theorem cal44 : callOk Tryd.prog 44 = true := by kernel_rfl
theorem sl36 : sliceB Tryd.prog 36 25 1 4 = true := by kernel_rfl
theorem cal67 : callOk Tryd.prog 67 = true := by kernel_rfl
theorem zero32 : zeroL Tryd.prog 32 = some [.int .i32 0, .int .i32 0, .int .i32 0, .int .i32 0] := by kernel_rfl
theorem cal57 : callOk Tryd.prog 57 = true := by kernel_rfl
theorem struct32 : structB Tryd.prog 32 [.int .i32 0, .int .i32 0, .int .i32 0, .int .i32 0] [(0, 1), (1, 1), (2, 1), (3, 1)] := structB_mk Tryd.underlying32 (by kernel_rfl) (by kernel_rfl) (by kernel_rfl)
theorem agg32 : aggN Tryd.prog 32 = some 4 := by kernel_rfl
theorem zero24 : zeroL Tryd.prog 24 = some [.int .i32 0, .int .i32 0, .int .i32 0, .int .i32 0] := by kernel_rfl
theorem cal39 : callOk Tryd.prog 39 = true := by kernel_rfl
theorem struct24 : structB Tryd.prog 24 [.int .i32 0, .int .i32 0, .int .i32 0, .int .i32 0] [(0, 1), (1, 1), (2, 1), (3, 1)] := structB_mk Tryd.underlying24 (by kernel_rfl) (by kernel_rfl) (by kernel_rfl)
theorem agg24 : aggN Tryd.prog 24 = some 4 := by kernel_rfl
theorem fld32_0 : fldB Tryd.prog 32 0 0 = true := by kernel_rfl
theorem fld32_2 : fldB Tryd.prog 32 2 2 = true := by kernel_rfl
theorem fld32_1 : fldB Tryd.prog 32 1 1 = true := by kernel_rfl
theorem fld32_3 : fldB Tryd.prog 32 3 3 = true := by kernel_rfl
theorem fld24_0 : fldB Tryd.prog 24 0 0 = true := by kernel_rfl
theorem fld24_2 : fldB Tryd.prog 24 2 2 = true := by kernel_rfl
theorem fld24_1 : fldB Tryd.prog 24 1 1 = true := by kernel_rfl
theorem fld24_3 : fldB Tryd.prog 24 3 3 = true := by kernel_rfl
theorem cal55 : callOk Tryd.prog 55 = true := by kernel_rfl
theorem cal56 : callOk Tryd.prog 56 = true := by kernel_rfl
theorem cal54 : callOk Tryd.prog 54 = true := by kernel_rfl
theorem zero95 : zeroL Tryd.prog 95 = some [.int .i32 0, .int .i32 0] := by kernel_rfl
theorem struct95 : structB Tryd.prog 95 [.int .i32 0, .int .i32 0] [(0, 1), (1, 1)] := structB_mk Tryd.underlying95 (by kernel_rfl) (by kernel_rfl) (by kernel_rfl)
theorem agg95 : aggN Tryd.prog 95 = some 2 := by kernel_rfl
theorem struct47 : structB Tryd.prog 47 [.int .i32 0, .int .i32 0] [(0, 1), (1, 1)] := structB_mk Tryd.underlying47 (by kernel_rfl) (by kernel_rfl) (by kernel_rfl)
theorem cal87 : callOk Tryd.prog 87 = true := by kernel_rfl
theorem cal75 : callOk Tryd.prog 75 = true := by kernel_rfl
theorem zero4 : zeroL Tryd.prog 4 = some [.bool false] := by kernel_rfl
theorem one4 : oneB Tryd.prog 4 = true := by kernel_rfl
theorem fld95_1 : fldB Tryd.prog 95 1 1 = true := by kernel_rfl
theorem fld95_0 : fldB Tryd.prog 95 0 0 = true := by kernel_rfl
theorem zero93 : zeroL Tryd.prog 93 = some [.slice none 0 0] := by kernel_rfl
theorem cal61 : callOk Tryd.prog 61 = true := by kernel_rfl
theorem cal76 : callOk Tryd.prog 76 = true := by kernel_rfl
theorem one93 : oneB Tryd.prog 93 = true := by kernel_rfl
theorem sl93 : sliceB Tryd.prog 93 95 2 8 = true := by kernel_rfl
theorem us21 : (Tryd.prog.underlying 21).isSome = true := by kernel_rfl
theorem arr117 : arrB Tryd.prog 117 2 25 1 = true := by kernel_rfl
theorem us25 : (Tryd.prog.underlying 25).isSome = true := by kernel_rfl
theorem fld67_1 : fldB Tryd.prog 67 1 1024 = true := by kernel_rfl
theorem one3 : oneB Tryd.prog 3 = true := by kernel_rfl
theorem cal45 : callOk Tryd.prog 45 = true := by kernel_rfl
theorem cal46 : callOk Tryd.prog 46 = true := by kernel_rfl
theorem map92 : mapB Tryd.prog 92 3 4 .i64 = true := by kernel_rfl
theorem zv4 : zeroV Tryd.prog 4 = some (.bool false) := by kernel_rfl
theorem fld67_0 : fldB Tryd.prog 67 0 0 = true := by kernel_rfl
theorem arr65 : arrB Tryd.prog 65 1024 36 1 = true := by kernel_rfl
theorem one36 : oneB Tryd.prog 36 = true := by kernel_rfl
theorem zero42 : zeroL Tryd.prog 42 = some [.int .u32 0, .int .u32 0] := by kernel_rfl
theorem struct42 : structB Tryd.prog 42 [.int .u32 0, .int .u32 0] [(0, 1), (1, 1)] := structB_mk Tryd.underlying42 (by kernel_rfl) (by kernel_rfl) (by kernel_rfl)
theorem sl141 : sliceB Tryd.prog 141 3 1 8 = true := by kernel_rfl
theorem fld42_0 : fldB Tryd.prog 42 0 0 = true := by kernel_rfl
theorem fld42_1 : fldB Tryd.prog 42 1 1 = true := by kernel_rfl
theorem cal66 : callOk Tryd.prog 66 = true := by kernel_rfl
theorem cal65 : callOk Tryd.prog 65 = true := by kernel_rfl
theorem one98 : oneB Tryd.prog 98 = true := by kernel_rfl
theorem cal64 : callOk Tryd.prog 64 = true := by kernel_rfl
theorem one29 : oneB Tryd.prog 29 = true := by kernel_rfl
theorem sl29 : sliceB Tryd.prog 29 42 2 8 = true := by kernel_rfl
theorem cal77 : callOk Tryd.prog 77 = true := by kernel_rfl
theorem cal62 : callOk Tryd.prog 62 = true := by kernel_rfl
theorem cal63 : callOk Tryd.prog 63 = true := by kernel_rfl
theorem agg65 : aggN Tryd.prog 65 = some 1024 := by kernel_rfl
theorem cal50 : callOk Tryd.prog 50 = true := by kernel_rfl
theorem struct99 : structB Tryd.prog 99 [] [] := structB_mk Tryd.underlying99 (by kernel_rfl) (by kernel_rfl) (by kernel_rfl)
theorem cal52 : callOk Tryd.prog 52 = true := by kernel_rfl
theorem cal51 : callOk Tryd.prog 51 = true := by kernel_rfl
theorem zero49 : zeroL Tryd.prog 49 = some [.int .u32 0, .int .i32 0, .int .i32 0, .int .i32 0, .int .i32 0, .int .i32 0, .int .i32 0, .int .i32 0, .int .i32 0, .int .i32 0] := by kernel_rfl
theorem cal36 : callOk Tryd.prog 36 = true := by kernel_rfl
theorem map63 : mapB Tryd.prog 63 25 32 .u32 = true := by kernel_rfl
theorem zero3 : zeroL Tryd.prog 3 = some [.int .i64 0] := by kernel_rfl
theorem one63 : oneB Tryd.prog 63 = true := by kernel_rfl
theorem zv32 : zeroV Tryd.prog 32 = some (.agg [.int .i32 0, .int .i32 0, .int .i32 0, .int .i32 0].toArray) := by kernel_rfl
theorem cal35 : callOk Tryd.prog 35 = true := by kernel_rfl
theorem cal47 : callOk Tryd.prog 47 = true := by kernel_rfl
theorem cal49 : callOk Tryd.prog 49 = true := by kernel_rfl
theorem cal29 : callOk Tryd.prog 29 = true := by kernel_rfl
theorem cal30 : callOk Tryd.prog 30 = true := by kernel_rfl
theorem cal31 : callOk Tryd.prog 31 = true := by kernel_rfl
theorem cal33 : callOk Tryd.prog 33 = true := by kernel_rfl
theorem cal32 : callOk Tryd.prog 32 = true := by kernel_rfl
theorem cal48 : callOk Tryd.prog 48 = true := by kernel_rfl
theorem cal22 : callOk Tryd.prog 22 = true := by kernel_rfl
theorem cal34 : callOk Tryd.prog 34 = true := by kernel_rfl
theorem cal38 : callOk Tryd.prog 38 = true := by kernel_rfl
theorem cal37 : callOk Tryd.prog 37 = true := by kernel_rfl
theorem cal16 : callOk Tryd.prog 16 = true := by kernel_rfl
theorem cal27 : callOk Tryd.prog 27 = true := by kernel_rfl
theorem struct49 : structB Tryd.prog 49 [.int .u32 0, .int .i32 0, .int .i32 0, .int .i32 0, .int .i32 0, .int .i32 0, .int .i32 0, .int .i32 0, .int .i32 0, .int .i32 0] [(0, 1), (1, 1), (2, 2), (4, 1), (5, 1), (6, 2), (8, 2)] := structB_mk Tryd.underlying49 (by kernel_rfl) (by kernel_rfl) (by kernel_rfl)
theorem cal28 : callOk Tryd.prog 28 = true := by kernel_rfl
theorem cal12 : callOk Tryd.prog 12 = true := by kernel_rfl
theorem cal13 : callOk Tryd.prog 13 = true := by kernel_rfl
theorem cal15 : callOk Tryd.prog 15 = true := by kernel_rfl
theorem cal18 : callOk Tryd.prog 18 = true := by kernel_rfl
theorem cal10 : callOk Tryd.prog 10 = true := by kernel_rfl
theorem cal11 : callOk Tryd.prog 11 = true := by kernel_rfl
theorem cal14 : callOk Tryd.prog 14 = true := by kernel_rfl
theorem cal17 : callOk Tryd.prog 17 = true := by kernel_rfl
theorem cal19 : callOk Tryd.prog 19 = true := by kernel_rfl
theorem leaves49 : leaves Tryd.prog 4 49 = some [.u32, .i32, .i32, .i32, .i32, .i32, .i32, .i32, .i32, .i32] := by kernel_rfl
theorem leaves24 : leaves Tryd.prog 3 24 = some [.i32, .i32, .i32, .i32] := by kernel_rfl
theorem cal20 : callOk Tryd.prog 20 = true := by kernel_rfl
theorem us5 : (Tryd.prog.underlying 5).isSome = true := by kernel_rfl
theorem us2 : (Tryd.prog.underlying 2).isSome = true := by kernel_rfl
theorem leaves47 : leaves Tryd.prog 3 47 = some [.i32, .i32] := by kernel_rfl
end Go.Proofs.YtfgbmegchdjfeaaDoor
