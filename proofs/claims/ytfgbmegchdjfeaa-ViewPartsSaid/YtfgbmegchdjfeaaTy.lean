/- Closed facts on the types and functions of this seat. -/
import Derived.Test.YtfgbmegchdjfeaaProg
import Derived.Test.YtfgbmegchdjfeaaFwJ
import Derived.Test.YtfgbmegchdjfeaaFwO
import Derived.Test.YtfgbmegchdjfeaaMd3
import Derived.KernelRfl
set_option linter.unusedVariables false
set_option linter.unusedSimpArgs false
namespace Go.Proofs.Ytfgbmegchdjfeaa
open Go.Bil
open Go.Proofs
theorem one23 : oneB Try.prog 23 = true := by kernel_rfl
theorem one21 : oneB Try.prog 21 = true := by kernel_rfl
theorem eqI36 : ∀ (d : Nat) (w : World) (x0 x1 y0 y1 : Int), (Op.equalIn (d + 2) 36 (.agg [.int .i32 x0, .int .i32 x1].toArray) (.agg [.int .i32 y0, .int .i32 y1].toArray)).run Try.prog w = .ok (decide (x0 = y0 ∧ x1 = y1)) w := fun d w x0 x1 y0 y1 => by
    have h := eq_struct (P := Try.prog) (T := 36) (dd := d + 1) (xs := [.int .i32 x0, .int .i32 x1]) (ys := [.int .i32 y0, .int .i32 y1]) (w := w) Try.underlying36 (by kernel_rfl) (eqF_cons rfl (part1 one21 rfl) (part1 one21 rfl) (eq_int (dd := d + 0) Try.underlying21) (eqF_cons rfl (part1 one21 rfl) (part1 one21 rfl) (eq_int (dd := d + 0) Try.underlying21) (eqF_nil)))
    refine h.trans (congrArg (fun r => Result.ok r w) ?_)
    simp only [Bool.decide_and, Bool.and_true, Bool.and_assoc]
theorem agg36 : aggN Try.prog 36 = some 2 := by kernel_rfl
theorem eqI38 : ∀ (d : Nat) (w : World) (x0 x1 x2 x3 x4 x5 x6 x7 x8 x9 y0 y1 y2 y3 y4 y5 y6 y7 y8 y9 : Int), (Op.equalIn (d + 3) 38 (.agg [.int .u32 x0, .int .i32 x1, .int .i32 x2, .int .i32 x3, .int .i32 x4, .int .i32 x5, .int .i32 x6, .int .i32 x7, .int .i32 x8, .int .i32 x9].toArray) (.agg [.int .u32 y0, .int .i32 y1, .int .i32 y2, .int .i32 y3, .int .i32 y4, .int .i32 y5, .int .i32 y6, .int .i32 y7, .int .i32 y8, .int .i32 y9].toArray)).run Try.prog w = .ok (decide (x0 = y0 ∧ x1 = y1 ∧ x2 = y2 ∧ x3 = y3 ∧ x4 = y4 ∧ x5 = y5 ∧ x6 = y6 ∧ x7 = y7 ∧ x8 = y8 ∧ x9 = y9)) w := fun d w x0 x1 x2 x3 x4 x5 x6 x7 x8 x9 y0 y1 y2 y3 y4 y5 y6 y7 y8 y9 => by
    have h := eq_struct (P := Try.prog) (T := 38) (dd := d + 2) (xs := [.int .u32 x0, .int .i32 x1, .int .i32 x2, .int .i32 x3, .int .i32 x4, .int .i32 x5, .int .i32 x6, .int .i32 x7, .int .i32 x8, .int .i32 x9]) (ys := [.int .u32 y0, .int .i32 y1, .int .i32 y2, .int .i32 y3, .int .i32 y4, .int .i32 y5, .int .i32 y6, .int .i32 y7, .int .i32 y8, .int .i32 y9]) (w := w) Try.underlying38 (by kernel_rfl) (eqF_cons rfl (part1 one23 rfl) (part1 one23 rfl) (eq_int (dd := d + 1) Try.underlying23) (eqF_cons rfl (part1 one21 rfl) (part1 one21 rfl) (eq_int (dd := d + 1) Try.underlying21) (eqF_cons rfl (partA agg36 rfl) (partA agg36 rfl) (eqI36 (d + 0) w x2 x3 y2 y3) (eqF_cons rfl (part1 one21 rfl) (part1 one21 rfl) (eq_int (dd := d + 1) Try.underlying21) (eqF_cons rfl (part1 one21 rfl) (part1 one21 rfl) (eq_int (dd := d + 1) Try.underlying21) (eqF_cons rfl (partA agg36 rfl) (partA agg36 rfl) (eqI36 (d + 0) w x6 x7 y6 y7) (eqF_cons rfl (partA agg36 rfl) (partA agg36 rfl) (eqI36 (d + 0) w x8 x9 y8 y9) (eqF_nil))))))))
    refine h.trans (congrArg (fun r => Result.ok r w) ?_)
    simp only [Bool.decide_and, Bool.and_true, Bool.and_assoc]
theorem eqA38 : ∀ (x0 x1 x2 x3 x4 x5 x6 x7 x8 x9 y0 y1 y2 y3 y4 y5 y6 y7 y8 y9 : Int), EqA Try.prog 38 [.int .u32 x0, .int .i32 x1, .int .i32 x2, .int .i32 x3, .int .i32 x4, .int .i32 x5, .int .i32 x6, .int .i32 x7, .int .i32 x8, .int .i32 x9] [.int .u32 y0, .int .i32 y1, .int .i32 y2, .int .i32 y3, .int .i32 y4, .int .i32 y5, .int .i32 y6, .int .i32 y7, .int .i32 y8, .int .i32 y9] (decide (x0 = y0 ∧ x1 = y1 ∧ x2 = y2 ∧ x3 = y3 ∧ x4 = y4 ∧ x5 = y5 ∧ x6 = y6 ∧ x7 = y7 ∧ x8 = y8 ∧ x9 = y9)) := fun x0 x1 x2 x3 x4 x5 x6 x7 x8 x9 y0 y1 y2 y3 y4 y5 y6 y7 y8 y9 => ⟨by kernel_rfl, fun w => eqI38 9997 w x0 x1 x2 x3 x4 x5 x6 x7 x8 x9 y0 y1 y2 y3 y4 y5 y6 y7 y8 y9⟩
theorem agg38 : aggN Try.prog 38 = some 10 := by kernel_rfl
theorem cal22 : callOk Try.prog 22 = true := by kernel_rfl
theorem fld38_1 : fldB Try.prog 38 1 1 = true := by kernel_rfl
theorem fld38_2 : fldB Try.prog 38 2 2 = true := by kernel_rfl
theorem fld36_0 : fldB Try.prog 36 0 0 = true := by kernel_rfl
theorem cal57 : callOk Try.prog 57 = true := by kernel_rfl
theorem fld36_1 : fldB Try.prog 36 1 1 = true := by kernel_rfl
theorem fld38_3 : fldB Try.prog 38 3 4 = true := by kernel_rfl
theorem fld38_4 : fldB Try.prog 38 4 5 = true := by kernel_rfl
theorem fld38_5 : fldB Try.prog 38 5 6 = true := by kernel_rfl
theorem fld38_6 : fldB Try.prog 38 6 8 = true := by kernel_rfl
theorem sl22 : sliceB Try.prog 22 38 10 40 = true := by kernel_rfl
theorem fld38_0 : fldB Try.prog 38 0 0 = true := by kernel_rfl
theorem mixed : Try.prog.follows .mixedOrders = true := by kernel_rfl
theorem cal42 : callOk Try.prog 42 = true := by kernel_rfl
theorem struct70 : structB Try.prog 70 [.nilFunc, .int .i64 0] [(0, 1), (1, 1)] := structB_mk Try.underlying70 (by kernel_rfl) (by kernel_rfl) (by kernel_rfl)
theorem arr72 : arrB Try.prog 72 6 70 2 = true := by kernel_rfl
theorem zero72 : zeroL Try.prog 72 = some [.nilFunc, .int .i64 0, .nilFunc, .int .i64 0, .nilFunc, .int .i64 0, .nilFunc, .int .i64 0, .nilFunc, .int .i64 0, .nilFunc, .int .i64 0] := by kernel_rfl
theorem agg70 : aggN Try.prog 70 = some 2 := by kernel_rfl
theorem zero70 : zeroL Try.prog 70 = some [.nilFunc, .int .i64 0] := by kernel_rfl
theorem fld70_0 : fldB Try.prog 70 0 0 = true := by kernel_rfl
theorem one24 : oneB Try.prog 24 = true := by kernel_rfl
theorem cal40 : callOk Try.prog 40 = true := by kernel_rfl
theorem fld70_1 : fldB Try.prog 70 1 1 = true := by kernel_rfl
theorem one25 : oneB Try.prog 25 = true := by kernel_rfl
theorem cal41 : callOk Try.prog 41 = true := by kernel_rfl
theorem cal43 : callOk Try.prog 43 = true := by kernel_rfl
theorem cal44 : callOk Try.prog 44 = true := by kernel_rfl
theorem cal45 : callOk Try.prog 45 = true := by kernel_rfl
theorem cal46 : callOk Try.prog 46 = true := by kernel_rfl
theorem cal38 : callOk Try.prog 38 = true := by kernel_rfl
theorem cal36 : callOk Try.prog 36 = true := by kernel_rfl
theorem cal13 : callOk Try.prog 13 = true := by kernel_rfl
theorem cal58 : callOk Try.prog 58 = true := by kernel_rfl
theorem cal37 : callOk Try.prog 37 = true := by kernel_rfl
theorem zero38 : zeroL Try.prog 38 = some [.int .u32 0, .int .i32 0, .int .i32 0, .int .i32 0, .int .i32 0, .int .i32 0, .int .i32 0, .int .i32 0, .int .i32 0, .int .i32 0] := by kernel_rfl
theorem cal33 : callOk Try.prog 33 = true := by kernel_rfl
theorem cal19 : callOk Try.prog 19 = true := by kernel_rfl
theorem cal23 : callOk Try.prog 23 = true := by kernel_rfl
theorem cal24 : callOk Try.prog 24 = true := by kernel_rfl
theorem cal27 : callOk Try.prog 27 = true := by kernel_rfl
theorem cal20 : callOk Try.prog 20 = true := by kernel_rfl
theorem cal21 : callOk Try.prog 21 = true := by kernel_rfl
theorem cal10 : callOk Try.prog 10 = true := by kernel_rfl
theorem us3 : (Try.prog.underlying 3).isSome = true := by kernel_rfl
theorem us65 : (Try.prog.underlying 65).isSome = true := by kernel_rfl
theorem cal26 : callOk Try.prog 26 = true := by kernel_rfl
theorem cal25 : callOk Try.prog 25 = true := by kernel_rfl
theorem sl41 : sliceB Try.prog 41 23 1 4 = true := by kernel_rfl
theorem fld43_0 : fldB Try.prog 43 0 0 = true := by kernel_rfl
theorem one41 : oneB Try.prog 41 = true := by kernel_rfl
theorem cal28 : callOk Try.prog 28 = true := by kernel_rfl
theorem fld43_1 : fldB Try.prog 43 1 1 = true := by kernel_rfl
theorem fld43_2 : fldB Try.prog 43 2 2 = true := by kernel_rfl
theorem zero43 : zeroL Try.prog 43 = some [.slice none 0 0, .slice none 0 0, .slice none 0 0] := by kernel_rfl
theorem agg43 : aggN Try.prog 43 = some 3 := by kernel_rfl
theorem fld45_0 : fldB Try.prog 45 0 0 = true := by kernel_rfl
theorem fld45_1 : fldB Try.prog 45 1 1 = true := by kernel_rfl
theorem fld45_2 : fldB Try.prog 45 2 2 = true := by kernel_rfl
theorem struct43 : structB Try.prog 43 [.slice none 0 0, .slice none 0 0, .slice none 0 0] [(0, 1), (1, 1), (2, 1)] := structB_mk Try.underlying43 (by kernel_rfl) (by kernel_rfl) (by kernel_rfl)
theorem cal30 : callOk Try.prog 30 = true := by kernel_rfl
theorem zero45 : zeroL Try.prog 45 = some [.slice none 0 0, .slice none 0 0, .slice none 0 0] := by kernel_rfl
theorem cal29 : callOk Try.prog 29 = true := by kernel_rfl
theorem agg45 : aggN Try.prog 45 = some 3 := by kernel_rfl
theorem cal39 : callOk Try.prog 39 = true := by kernel_rfl
theorem one22 : oneB Try.prog 22 = true := by kernel_rfl
theorem cal32 : callOk Try.prog 32 = true := by kernel_rfl
theorem cal31 : callOk Try.prog 31 = true := by kernel_rfl
theorem zero22 : zeroL Try.prog 22 = some [.slice none 0 0] := by kernel_rfl
theorem struct38 : structB Try.prog 38 [.int .u32 0, .int .i32 0, .int .i32 0, .int .i32 0, .int .i32 0, .int .i32 0, .int .i32 0, .int .i32 0, .int .i32 0, .int .i32 0] [(0, 1), (1, 1), (2, 2), (4, 1), (5, 1), (6, 2), (8, 2)] := structB_mk Try.underlying38 (by kernel_rfl) (by kernel_rfl) (by kernel_rfl)
theorem cal16 : callOk Try.prog 16 = true := by kernel_rfl
theorem cal7 : callOk Try.prog 7 = true := by kernel_rfl
theorem cal12 : callOk Try.prog 12 = true := by kernel_rfl
theorem cal15 : callOk Try.prog 15 = true := by kernel_rfl
theorem cal14 : callOk Try.prog 14 = true := by kernel_rfl
theorem cal9 : callOk Try.prog 9 = true := by kernel_rfl
theorem cal6 : callOk Try.prog 6 = true := by kernel_rfl
theorem cal8 : callOk Try.prog 8 = true := by kernel_rfl
theorem cal11 : callOk Try.prog 11 = true := by kernel_rfl
theorem cal17 : callOk Try.prog 17 = true := by kernel_rfl
theorem leaves38 : leaves Try.prog 4 38 = some [.u32, .i32, .i32, .i32, .i32, .i32, .i32, .i32, .i32, .i32] := by kernel_rfl
theorem us5 : (Try.prog.underlying 5).isSome = true := by kernel_rfl
theorem cal18 : callOk Try.prog 18 = true := by kernel_rfl
end Go.Proofs.Ytfgbmegchdjfeaa
