/- Closed facts on the types and functions of this seat. -/
import Derived.Test.YtaabkkdpjecknaaProg
import Derived.Test.YtaabkkdpjecknaaFwJ
import Derived.Test.YtaabkkdpjecknaaFwO
import Derived.Test.YtaabkkdpjecknaaMd3
import Derived.KernelRfl
set_option linter.unusedVariables false
set_option linter.unusedSimpArgs false
namespace Go.Proofs.Ytaabkkdpjecknaa
open Go.Bil
open Go.Proofs
theorem one24 : oneB Try.prog 24 = true := by kernel_rfl
theorem one21 : oneB Try.prog 21 = true := by kernel_rfl
theorem eqI26 : ∀ (d : Nat) (w : World) (x0 x1 y0 y1 : Int), (Op.equalIn (d + 2) 26 (.agg [.int .i32 x0, .int .i32 x1].toArray) (.agg [.int .i32 y0, .int .i32 y1].toArray)).run Try.prog w = .ok (decide (x0 = y0 ∧ x1 = y1)) w := fun d w x0 x1 y0 y1 => by
    have h := eq_struct (P := Try.prog) (T := 26) (dd := d + 1) (xs := [.int .i32 x0, .int .i32 x1]) (ys := [.int .i32 y0, .int .i32 y1]) (w := w) Try.underlying26 (by kernel_rfl) (eqF_cons rfl (part1 one21 rfl) (part1 one21 rfl) (eq_int (dd := d + 0) Try.underlying21) (eqF_cons rfl (part1 one21 rfl) (part1 one21 rfl) (eq_int (dd := d + 0) Try.underlying21) (eqF_nil)))
    refine h.trans (congrArg (fun r => Result.ok r w) ?_)
    simp only [Bool.decide_and, Bool.and_true, Bool.and_assoc]
theorem agg26 : aggN Try.prog 26 = some 2 := by kernel_rfl
theorem eqI28 : ∀ (d : Nat) (w : World) (x0 x1 x2 x3 x4 x5 x6 x7 x8 x9 y0 y1 y2 y3 y4 y5 y6 y7 y8 y9 : Int), (Op.equalIn (d + 3) 28 (.agg [.int .u32 x0, .int .i32 x1, .int .i32 x2, .int .i32 x3, .int .i32 x4, .int .i32 x5, .int .i32 x6, .int .i32 x7, .int .i32 x8, .int .i32 x9].toArray) (.agg [.int .u32 y0, .int .i32 y1, .int .i32 y2, .int .i32 y3, .int .i32 y4, .int .i32 y5, .int .i32 y6, .int .i32 y7, .int .i32 y8, .int .i32 y9].toArray)).run Try.prog w = .ok (decide (x0 = y0 ∧ x1 = y1 ∧ x2 = y2 ∧ x3 = y3 ∧ x4 = y4 ∧ x5 = y5 ∧ x6 = y6 ∧ x7 = y7 ∧ x8 = y8 ∧ x9 = y9)) w := fun d w x0 x1 x2 x3 x4 x5 x6 x7 x8 x9 y0 y1 y2 y3 y4 y5 y6 y7 y8 y9 => by
    have h := eq_struct (P := Try.prog) (T := 28) (dd := d + 2) (xs := [.int .u32 x0, .int .i32 x1, .int .i32 x2, .int .i32 x3, .int .i32 x4, .int .i32 x5, .int .i32 x6, .int .i32 x7, .int .i32 x8, .int .i32 x9]) (ys := [.int .u32 y0, .int .i32 y1, .int .i32 y2, .int .i32 y3, .int .i32 y4, .int .i32 y5, .int .i32 y6, .int .i32 y7, .int .i32 y8, .int .i32 y9]) (w := w) Try.underlying28 (by kernel_rfl) (eqF_cons rfl (part1 one24 rfl) (part1 one24 rfl) (eq_int (dd := d + 1) Try.underlying24) (eqF_cons rfl (part1 one21 rfl) (part1 one21 rfl) (eq_int (dd := d + 1) Try.underlying21) (eqF_cons rfl (partA agg26 rfl) (partA agg26 rfl) (eqI26 (d + 0) w x2 x3 y2 y3) (eqF_cons rfl (part1 one21 rfl) (part1 one21 rfl) (eq_int (dd := d + 1) Try.underlying21) (eqF_cons rfl (part1 one21 rfl) (part1 one21 rfl) (eq_int (dd := d + 1) Try.underlying21) (eqF_cons rfl (partA agg26 rfl) (partA agg26 rfl) (eqI26 (d + 0) w x6 x7 y6 y7) (eqF_cons rfl (partA agg26 rfl) (partA agg26 rfl) (eqI26 (d + 0) w x8 x9 y8 y9) (eqF_nil))))))))
    refine h.trans (congrArg (fun r => Result.ok r w) ?_)
    simp only [Bool.decide_and, Bool.and_true, Bool.and_assoc]
theorem eqA28 : ∀ (x0 x1 x2 x3 x4 x5 x6 x7 x8 x9 y0 y1 y2 y3 y4 y5 y6 y7 y8 y9 : Int), EqA Try.prog 28 [.int .u32 x0, .int .i32 x1, .int .i32 x2, .int .i32 x3, .int .i32 x4, .int .i32 x5, .int .i32 x6, .int .i32 x7, .int .i32 x8, .int .i32 x9] [.int .u32 y0, .int .i32 y1, .int .i32 y2, .int .i32 y3, .int .i32 y4, .int .i32 y5, .int .i32 y6, .int .i32 y7, .int .i32 y8, .int .i32 y9] (decide (x0 = y0 ∧ x1 = y1 ∧ x2 = y2 ∧ x3 = y3 ∧ x4 = y4 ∧ x5 = y5 ∧ x6 = y6 ∧ x7 = y7 ∧ x8 = y8 ∧ x9 = y9)) := fun x0 x1 x2 x3 x4 x5 x6 x7 x8 x9 y0 y1 y2 y3 y4 y5 y6 y7 y8 y9 => ⟨by kernel_rfl, fun w => eqI28 9997 w x0 x1 x2 x3 x4 x5 x6 x7 x8 x9 y0 y1 y2 y3 y4 y5 y6 y7 y8 y9⟩
theorem agg28 : aggN Try.prog 28 = some 10 := by kernel_rfl
theorem cal45 : callOk Try.prog 45 = true := by kernel_rfl
theorem cal49 : callOk Try.prog 49 = true := by kernel_rfl
theorem fld28_1 : fldB Try.prog 28 1 1 = true := by kernel_rfl
theorem fld28_2 : fldB Try.prog 28 2 2 = true := by kernel_rfl
theorem fld26_0 : fldB Try.prog 26 0 0 = true := by kernel_rfl
theorem cal42 : callOk Try.prog 42 = true := by kernel_rfl
theorem fld26_1 : fldB Try.prog 26 1 1 = true := by kernel_rfl
theorem fld28_3 : fldB Try.prog 28 3 4 = true := by kernel_rfl
theorem fld28_4 : fldB Try.prog 28 4 5 = true := by kernel_rfl
theorem fld28_5 : fldB Try.prog 28 5 6 = true := by kernel_rfl
theorem fld28_6 : fldB Try.prog 28 6 8 = true := by kernel_rfl
theorem sl22 : sliceB Try.prog 22 28 10 40 = true := by kernel_rfl
theorem fld28_0 : fldB Try.prog 28 0 0 = true := by kernel_rfl
theorem mixed : Try.prog.follows .mixedOrders = true := by kernel_rfl
theorem cal59 : callOk Try.prog 59 = true := by kernel_rfl
theorem struct87 : structB Try.prog 87 [.nilFunc, .int .i64 0] [(0, 1), (1, 1)] := structB_mk Try.underlying87 (by kernel_rfl) (by kernel_rfl) (by kernel_rfl)
theorem arr89 : arrB Try.prog 89 6 87 2 = true := by kernel_rfl
theorem zero89 : zeroL Try.prog 89 = some [.nilFunc, .int .i64 0, .nilFunc, .int .i64 0, .nilFunc, .int .i64 0, .nilFunc, .int .i64 0, .nilFunc, .int .i64 0, .nilFunc, .int .i64 0] := by kernel_rfl
theorem agg87 : aggN Try.prog 87 = some 2 := by kernel_rfl
theorem zero87 : zeroL Try.prog 87 = some [.nilFunc, .int .i64 0] := by kernel_rfl
theorem fld87_0 : fldB Try.prog 87 0 0 = true := by kernel_rfl
theorem one23 : oneB Try.prog 23 = true := by kernel_rfl
theorem cal57 : callOk Try.prog 57 = true := by kernel_rfl
theorem fld87_1 : fldB Try.prog 87 1 1 = true := by kernel_rfl
theorem one32 : oneB Try.prog 32 = true := by kernel_rfl
theorem cal58 : callOk Try.prog 58 = true := by kernel_rfl
theorem cal60 : callOk Try.prog 60 = true := by kernel_rfl
theorem cal61 : callOk Try.prog 61 = true := by kernel_rfl
theorem cal62 : callOk Try.prog 62 = true := by kernel_rfl
theorem cal63 : callOk Try.prog 63 = true := by kernel_rfl
theorem cal41 : callOk Try.prog 41 = true := by kernel_rfl
theorem fld31_1 : fldB Try.prog 31 1 1 = true := by kernel_rfl
theorem one29 : oneB Try.prog 29 = true := by kernel_rfl
theorem map29 : mapB Try.prog 29 24 3 .u32 = true := by kernel_rfl
theorem zv3 : zeroV Try.prog 3 = some (.int .i64 0) := by kernel_rfl
theorem fld31_0 : fldB Try.prog 31 0 0 = true := by kernel_rfl
theorem one22 : oneB Try.prog 22 = true := by kernel_rfl
theorem zero28 : zeroL Try.prog 28 = some [.int .u32 0, .int .i32 0, .int .i32 0, .int .i32 0, .int .i32 0, .int .i32 0, .int .i32 0, .int .i32 0, .int .i32 0, .int .i32 0] := by kernel_rfl
theorem struct28 : structB Try.prog 28 [.int .u32 0, .int .i32 0, .int .i32 0, .int .i32 0, .int .i32 0, .int .i32 0, .int .i32 0, .int .i32 0, .int .i32 0, .int .i32 0] [(0, 1), (1, 1), (2, 2), (4, 1), (5, 1), (6, 2), (8, 2)] := structB_mk Try.underlying28 (by kernel_rfl) (by kernel_rfl) (by kernel_rfl)
theorem cal66 : callOk Try.prog 66 = true := by kernel_rfl
theorem cal46 : callOk Try.prog 46 = true := by kernel_rfl
theorem nifc29 : notIfc Try.prog 29 = true := by kernel_rfl
theorem clones67 : clonesB Try.prog 67 := ⟨_, Try.func67, by decide, by kernel_rfl, by kernel_rfl, by kernel_rfl⟩
theorem struct31 : structB Try.prog 31 [.slice none 0 0, .map none] [(0, 1), (1, 1)] := structB_mk Try.underlying31 (by kernel_rfl) (by kernel_rfl) (by kernel_rfl)
theorem cal43 : callOk Try.prog 43 = true := by kernel_rfl
theorem cal47 : callOk Try.prog 47 = true := by kernel_rfl
theorem cal44 : callOk Try.prog 44 = true := by kernel_rfl
theorem cal15 : callOk Try.prog 15 = true := by kernel_rfl
theorem cal21 : callOk Try.prog 21 = true := by kernel_rfl
theorem cal22 : callOk Try.prog 22 = true := by kernel_rfl
theorem cal24 : callOk Try.prog 24 = true := by kernel_rfl
theorem zero31 : zeroL Try.prog 31 = some [.slice none 0 0, .map none] := by kernel_rfl
theorem cal14 : callOk Try.prog 14 = true := by kernel_rfl
theorem cal19 : callOk Try.prog 19 = true := by kernel_rfl
theorem cal28 : callOk Try.prog 28 = true := by kernel_rfl
theorem cal18 : callOk Try.prog 18 = true := by kernel_rfl
theorem cal17 : callOk Try.prog 17 = true := by kernel_rfl
theorem cal16 : callOk Try.prog 16 = true := by kernel_rfl
theorem cal13 : callOk Try.prog 13 = true := by kernel_rfl
theorem us5 : (Try.prog.underlying 5).isSome = true := by kernel_rfl
theorem cal20 : callOk Try.prog 20 = true := by kernel_rfl
theorem leaves28 : leaves Try.prog 4 28 = some [.u32, .i32, .i32, .i32, .i32, .i32, .i32, .i32, .i32, .i32] := by kernel_rfl
theorem cal23 : callOk Try.prog 23 = true := by kernel_rfl
theorem sl47 : sliceB Try.prog 47 49 11 48 = true := by kernel_rfl
theorem fld49_1 : fldB Try.prog 49 1 1 = true := by kernel_rfl
theorem fld49_0 : fldB Try.prog 49 0 0 = true := by kernel_rfl
theorem one3 : oneB Try.prog 3 = true := by kernel_rfl
theorem cal25 : callOk Try.prog 25 = true := by kernel_rfl
theorem cal26 : callOk Try.prog 26 = true := by kernel_rfl
theorem cal27 : callOk Try.prog 27 = true := by kernel_rfl
theorem leaves49 : leaves Try.prog 5 49 = some [.i64, .u32, .i32, .i32, .i32, .i32, .i32, .i32, .i32, .i32, .i32] := by kernel_rfl
theorem cal48 : callOk Try.prog 48 = true := by kernel_rfl
theorem cal50 : callOk Try.prog 50 = true := by kernel_rfl
theorem cal32 : callOk Try.prog 32 = true := by kernel_rfl
theorem us3 : (Try.prog.underlying 3).isSome = true := by kernel_rfl
theorem us92 : (Try.prog.underlying 92).isSome = true := by kernel_rfl
theorem cal52 : callOk Try.prog 52 = true := by kernel_rfl
theorem cal51 : callOk Try.prog 51 = true := by kernel_rfl
theorem sl64 : sliceB Try.prog 64 24 1 4 = true := by kernel_rfl
theorem fld66_0 : fldB Try.prog 66 0 0 = true := by kernel_rfl
theorem one64 : oneB Try.prog 64 = true := by kernel_rfl
theorem cal40 : callOk Try.prog 40 = true := by kernel_rfl
theorem fld66_1 : fldB Try.prog 66 1 1 = true := by kernel_rfl
theorem fld66_2 : fldB Try.prog 66 2 2 = true := by kernel_rfl
theorem zero66 : zeroL Try.prog 66 = some [.slice none 0 0, .slice none 0 0, .slice none 0 0] := by kernel_rfl
theorem agg66 : aggN Try.prog 66 = some 3 := by kernel_rfl
theorem fld68_0 : fldB Try.prog 68 0 0 = true := by kernel_rfl
theorem fld68_1 : fldB Try.prog 68 1 1 = true := by kernel_rfl
theorem fld68_2 : fldB Try.prog 68 2 2 = true := by kernel_rfl
theorem struct66 : structB Try.prog 66 [.slice none 0 0, .slice none 0 0, .slice none 0 0] [(0, 1), (1, 1), (2, 1)] := structB_mk Try.underlying66 (by kernel_rfl) (by kernel_rfl) (by kernel_rfl)
theorem cal54 : callOk Try.prog 54 = true := by kernel_rfl
theorem zero68 : zeroL Try.prog 68 = some [.slice none 0 0, .slice none 0 0, .slice none 0 0] := by kernel_rfl
theorem cal53 : callOk Try.prog 53 = true := by kernel_rfl
theorem agg68 : aggN Try.prog 68 = some 3 := by kernel_rfl
theorem cal68 : callOk Try.prog 68 = true := by kernel_rfl
theorem cal56 : callOk Try.prog 56 = true := by kernel_rfl
theorem cal55 : callOk Try.prog 55 = true := by kernel_rfl
theorem zero22 : zeroL Try.prog 22 = some [.slice none 0 0] := by kernel_rfl
theorem cal37 : callOk Try.prog 37 = true := by kernel_rfl
theorem cal30 : callOk Try.prog 30 = true := by kernel_rfl
theorem cal34 : callOk Try.prog 34 = true := by kernel_rfl
theorem cal36 : callOk Try.prog 36 = true := by kernel_rfl
theorem cal35 : callOk Try.prog 35 = true := by kernel_rfl
theorem cal29 : callOk Try.prog 29 = true := by kernel_rfl
theorem cal31 : callOk Try.prog 31 = true := by kernel_rfl
theorem cal39 : callOk Try.prog 39 = true := by kernel_rfl
end Go.Proofs.Ytaabkkdpjecknaa
