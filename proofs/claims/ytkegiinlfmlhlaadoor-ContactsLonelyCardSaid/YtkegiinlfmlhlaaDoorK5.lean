/- Part of the proof of the laws of this seat: Ty, R5, R6, Bd, Lib, St. No conditions. -/
import Derived.Test.YtkegiinlfmlhlaaDoorProg
import Derived.Test.YtkegiinlfmlhlaaDoorK2
import Derived.Test.YtkegiinlfmlhlaaDoorK3
import Derived.Test.YtkegiinlfmlhlaaDoorK4
import Derived.KernelRfl
/- Closed facts on the types and functions of this seat. -/
set_option linter.unusedVariables false
set_option linter.unusedSimpArgs false
namespace Go.Proofs.YtkegiinlfmlhlaaDoor
open Go.Bil
open Go.Proofs
theorem one30 : oneB Tryd.prog 30 = true := by kernel_rfl
theorem one21 : oneB Tryd.prog 21 = true := by kernel_rfl
theorem eqI32 : ∀ (d : Nat) (w : World) (x0 x1 y0 y1 : Int), (Op.equalIn (d + 2) 32 (.agg [.int .i32 x0, .int .i32 x1].toArray) (.agg [.int .i32 y0, .int .i32 y1].toArray)).run Tryd.prog w = .ok (decide (x0 = y0 ∧ x1 = y1)) w := fun d w x0 x1 y0 y1 => by
    have h := eq_struct (P := Tryd.prog) (T := 32) (dd := d + 1) (xs := [.int .i32 x0, .int .i32 x1]) (ys := [.int .i32 y0, .int .i32 y1]) (w := w) Tryd.underlying32 (by kernel_rfl) (eqF_cons rfl (part1 one21 rfl) (part1 one21 rfl) (eq_int (dd := d + 0) Tryd.underlying21) (eqF_cons rfl (part1 one21 rfl) (part1 one21 rfl) (eq_int (dd := d + 0) Tryd.underlying21) (eqF_nil)))
    refine h.trans (congrArg (fun r => Result.ok r w) ?_)
    simp only [Bool.decide_and, Bool.and_true, Bool.and_assoc]
theorem agg32 : aggN Tryd.prog 32 = some 2 := by kernel_rfl
theorem eqI34 : ∀ (d : Nat) (w : World) (x0 x1 x2 x3 x4 x5 x6 x7 x8 x9 y0 y1 y2 y3 y4 y5 y6 y7 y8 y9 : Int), (Op.equalIn (d + 3) 34 (.agg [.int .u32 x0, .int .i32 x1, .int .i32 x2, .int .i32 x3, .int .i32 x4, .int .i32 x5, .int .i32 x6, .int .i32 x7, .int .i32 x8, .int .i32 x9].toArray) (.agg [.int .u32 y0, .int .i32 y1, .int .i32 y2, .int .i32 y3, .int .i32 y4, .int .i32 y5, .int .i32 y6, .int .i32 y7, .int .i32 y8, .int .i32 y9].toArray)).run Tryd.prog w = .ok (decide (x0 = y0 ∧ x1 = y1 ∧ x2 = y2 ∧ x3 = y3 ∧ x4 = y4 ∧ x5 = y5 ∧ x6 = y6 ∧ x7 = y7 ∧ x8 = y8 ∧ x9 = y9)) w := fun d w x0 x1 x2 x3 x4 x5 x6 x7 x8 x9 y0 y1 y2 y3 y4 y5 y6 y7 y8 y9 => by
    have h := eq_struct (P := Tryd.prog) (T := 34) (dd := d + 2) (xs := [.int .u32 x0, .int .i32 x1, .int .i32 x2, .int .i32 x3, .int .i32 x4, .int .i32 x5, .int .i32 x6, .int .i32 x7, .int .i32 x8, .int .i32 x9]) (ys := [.int .u32 y0, .int .i32 y1, .int .i32 y2, .int .i32 y3, .int .i32 y4, .int .i32 y5, .int .i32 y6, .int .i32 y7, .int .i32 y8, .int .i32 y9]) (w := w) Tryd.underlying34 (by kernel_rfl) (eqF_cons rfl (part1 one30 rfl) (part1 one30 rfl) (eq_int (dd := d + 1) Tryd.underlying30) (eqF_cons rfl (part1 one21 rfl) (part1 one21 rfl) (eq_int (dd := d + 1) Tryd.underlying21) (eqF_cons rfl (partA agg32 rfl) (partA agg32 rfl) (eqI32 (d + 0) w x2 x3 y2 y3) (eqF_cons rfl (part1 one21 rfl) (part1 one21 rfl) (eq_int (dd := d + 1) Tryd.underlying21) (eqF_cons rfl (part1 one21 rfl) (part1 one21 rfl) (eq_int (dd := d + 1) Tryd.underlying21) (eqF_cons rfl (partA agg32 rfl) (partA agg32 rfl) (eqI32 (d + 0) w x6 x7 y6 y7) (eqF_cons rfl (partA agg32 rfl) (partA agg32 rfl) (eqI32 (d + 0) w x8 x9 y8 y9) (eqF_nil))))))))
    refine h.trans (congrArg (fun r => Result.ok r w) ?_)
    simp only [Bool.decide_and, Bool.and_true, Bool.and_assoc]
theorem eqA34 : ∀ (x0 x1 x2 x3 x4 x5 x6 x7 x8 x9 y0 y1 y2 y3 y4 y5 y6 y7 y8 y9 : Int), EqA Tryd.prog 34 [.int .u32 x0, .int .i32 x1, .int .i32 x2, .int .i32 x3, .int .i32 x4, .int .i32 x5, .int .i32 x6, .int .i32 x7, .int .i32 x8, .int .i32 x9] [.int .u32 y0, .int .i32 y1, .int .i32 y2, .int .i32 y3, .int .i32 y4, .int .i32 y5, .int .i32 y6, .int .i32 y7, .int .i32 y8, .int .i32 y9] (decide (x0 = y0 ∧ x1 = y1 ∧ x2 = y2 ∧ x3 = y3 ∧ x4 = y4 ∧ x5 = y5 ∧ x6 = y6 ∧ x7 = y7 ∧ x8 = y8 ∧ x9 = y9)) := fun x0 x1 x2 x3 x4 x5 x6 x7 x8 x9 y0 y1 y2 y3 y4 y5 y6 y7 y8 y9 => ⟨by kernel_rfl, fun w => eqI34 9997 w x0 x1 x2 x3 x4 x5 x6 x7 x8 x9 y0 y1 y2 y3 y4 y5 y6 y7 y8 y9⟩
theorem eqI36 : ∀ (d : Nat) (w : World) (x0 x1 y0 y1 : Int), (Op.equalIn (d + 2) 36 (.agg [.int .u32 x0, .int .u32 x1].toArray) (.agg [.int .u32 y0, .int .u32 y1].toArray)).run Tryd.prog w = .ok (decide (x0 = y0 ∧ x1 = y1)) w := fun d w x0 x1 y0 y1 => by
    have h := eq_struct (P := Tryd.prog) (T := 36) (dd := d + 1) (xs := [.int .u32 x0, .int .u32 x1]) (ys := [.int .u32 y0, .int .u32 y1]) (w := w) Tryd.underlying36 (by kernel_rfl) (eqF_cons rfl (part1 one30 rfl) (part1 one30 rfl) (eq_int (dd := d + 0) Tryd.underlying30) (eqF_cons rfl (part1 one30 rfl) (part1 one30 rfl) (eq_int (dd := d + 0) Tryd.underlying30) (eqF_nil)))
    refine h.trans (congrArg (fun r => Result.ok r w) ?_)
    simp only [Bool.decide_and, Bool.and_true, Bool.and_assoc]
theorem eqA36 : ∀ (x0 x1 y0 y1 : Int), EqA Tryd.prog 36 [.int .u32 x0, .int .u32 x1] [.int .u32 y0, .int .u32 y1] (decide (x0 = y0 ∧ x1 = y1)) := fun x0 x1 y0 y1 => ⟨by kernel_rfl, fun w => eqI36 9998 w x0 x1 y0 y1⟩
theorem agg36 : aggN Tryd.prog 36 = some 2 := by kernel_rfl
theorem cal43 : callOk Tryd.prog 43 = true := by kernel_rfl
theorem zv36 : zeroV Tryd.prog 36 = some (.agg [.int .u32 0, .int .u32 0].toArray) := by kernel_rfl
theorem eqI38 : ∀ (d : Nat) (w : World) (x0 x1 x2 x3 x4 y0 y1 y2 y3 y4 : Int), (Op.equalIn (d + 3) 38 (.agg [.int .u32 x0, .int .u32 x1, .int .i32 x2, .int .i32 x3, .int .i32 x4].toArray) (.agg [.int .u32 y0, .int .u32 y1, .int .i32 y2, .int .i32 y3, .int .i32 y4].toArray)).run Tryd.prog w = .ok (decide (x0 = y0 ∧ x1 = y1 ∧ x2 = y2 ∧ x3 = y3 ∧ x4 = y4)) w := fun d w x0 x1 x2 x3 x4 y0 y1 y2 y3 y4 => by
    have h := eq_struct (P := Tryd.prog) (T := 38) (dd := d + 2) (xs := [.int .u32 x0, .int .u32 x1, .int .i32 x2, .int .i32 x3, .int .i32 x4]) (ys := [.int .u32 y0, .int .u32 y1, .int .i32 y2, .int .i32 y3, .int .i32 y4]) (w := w) Tryd.underlying38 (by kernel_rfl) (eqF_cons rfl (partA agg36 rfl) (partA agg36 rfl) (eqI36 (d + 0) w x0 x1 y0 y1) (eqF_cons rfl (partA agg32 rfl) (partA agg32 rfl) (eqI32 (d + 0) w x2 x3 y2 y3) (eqF_cons rfl (part1 one21 rfl) (part1 one21 rfl) (eq_int (dd := d + 1) Tryd.underlying21) (eqF_nil))))
    refine h.trans (congrArg (fun r => Result.ok r w) ?_)
    simp only [Bool.decide_and, Bool.and_true, Bool.and_assoc]
theorem eqA38 : ∀ (x0 x1 x2 x3 x4 y0 y1 y2 y3 y4 : Int), EqA Tryd.prog 38 [.int .u32 x0, .int .u32 x1, .int .i32 x2, .int .i32 x3, .int .i32 x4] [.int .u32 y0, .int .u32 y1, .int .i32 y2, .int .i32 y3, .int .i32 y4] (decide (x0 = y0 ∧ x1 = y1 ∧ x2 = y2 ∧ x3 = y3 ∧ x4 = y4)) := fun x0 x1 x2 x3 x4 y0 y1 y2 y3 y4 => ⟨by kernel_rfl, fun w => eqI38 9997 w x0 x1 x2 x3 x4 y0 y1 y2 y3 y4⟩
theorem fld34_1 : fldB Tryd.prog 34 1 1 = true := by kernel_rfl
theorem fld34_2 : fldB Tryd.prog 34 2 2 = true := by kernel_rfl
theorem fld32_0 : fldB Tryd.prog 32 0 0 = true := by kernel_rfl
theorem cal101 : callOk Tryd.prog 101 = true := by kernel_rfl
theorem fld32_1 : fldB Tryd.prog 32 1 1 = true := by kernel_rfl
theorem fld34_3 : fldB Tryd.prog 34 3 4 = true := by kernel_rfl
theorem fld34_4 : fldB Tryd.prog 34 4 5 = true := by kernel_rfl
theorem fld34_5 : fldB Tryd.prog 34 5 6 = true := by kernel_rfl
theorem fld34_6 : fldB Tryd.prog 34 6 8 = true := by kernel_rfl
theorem sl22 : sliceB Tryd.prog 22 34 10 40 = true := by kernel_rfl
theorem fld34_0 : fldB Tryd.prog 34 0 0 = true := by kernel_rfl
theorem mixed : Tryd.prog.follows .mixedOrders = true := by kernel_rfl
theorem agg34 : aggN Tryd.prog 34 = some 10 := by kernel_rfl
theorem cal89 : callOk Tryd.prog 89 = true := by kernel_rfl
theorem cal73 : callOk Tryd.prog 73 = true := by kernel_rfl
theorem cal36 : callOk Tryd.prog 36 = true := by kernel_rfl
theorem cal102 : callOk Tryd.prog 102 = true := by kernel_rfl
theorem cal74 : callOk Tryd.prog 74 = true := by kernel_rfl
theorem cal55 : callOk Tryd.prog 55 = true := by kernel_rfl
theorem cal56 : callOk Tryd.prog 56 = true := by kernel_rfl
theorem sl48 : sliceB Tryd.prog 48 30 1 4 = true := by kernel_rfl
theorem cal127 : callOk Tryd.prog 127 = true := by kernel_rfl
theorem zero86 : zeroL Tryd.prog 86 = some [.int .i32 0, .int .i32 0, .int .i32 0, .int .i32 0] := by kernel_rfl
theorem cal103 : callOk Tryd.prog 103 = true := by kernel_rfl
theorem struct86 : structB Tryd.prog 86 [.int .i32 0, .int .i32 0, .int .i32 0, .int .i32 0] [(0, 1), (1, 1), (2, 1), (3, 1)] := structB_mk Tryd.underlying86 (by kernel_rfl) (by kernel_rfl) (by kernel_rfl)
theorem agg86 : aggN Tryd.prog 86 = some 4 := by kernel_rfl
theorem zero65 : zeroL Tryd.prog 65 = some [.int .i32 0, .int .i32 0, .int .i32 0, .int .i32 0] := by kernel_rfl
theorem cal61 : callOk Tryd.prog 61 = true := by kernel_rfl
theorem struct65 : structB Tryd.prog 65 [.int .i32 0, .int .i32 0, .int .i32 0, .int .i32 0] [(0, 1), (1, 1), (2, 1), (3, 1)] := structB_mk Tryd.underlying65 (by kernel_rfl) (by kernel_rfl) (by kernel_rfl)
theorem agg65 : aggN Tryd.prog 65 = some 4 := by kernel_rfl
theorem fld86_0 : fldB Tryd.prog 86 0 0 = true := by kernel_rfl
theorem fld86_2 : fldB Tryd.prog 86 2 2 = true := by kernel_rfl
theorem fld86_1 : fldB Tryd.prog 86 1 1 = true := by kernel_rfl
theorem fld86_3 : fldB Tryd.prog 86 3 3 = true := by kernel_rfl
theorem fld65_0 : fldB Tryd.prog 65 0 0 = true := by kernel_rfl
theorem fld65_2 : fldB Tryd.prog 65 2 2 = true := by kernel_rfl
theorem fld65_1 : fldB Tryd.prog 65 1 1 = true := by kernel_rfl
theorem fld65_3 : fldB Tryd.prog 65 3 3 = true := by kernel_rfl
theorem cal104 : callOk Tryd.prog 104 = true := by kernel_rfl
theorem cal105 : callOk Tryd.prog 105 = true := by kernel_rfl
theorem cal54 : callOk Tryd.prog 54 = true := by kernel_rfl
theorem zero103 : zeroL Tryd.prog 103 = some [.int .i32 0, .int .i32 0] := by kernel_rfl
theorem struct103 : structB Tryd.prog 103 [.int .i32 0, .int .i32 0] [(0, 1), (1, 1)] := structB_mk Tryd.underlying103 (by kernel_rfl) (by kernel_rfl) (by kernel_rfl)
theorem agg103 : aggN Tryd.prog 103 = some 2 := by kernel_rfl
theorem struct32 : structB Tryd.prog 32 [.int .i32 0, .int .i32 0] [(0, 1), (1, 1)] := structB_mk Tryd.underlying32 (by kernel_rfl) (by kernel_rfl) (by kernel_rfl)
theorem cal49 : callOk Tryd.prog 49 = true := by kernel_rfl
theorem cal112 : callOk Tryd.prog 112 = true := by kernel_rfl
theorem zero4 : zeroL Tryd.prog 4 = some [.bool false] := by kernel_rfl
theorem one4 : oneB Tryd.prog 4 = true := by kernel_rfl
theorem fld103_1 : fldB Tryd.prog 103 1 1 = true := by kernel_rfl
theorem fld103_0 : fldB Tryd.prog 103 0 0 = true := by kernel_rfl
theorem zero121 : zeroL Tryd.prog 121 = some [.slice none 0 0] := by kernel_rfl
theorem cal85 : callOk Tryd.prog 85 = true := by kernel_rfl
theorem cal113 : callOk Tryd.prog 113 = true := by kernel_rfl
theorem one121 : oneB Tryd.prog 121 = true := by kernel_rfl
theorem sl121 : sliceB Tryd.prog 121 103 2 8 = true := by kernel_rfl
theorem us21 : (Tryd.prog.underlying 21).isSome = true := by kernel_rfl
theorem arr129 : arrB Tryd.prog 129 2 30 1 = true := by kernel_rfl
theorem us30 : (Tryd.prog.underlying 30).isSome = true := by kernel_rfl
theorem cal144 : callOk Tryd.prog 144 = true := by kernel_rfl
theorem us3 : (Tryd.prog.underlying 3).isSome = true := by kernel_rfl
theorem us2 : (Tryd.prog.underlying 2).isSome = true := by kernel_rfl
theorem us145 : (Tryd.prog.underlying 145).isSome = true := by kernel_rfl
theorem cal141 : callOk Tryd.prog 141 = true := by kernel_rfl
theorem cal140 : callOk Tryd.prog 140 = true := by kernel_rfl
theorem cal142 : callOk Tryd.prog 142 = true := by kernel_rfl
theorem cal143 : callOk Tryd.prog 143 = true := by kernel_rfl
theorem cal145 : callOk Tryd.prog 145 = true := by kernel_rfl
theorem cal109 : callOk Tryd.prog 109 = true := by kernel_rfl
theorem cal82 : callOk Tryd.prog 82 = true := by kernel_rfl
theorem cal111 : callOk Tryd.prog 111 = true := by kernel_rfl
theorem zero32 : zeroL Tryd.prog 32 = some [.int .i32 0, .int .i32 0] := by kernel_rfl
theorem cal84 : callOk Tryd.prog 84 = true := by kernel_rfl
theorem cal110 : callOk Tryd.prog 110 = true := by kernel_rfl
theorem cal108 : callOk Tryd.prog 108 = true := by kernel_rfl
theorem one2 : oneB Tryd.prog 2 = true := by kernel_rfl
theorem cal139 : callOk Tryd.prog 139 = true := by kernel_rfl
theorem cal137 : callOk Tryd.prog 137 = true := by kernel_rfl
theorem zero2 : zeroL Tryd.prog 2 = some [.int .i64 0] := by kernel_rfl
theorem cal138 : callOk Tryd.prog 138 = true := by kernel_rfl
theorem one145 : oneB Tryd.prog 145 = true := by kernel_rfl
theorem zero145 : zeroL Tryd.prog 145 = some [.int .u64 0] := by kernel_rfl
theorem arr202 : arrB Tryd.prog 202 2 32 2 = true := by kernel_rfl
theorem zero202 : zeroL Tryd.prog 202 = some [.int .i32 0, .int .i32 0, .int .i32 0, .int .i32 0] := by kernel_rfl
theorem cal135 : callOk Tryd.prog 135 = true := by kernel_rfl
theorem cal134 : callOk Tryd.prog 134 = true := by kernel_rfl
theorem cal129 : callOk Tryd.prog 129 = true := by kernel_rfl
theorem zero140 : zeroL Tryd.prog 140 = some [.int .u32 0, .int .i32 0, .int .i32 0, .int .i32 0, .int .i32 0, .int .i32 0, .int .i32 0, .int .i32 0, .int .i32 0, .int .i32 0, .int .i32 0, .int .i32 0, .int .i32 0, .int .i32 0] := by kernel_rfl
theorem cal128 : callOk Tryd.prog 128 = true := by kernel_rfl
theorem struct140 : structB Tryd.prog 140 [.int .u32 0, .int .i32 0, .int .i32 0, .int .i32 0, .int .i32 0, .int .i32 0, .int .i32 0, .int .i32 0, .int .i32 0, .int .i32 0, .int .i32 0, .int .i32 0, .int .i32 0, .int .i32 0] [(0, 10), (10, 2), (12, 2)] := structB_mk Tryd.underlying140 (by kernel_rfl) (by kernel_rfl) (by kernel_rfl)
theorem agg140 : aggN Tryd.prog 140 = some 14 := by kernel_rfl
theorem cal106 : callOk Tryd.prog 106 = true := by kernel_rfl
theorem fld140_1 : fldB Tryd.prog 140 1 10 = true := by kernel_rfl
theorem fld140_2 : fldB Tryd.prog 140 2 12 = true := by kernel_rfl
theorem cal107 : callOk Tryd.prog 107 = true := by kernel_rfl
theorem fld140_0 : fldB Tryd.prog 140 0 0 = true := by kernel_rfl
theorem zero38 : zeroL Tryd.prog 38 = some [.int .u32 0, .int .u32 0, .int .i32 0, .int .i32 0, .int .i32 0] := by kernel_rfl
theorem cal80 : callOk Tryd.prog 80 = true := by kernel_rfl
theorem cal81 : callOk Tryd.prog 81 = true := by kernel_rfl
theorem struct38 : structB Tryd.prog 38 [.int .u32 0, .int .u32 0, .int .i32 0, .int .i32 0, .int .i32 0] [(0, 2), (2, 2), (4, 1)] := structB_mk Tryd.underlying38 (by kernel_rfl) (by kernel_rfl) (by kernel_rfl)
theorem agg38 : aggN Tryd.prog 38 = some 5 := by kernel_rfl
theorem struct36 : structB Tryd.prog 36 [.int .u32 0, .int .u32 0] [(0, 1), (1, 1)] := structB_mk Tryd.underlying36 (by kernel_rfl) (by kernel_rfl) (by kernel_rfl)
theorem zero36 : zeroL Tryd.prog 36 = some [.int .u32 0, .int .u32 0] := by kernel_rfl
theorem cal83 : callOk Tryd.prog 83 = true := by kernel_rfl
theorem fld51_1 : fldB Tryd.prog 51 1 1024 = true := by kernel_rfl
theorem one3 : oneB Tryd.prog 3 = true := by kernel_rfl
theorem cal62 : callOk Tryd.prog 62 = true := by kernel_rfl
theorem cal48 : callOk Tryd.prog 48 = true := by kernel_rfl
theorem map120 : mapB Tryd.prog 120 3 4 .i64 = true := by kernel_rfl
theorem zv4 : zeroV Tryd.prog 4 = some (.bool false) := by kernel_rfl
theorem fld51_0 : fldB Tryd.prog 51 0 0 = true := by kernel_rfl
theorem arr49 : arrB Tryd.prog 49 1024 48 1 = true := by kernel_rfl
theorem one48 : oneB Tryd.prog 48 = true := by kernel_rfl
theorem sl97 : sliceB Tryd.prog 97 3 1 8 = true := by kernel_rfl
theorem fld36_0 : fldB Tryd.prog 36 0 0 = true := by kernel_rfl
theorem fld36_1 : fldB Tryd.prog 36 1 1 = true := by kernel_rfl
theorem cal68 : callOk Tryd.prog 68 = true := by kernel_rfl
theorem cal67 : callOk Tryd.prog 67 = true := by kernel_rfl
theorem one88 : oneB Tryd.prog 88 = true := by kernel_rfl
theorem cal66 : callOk Tryd.prog 66 = true := by kernel_rfl
theorem one56 : oneB Tryd.prog 56 = true := by kernel_rfl
theorem sl56 : sliceB Tryd.prog 56 36 2 8 = true := by kernel_rfl
theorem cal87 : callOk Tryd.prog 87 = true := by kernel_rfl
theorem cal64 : callOk Tryd.prog 64 = true := by kernel_rfl
theorem cal65 : callOk Tryd.prog 65 = true := by kernel_rfl
theorem agg49 : aggN Tryd.prog 49 = some 1024 := by kernel_rfl
theorem cal40 : callOk Tryd.prog 40 = true := by kernel_rfl
theorem struct89 : structB Tryd.prog 89 [] [] := structB_mk Tryd.underlying89 (by kernel_rfl) (by kernel_rfl) (by kernel_rfl)
theorem cal42 : callOk Tryd.prog 42 = true := by kernel_rfl
theorem cal41 : callOk Tryd.prog 41 = true := by kernel_rfl
theorem zero34 : zeroL Tryd.prog 34 = some [.int .u32 0, .int .i32 0, .int .i32 0, .int .i32 0, .int .i32 0, .int .i32 0, .int .i32 0, .int .i32 0, .int .i32 0, .int .i32 0] := by kernel_rfl
theorem cal75 : callOk Tryd.prog 75 = true := by kernel_rfl
theorem map112 : mapB Tryd.prog 112 30 86 .u32 = true := by kernel_rfl
theorem zero3 : zeroL Tryd.prog 3 = some [.int .i64 0] := by kernel_rfl
theorem one112 : oneB Tryd.prog 112 = true := by kernel_rfl
theorem zv86 : zeroV Tryd.prog 86 = some (.agg [.int .i32 0, .int .i32 0, .int .i32 0, .int .i32 0].toArray) := by kernel_rfl
theorem cal77 : callOk Tryd.prog 77 = true := by kernel_rfl
theorem cal76 : callOk Tryd.prog 76 = true := by kernel_rfl
theorem cal79 : callOk Tryd.prog 79 = true := by kernel_rfl
theorem cal57 : callOk Tryd.prog 57 = true := by kernel_rfl
theorem cal38 : callOk Tryd.prog 38 = true := by kernel_rfl
theorem cal58 : callOk Tryd.prog 58 = true := by kernel_rfl
theorem cal23 : callOk Tryd.prog 23 = true := by kernel_rfl
theorem cal59 : callOk Tryd.prog 59 = true := by kernel_rfl
theorem cal78 : callOk Tryd.prog 78 = true := by kernel_rfl
theorem cal37 : callOk Tryd.prog 37 = true := by kernel_rfl
theorem cal29 : callOk Tryd.prog 29 = true := by kernel_rfl
theorem cal32 : callOk Tryd.prog 32 = true := by kernel_rfl
theorem fld78_0 : fldB Tryd.prog 78 0 0 = true := by kernel_rfl
theorem one76 : oneB Tryd.prog 76 = true := by kernel_rfl
theorem map76 : mapB Tryd.prog 76 30 34 .u32 = true := by kernel_rfl
theorem zv34 : zeroV Tryd.prog 34 = some (.agg [.int .u32 0, .int .i32 0, .int .i32 0, .int .i32 0, .int .i32 0, .int .i32 0, .int .i32 0, .int .i32 0, .int .i32 0, .int .i32 0].toArray) := by kernel_rfl
theorem cal60 : callOk Tryd.prog 60 = true := by kernel_rfl
theorem fld78_1 : fldB Tryd.prog 78 1 1 = true := by kernel_rfl
theorem one26 : oneB Tryd.prog 26 = true := by kernel_rfl
theorem sl26 : sliceB Tryd.prog 26 38 5 20 = true := by kernel_rfl
theorem cal35 : callOk Tryd.prog 35 = true := by kernel_rfl
theorem struct78 : structB Tryd.prog 78 [.map none, .slice none 0 0] [(0, 1), (1, 1)] := structB_mk Tryd.underlying78 (by kernel_rfl) (by kernel_rfl) (by kernel_rfl)
theorem cal33 : callOk Tryd.prog 33 = true := by kernel_rfl
theorem cal34 : callOk Tryd.prog 34 = true := by kernel_rfl
theorem fld38_0 : fldB Tryd.prog 38 0 0 = true := by kernel_rfl
theorem fld38_2 : fldB Tryd.prog 38 2 4 = true := by kernel_rfl
theorem struct34 : structB Tryd.prog 34 [.int .u32 0, .int .i32 0, .int .i32 0, .int .i32 0, .int .i32 0, .int .i32 0, .int .i32 0, .int .i32 0, .int .i32 0, .int .i32 0] [(0, 1), (1, 1), (2, 2), (4, 1), (5, 1), (6, 2), (8, 2)] := structB_mk Tryd.underlying34 (by kernel_rfl) (by kernel_rfl) (by kernel_rfl)
theorem cal13 : callOk Tryd.prog 13 = true := by kernel_rfl
theorem cal17 : callOk Tryd.prog 17 = true := by kernel_rfl
theorem cal14 : callOk Tryd.prog 14 = true := by kernel_rfl
theorem cal11 : callOk Tryd.prog 11 = true := by kernel_rfl
theorem cal12 : callOk Tryd.prog 12 = true := by kernel_rfl
theorem leaves34 : leaves Tryd.prog 4 34 = some [.u32, .i32, .i32, .i32, .i32, .i32, .i32, .i32, .i32, .i32] := by kernel_rfl
theorem cal15 : callOk Tryd.prog 15 = true := by kernel_rfl
theorem leaves32 : leaves Tryd.prog 3 32 = some [.i32, .i32] := by kernel_rfl
theorem us5 : (Tryd.prog.underlying 5).isSome = true := by kernel_rfl
theorem cal16 : callOk Tryd.prog 16 = true := by kernel_rfl
end Go.Proofs.YtkegiinlfmlhlaaDoor

/- Walks of Go functions over the frame of this claim: what each computes, for every input of the stated types (R5). -/
set_option linter.unusedVariables false
set_option linter.unusedSimpArgs false
set_option linter.unnecessarySimpa false
namespace Go.Proofs.YtkegiinlfmlhlaaDoor
open Go.Bil
open Go.RowKit (Below)
open Go.Proofs

set_option maxHeartbeats 4000000 in
theorem ref05_In (w : World) (n l : Int) (h0 : 0 ≤ l) (h1 : l ≤ 2147483647) :
    Calls Tryd.prog 101 #[.int .i32 n, .int .i32 l] w (fun ex w' => ∃ v, ex = .returned v ∧ (fun v w' => v = .bool (decide (inR n l)) ∧ Below w.heap.size w w') v w') := by
  have hneg : IntKind.i32.wrap (-l) = -l := wr32 _ (by omega) (by omega)
  refine calls_of_W #[.tmp 4] 14 Tryd.func101 rfl Tryd.results101 Tryd.ntmps101 rfl ?_
  have M0 := Mem.refl w
  refine W_seq ?_
  refine W_region ?_
  refine wl_q (r_assign (.bool false) rfl) rfl rfl ?_
  refine wl_nil ?_
  refine thenN ?_
  refine W_seq ?_
  refine W_region ?_
  refine wl_q (r_move (.int _ _) rfl) rfl rfl ?_
  refine wl_q (r_move (.int _ _) rfl) rfl rfl ?_
  refine wl_q (r_neg rfl) rfl rfl ?_
  refine wl_re 7 (.int .i32 (-l)) (iE hneg) ?_
  refine wl_q (r_bin (.bool (decide _)) rfl rfl rfl) rfl rfl ?_
  refine wl_q (r_move (.bool (decide _)) rfl) rfl rfl ?_
  refine wl_splitD 9 rfl (fun g9 => ?_) (fun g9 => ?_)
  · skip
    refine wl_q (r_move (.int _ _) rfl) rfl rfl ?_
    refine wl_q (r_move (.int _ _) rfl) rfl rfl ?_
    refine wl_q (r_bin (.bool (decide _)) rfl rfl rfl) rfl rfl ?_
    refine wl_q (r_pick true (.bool (decide _)) rfl rfl) rfl rfl ?_
    refine wl_q (r_assign (.bool (decide _)) rfl) rfl rfl ?_
    refine wl_nil ?_
    refine thenN ?_
    refine W_ret ?_
    skip
    refine fin1 (.bool (decide _)) rfl ?_
    exact ⟨by unfold inR; first | exact bF (by omega) | exact bD (by omega), M0.below⟩
  · skip
    refine wl_skip rfl rfl ?_
    refine wl_skip rfl rfl ?_
    refine wl_skip rfl rfl ?_
    refine wl_q (r_pick false (.bool false) rfl rfl) rfl rfl ?_
    refine wl_q (r_assign (.bool false) rfl) rfl rfl ?_
    refine wl_nil ?_
    refine thenN ?_
    refine W_ret ?_
    skip
    refine fin1 (.bool false) rfl ?_
    exact ⟨by unfold inR; first | exact bF (by omega) | exact bD (by omega), M0.below⟩

set_option maxHeartbeats 4000000 in
theorem ref05_Check (w : World) (b : Body) :
    Calls Tryd.prog 73 #[(.agg (bodyCells b).toArray)] w (fun ex w' => ∃ v, ex = .returned v ∧ (fun v w' => v = .int .i64 (check b) ∧ Below w.heap.size w w') v w') := by
  refine calls_of_W #[.tmp 2] 63 Tryd.func73 rfl Tryd.results73 Tryd.ntmps73 rfl ?_
  have M0 := Mem.refl w
  refine W_seq ?_
  refine W_region ?_
  refine wl_box (.agg (List.toArray _)) M0 rfl rfl rfl (fun b1 w1 M1 => ?_)
  refine wl_q (r_assign (.int _ _) rfl) rfl rfl ?_
  refine wl_nil ?_
  refine thenN ?_
  refine W_seq ?_
  refine W_seq ?_
  refine W_region ?_
  refine wl_q (r_fieldAddr 1 fld34_1 rfl) rfl rfl ?_
  refine wl_q (r_ld 0 (.int _ _) one21 M1 rfl rfl rfl) rfl rfl ?_
  refine wl_q (r_bin (.bool (decide _)) rfl rfl rfl) rfl rfl ?_
  refine wl_q (r_move (.bool (decide _)) rfl) rfl rfl ?_
  refine wl_splitD 6 rfl (fun g6 => ?_) (fun g6 => ?_)
  · skip
    refine wl_skip rfl rfl ?_
    refine wl_skip rfl rfl ?_
    refine wl_skip rfl rfl ?_
    refine wl_q (r_pick true (.bool true) rfl rfl) rfl rfl ?_
    refine wl_nil ?_
    refine thenN ?_
    refine W_condT rfl ?_
    refine W_seq ?_
    refine W_region ?_
    refine wl_q (r_assign (.int _ _) rfl) rfl rfl ?_
    refine wl_nil ?_
    refine thenN ?_
    refine W_ret ?_
    refine thenR ?_
    skip
    refine fin1 (.int _ _) rfl ?_
    exact ⟨iE (by unfold check; unfold inR at *; (repeat' split) <;> omega), M1.below⟩
  · skip
    refine wl_q (r_fieldAddr 1 fld34_1 rfl) rfl rfl ?_
    refine wl_q (r_ld 0 (.int _ _) one21 M1 rfl rfl rfl) rfl rfl ?_
    refine wl_q (r_bin (.bool (decide _)) rfl rfl rfl) rfl rfl ?_
    refine wl_q (r_pick false (.bool (decide _)) rfl rfl) rfl rfl ?_
    refine wl_nil ?_
    refine thenN ?_
    refine W_condD rfl (fun h10 => ?_) (fun h10 => ?_)
    · skip
      refine W_seq ?_
      refine W_region ?_
      refine wl_q (r_assign (.int _ _) rfl) rfl rfl ?_
      refine wl_nil ?_
      refine thenN ?_
      refine W_ret ?_
      refine thenR ?_
      skip
      refine fin1 (.int _ _) rfl ?_
      exact ⟨iE (by unfold check; unfold inR at *; (repeat' split) <;> omega), M1.below⟩
    · skip
      refine W_skip ?_
      refine thenN ?_
      refine W_seq ?_
      refine W_seq ?_
      refine W_region ?_
      refine wl_q (r_fieldAddr 2 fld34_2 rfl) rfl rfl ?_
      refine wl_q (r_fieldAddr 0 fld32_0 rfl) rfl rfl ?_
      refine wl_q (r_ld 0 (.int _ _) one21 M1 rfl rfl rfl) rfl rfl ?_
      refine wl_cal cal101 rfl rfl rfl ?_
      refine (ref05_In _ _ _ (by omega) (by omega)).mono ?_
      rintro _ w2 ⟨v2, rfl, ⟨rfl, hb2⟩⟩
      refine ⟨_, rfl, ?_⟩
      have M2 := M1.callB hb2
      refine wl_q (r_not rfl) rfl rfl ?_
      refine wl_q (r_move (.bool (decide _)) rfl) rfl rfl ?_
      refine wl_splitD 16 rfl (fun g16 => ?_) (fun g16 => ?_)
      · skip
        refine wl_skip rfl rfl ?_
        refine wl_skip rfl rfl ?_
        refine wl_skip rfl rfl ?_
        refine wl_skip rfl rfl ?_
        refine wl_skip rfl rfl ?_
        refine wl_q (r_pick true (.bool true) rfl rfl) rfl rfl ?_
        refine wl_nil ?_
        refine thenN ?_
        refine W_condT rfl ?_
        refine W_seq ?_
        refine W_region ?_
        refine wl_q (r_assign (.int _ _) rfl) rfl rfl ?_
        refine wl_nil ?_
        refine thenN ?_
        refine W_ret ?_
        refine thenR ?_
        skip
        refine fin1 (.int _ _) rfl ?_
        exact ⟨iE (by unfold check; unfold inR at *; (repeat' split) <;> omega), M2.below⟩
      · skip
        refine wl_q (r_fieldAddr 2 fld34_2 rfl) rfl rfl ?_
        refine wl_q (r_fieldAddr 1 fld32_1 rfl) rfl rfl ?_
        refine wl_q (r_ld 0 (.int _ _) one21 M2 rfl rfl rfl) rfl rfl ?_
        refine wl_cal cal101 rfl rfl rfl ?_
        refine (ref05_In _ _ _ (by omega) (by omega)).mono ?_
        rintro _ w3 ⟨v3, rfl, ⟨rfl, hb3⟩⟩
        refine ⟨_, rfl, ?_⟩
        have M3 := M2.callB hb3
        refine wl_q (r_not rfl) rfl rfl ?_
        refine wl_q (r_pick false (.bool (decide _)) rfl rfl) rfl rfl ?_
        refine wl_nil ?_
        refine thenN ?_
        refine W_condD rfl (fun h22 => ?_) (fun h22 => ?_)
        · skip
          refine W_seq ?_
          refine W_region ?_
          refine wl_q (r_assign (.int _ _) rfl) rfl rfl ?_
          refine wl_nil ?_
          refine thenN ?_
          refine W_ret ?_
          refine thenR ?_
          skip
          refine fin1 (.int _ _) rfl ?_
          exact ⟨iE (by unfold check; unfold inR at *; (repeat' split) <;> omega), M3.below⟩
        · skip
          refine W_skip ?_
          refine thenN ?_
          refine W_seq ?_
          refine W_seq ?_
          refine W_region ?_
          refine wl_q (r_fieldAddr 4 fld34_3 rfl) rfl rfl ?_
          refine wl_q (r_ld 0 (.int _ _) one21 M3 rfl rfl rfl) rfl rfl ?_
          refine wl_q (r_bin (.bool (decide _)) rfl rfl rfl) rfl rfl ?_
          refine wl_q (r_move (.bool (decide _)) rfl) rfl rfl ?_
          refine wl_splitD 26 rfl (fun g26 => ?_) (fun g26 => ?_)
          · skip
            refine wl_skip rfl rfl ?_
            refine wl_skip rfl rfl ?_
            refine wl_skip rfl rfl ?_
            refine wl_q (r_pick true (.bool true) rfl rfl) rfl rfl ?_
            refine wl_nil ?_
            refine thenN ?_
            refine W_condT rfl ?_
            refine W_seq ?_
            refine W_region ?_
            refine wl_q (r_assign (.int _ _) rfl) rfl rfl ?_
            refine wl_nil ?_
            refine thenN ?_
            refine W_ret ?_
            refine thenR ?_
            skip
            refine fin1 (.int _ _) rfl ?_
            exact ⟨iE (by unfold check; unfold inR at *; (repeat' split) <;> omega), M3.below⟩
          · skip
            refine wl_q (r_fieldAddr 4 fld34_3 rfl) rfl rfl ?_
            refine wl_q (r_ld 0 (.int _ _) one21 M3 rfl rfl rfl) rfl rfl ?_
            refine wl_q (r_bin (.bool (decide _)) rfl rfl rfl) rfl rfl ?_
            refine wl_q (r_pick false (.bool (decide _)) rfl rfl) rfl rfl ?_
            refine wl_nil ?_
            refine thenN ?_
            refine W_condD rfl (fun h30 => ?_) (fun h30 => ?_)
            · skip
              refine W_seq ?_
              refine W_region ?_
              refine wl_q (r_assign (.int _ _) rfl) rfl rfl ?_
              refine wl_nil ?_
              refine thenN ?_
              refine W_ret ?_
              refine thenR ?_
              skip
              refine fin1 (.int _ _) rfl ?_
              exact ⟨iE (by unfold check; unfold inR at *; (repeat' split) <;> omega), M3.below⟩
            · skip
              refine W_skip ?_
              refine thenN ?_
              refine W_seq ?_
              refine W_seq ?_
              refine W_region ?_
              refine wl_q (r_fieldAddr 5 fld34_4 rfl) rfl rfl ?_
              refine wl_q (r_ld 0 (.int _ _) one21 M3 rfl rfl rfl) rfl rfl ?_
              refine wl_q (r_bin (.bool (decide _)) rfl rfl rfl) rfl rfl ?_
              refine wl_q (r_move (.bool (decide _)) rfl) rfl rfl ?_
              refine wl_splitD 34 rfl (fun g34 => ?_) (fun g34 => ?_)
              · skip
                refine wl_skip rfl rfl ?_
                refine wl_skip rfl rfl ?_
                refine wl_skip rfl rfl ?_
                refine wl_q (r_pick true (.bool true) rfl rfl) rfl rfl ?_
                refine wl_nil ?_
                refine thenN ?_
                refine W_condT rfl ?_
                refine W_seq ?_
                refine W_region ?_
                refine wl_q (r_assign (.int _ _) rfl) rfl rfl ?_
                refine wl_nil ?_
                refine thenN ?_
                refine W_ret ?_
                refine thenR ?_
                skip
                refine fin1 (.int _ _) rfl ?_
                exact ⟨iE (by unfold check; unfold inR at *; (repeat' split) <;> omega), M3.below⟩
              · skip
                refine wl_q (r_fieldAddr 5 fld34_4 rfl) rfl rfl ?_
                refine wl_q (r_ld 0 (.int _ _) one21 M3 rfl rfl rfl) rfl rfl ?_
                refine wl_q (r_bin (.bool (decide _)) rfl rfl rfl) rfl rfl ?_
                refine wl_q (r_pick false (.bool (decide _)) rfl rfl) rfl rfl ?_
                refine wl_nil ?_
                refine thenN ?_
                refine W_condD rfl (fun h38 => ?_) (fun h38 => ?_)
                · skip
                  refine W_seq ?_
                  refine W_region ?_
                  refine wl_q (r_assign (.int _ _) rfl) rfl rfl ?_
                  refine wl_nil ?_
                  refine thenN ?_
                  refine W_ret ?_
                  refine thenR ?_
                  skip
                  refine fin1 (.int _ _) rfl ?_
                  exact ⟨iE (by unfold check; unfold inR at *; (repeat' split) <;> omega), M3.below⟩
                · skip
                  refine W_skip ?_
                  refine thenN ?_
                  refine W_seq ?_
                  refine W_seq ?_
                  refine W_region ?_
                  refine wl_q (r_fieldAddr 6 fld34_5 rfl) rfl rfl ?_
                  refine wl_q (r_fieldAddr 0 fld32_0 rfl) rfl rfl ?_
                  refine wl_q (r_ld 0 (.int _ _) one21 M3 rfl rfl rfl) rfl rfl ?_
                  refine wl_cal cal101 rfl rfl rfl ?_
                  refine (ref05_In _ _ _ (by omega) (by omega)).mono ?_
                  rintro _ w4 ⟨v4, rfl, ⟨rfl, hb4⟩⟩
                  refine ⟨_, rfl, ?_⟩
                  have M4 := M3.callB hb4
                  refine wl_q (r_not rfl) rfl rfl ?_
                  refine wl_q (r_move (.bool (decide _)) rfl) rfl rfl ?_
                  refine wl_splitD 44 rfl (fun g44 => ?_) (fun g44 => ?_)
                  · skip
                    refine wl_skip rfl rfl ?_
                    refine wl_skip rfl rfl ?_
                    refine wl_skip rfl rfl ?_
                    refine wl_skip rfl rfl ?_
                    refine wl_skip rfl rfl ?_
                    refine wl_q (r_pick true (.bool true) rfl rfl) rfl rfl ?_
                    refine wl_nil ?_
                    refine thenN ?_
                    refine W_condT rfl ?_
                    refine W_seq ?_
                    refine W_region ?_
                    refine wl_q (r_assign (.int _ _) rfl) rfl rfl ?_
                    refine wl_nil ?_
                    refine thenN ?_
                    refine W_ret ?_
                    refine thenR ?_
                    skip
                    refine fin1 (.int _ _) rfl ?_
                    exact ⟨iE (by unfold check; unfold inR at *; (repeat' split) <;> omega), M4.below⟩
                  · skip
                    refine wl_q (r_fieldAddr 6 fld34_5 rfl) rfl rfl ?_
                    refine wl_q (r_fieldAddr 1 fld32_1 rfl) rfl rfl ?_
                    refine wl_q (r_ld 0 (.int _ _) one21 M4 rfl rfl rfl) rfl rfl ?_
                    refine wl_cal cal101 rfl rfl rfl ?_
                    refine (ref05_In _ _ _ (by omega) (by omega)).mono ?_
                    rintro _ w5 ⟨v5, rfl, ⟨rfl, hb5⟩⟩
                    refine ⟨_, rfl, ?_⟩
                    have M5 := M4.callB hb5
                    refine wl_q (r_not rfl) rfl rfl ?_
                    refine wl_q (r_pick false (.bool (decide _)) rfl rfl) rfl rfl ?_
                    refine wl_nil ?_
                    refine thenN ?_
                    refine W_condD rfl (fun h50 => ?_) (fun h50 => ?_)
                    · skip
                      refine W_seq ?_
                      refine W_region ?_
                      refine wl_q (r_assign (.int _ _) rfl) rfl rfl ?_
                      refine wl_nil ?_
                      refine thenN ?_
                      refine W_ret ?_
                      refine thenR ?_
                      skip
                      refine fin1 (.int _ _) rfl ?_
                      exact ⟨iE (by unfold check; unfold inR at *; (repeat' split) <;> omega), M5.below⟩
                    · skip
                      refine W_skip ?_
                      refine thenN ?_
                      refine W_seq ?_
                      refine W_seq ?_
                      refine W_region ?_
                      refine wl_q (r_fieldAddr 8 fld34_6 rfl) rfl rfl ?_
                      refine wl_q (r_fieldAddr 0 fld32_0 rfl) rfl rfl ?_
                      refine wl_q (r_ld 0 (.int _ _) one21 M5 rfl rfl rfl) rfl rfl ?_
                      refine wl_cal cal101 rfl rfl rfl ?_
                      refine (ref05_In _ _ _ (by omega) (by omega)).mono ?_
                      rintro _ w6 ⟨v6, rfl, ⟨rfl, hb6⟩⟩
                      refine ⟨_, rfl, ?_⟩
                      have M6 := M5.callB hb6
                      refine wl_q (r_not rfl) rfl rfl ?_
                      refine wl_q (r_move (.bool (decide _)) rfl) rfl rfl ?_
                      refine wl_splitD 56 rfl (fun g56 => ?_) (fun g56 => ?_)
                      · skip
                        refine wl_skip rfl rfl ?_
                        refine wl_skip rfl rfl ?_
                        refine wl_skip rfl rfl ?_
                        refine wl_skip rfl rfl ?_
                        refine wl_skip rfl rfl ?_
                        refine wl_q (r_pick true (.bool true) rfl rfl) rfl rfl ?_
                        refine wl_nil ?_
                        refine thenN ?_
                        refine W_condT rfl ?_
                        refine W_seq ?_
                        refine W_region ?_
                        refine wl_q (r_assign (.int _ _) rfl) rfl rfl ?_
                        refine wl_nil ?_
                        refine thenN ?_
                        refine W_ret ?_
                        refine thenR ?_
                        skip
                        refine fin1 (.int _ _) rfl ?_
                        exact ⟨iE (by unfold check; unfold inR at *; (repeat' split) <;> omega), M6.below⟩
                      · skip
                        refine wl_q (r_fieldAddr 8 fld34_6 rfl) rfl rfl ?_
                        refine wl_q (r_fieldAddr 1 fld32_1 rfl) rfl rfl ?_
                        refine wl_q (r_ld 0 (.int _ _) one21 M6 rfl rfl rfl) rfl rfl ?_
                        refine wl_cal cal101 rfl rfl rfl ?_
                        refine (ref05_In _ _ _ (by omega) (by omega)).mono ?_
                        rintro _ w7 ⟨v7, rfl, ⟨rfl, hb7⟩⟩
                        refine ⟨_, rfl, ?_⟩
                        have M7 := M6.callB hb7
                        refine wl_q (r_not rfl) rfl rfl ?_
                        refine wl_q (r_pick false (.bool (decide _)) rfl rfl) rfl rfl ?_
                        refine wl_nil ?_
                        refine thenN ?_
                        refine W_condD rfl (fun h62 => ?_) (fun h62 => ?_)
                        · skip
                          refine W_seq ?_
                          refine W_region ?_
                          refine wl_q (r_assign (.int _ _) rfl) rfl rfl ?_
                          refine wl_nil ?_
                          refine thenN ?_
                          refine W_ret ?_
                          refine thenR ?_
                          skip
                          refine fin1 (.int _ _) rfl ?_
                          exact ⟨iE (by unfold check; unfold inR at *; (repeat' split) <;> omega), M7.below⟩
                        · skip
                          refine W_skip ?_
                          refine thenN ?_
                          refine W_seq ?_
                          refine W_region ?_
                          refine wl_q (r_assign (.int _ _) rfl) rfl rfl ?_
                          refine wl_nil ?_
                          refine thenN ?_
                          refine W_ret ?_
                          skip
                          refine fin1 (.int _ _) rfl ?_
                          exact ⟨iE (by unfold check; unfold inR at *; (repeat' split) <;> omega), M7.below⟩

end Go.Proofs.YtkegiinlfmlhlaaDoor

/- Walks of Go functions over the frame of this claim: what each computes, for every input of the stated types (R6). -/
set_option linter.unusedVariables false
set_option linter.unusedSimpArgs false
set_option linter.unnecessarySimpa false
namespace Go.Proofs.YtkegiinlfmlhlaaDoor
open Go.Bil
open Go.RowKit (Below)
open Go.Proofs

theorem eqBody (a b : Body) : EqA Tryd.prog 34 (bodyCells a) (bodyCells b) (decide (a = b)) := by
  have h := eqA34 a.key a.radius a.ax a.ay a.mass a.bounce a.px a.py a.vx a.vy b.key b.radius b.ax b.ay b.mass b.bounce b.px b.py b.vx b.vy
  rw [decide_eq_decide.2 (body_ext (a := a) (b := b))]
  exact h

set_option maxHeartbeats 4000000 in
theorem ref06_Find (w : World) (key : Int) (A : Option Addr) (n c : Nat) (xs : List Body) (R : Rd w 10 A n (xs.map bodyCells)) :
    Calls Tryd.prog 36 #[.slice A n c, .int .u32 key] w (fun ex w' => ∃ v, ex = .returned v ∧ (fun v w' => v = .int .i64 (findI key xs) ∧ Below w.heap.size w w') v w') := by
  have hlen : xs.length = n := by simpa using R.len
  have hbd := R.bound
  refine calls_of_W #[.tmp 4] 20 Tryd.func36 rfl Tryd.results36 Tryd.ntmps36 rfl ?_
  have M0 := Mem.refl w
  refine W_seq ?_
  refine W_region ?_
  refine wl_q (r_assign (.int _ _) rfl) rfl rfl ?_
  refine wl_nil ?_
  refine thenN ?_
  refine W_seq ?_
  refine W_seq ?_
  refine W_region ?_
  refine wl_q (r_assign (.int _ _) rfl) rfl rfl ?_
  refine wl_nil ?_
  refine thenN ?_
  refine W_block ?_
  refine W_loop (σ := Nat) [0, 1] (fun k => [(5, .int .i64 (k : Int))]) (fun k w' => (k ≤ n ∧ ∀ (j : Nat) (c : Body), j < k → xs[j]? = some c → c.key ≠ key) ∧ Mem w [] [] w') (fun k => n - k) 0 (agC rfl agN) (⟨⟨by omega, fun j c hj => by omega⟩, M0⟩) ?_
  rintro k ρ1 w1 ⟨⟨hk, hne⟩, hM1⟩
  refine W_seq ?_
  refine W_seq ?_
  refine W_region ?_
  refine wl_q (r_move (.int _ _) rfl) rfl rfl ?_
  refine wl_q (r_move (.slice _ _ _) rfl) rfl rfl ?_
  refine wl_q (r_lenS Tryd.underlying22 rfl) rfl rfl ?_
  refine wl_q (r_bin (.bool (decide _)) rfl rfl rfl) rfl rfl ?_
  refine wl_nil ?_
  refine thenN ?_
  refine W_condD rfl (fun h9 => ?_) (fun h9 => ?_)
  · skip
    obtain ⟨xb, hxb⟩ := getSome (k := k) hlen (by omega)
    refine W_skip ?_
    refine thenN ?_
    refine W_seq ?_
    refine W_block ?_
    refine W_seq ?_
    refine W_region ?_
    refine wl_q (r_move (.slice _ _ _) rfl) rfl rfl ?_
    refine wl_q (r_move (.int _ _) rfl) rfl rfl ?_
    refine wl_q (r_idxR (k) sl22 rfl rfl rfl ((R.mem hM1).below_len (mapGet bodyCells hxb)) ((R.mem hM1).someK (mapGet bodyCells hxb))) rfl rfl ?_
    refine wl_q (r_fieldAddrE 0 fld34_0 (R.mem hM1) (Nat.lt_of_le_of_lt (Nat.zero_le _) ((R.mem hM1).below_len (mapGet bodyCells hxb))) rfl) rfl rfl ?_
    refine wl_q (r_ldE (o := 0) (.int _ _) one30 (R.mem hM1) (mapGet bodyCells hxb) rfl rfl) rfl rfl ?_
    refine wl_q (r_move (.int _ _) rfl) rfl rfl ?_
    refine wl_q (r_bin (.bool (decide _)) rfl rfl rfl) rfl rfl ?_
    refine wl_nil ?_
    refine thenN ?_
    refine W_condD rfl (fun h18 => ?_) (fun h18 => ?_)
    · skip
      refine W_seq ?_
      refine W_region ?_
      refine wl_q (r_move (.int _ _) rfl) rfl rfl ?_
      refine wl_q (r_assign (.int _ _) rfl) rfl rfl ?_
      refine wl_nil ?_
      refine thenN ?_
      refine W_ret ?_
      refine blkR ?_
      refine thenR ?_
      refine roundR ?_
      refine blkR ?_
      refine thenR ?_
      skip
      refine fin1 (.int _ _) rfl ?_
      exact ⟨iE (findI_at hxb h18 hne).symm, hM1.below⟩
    · skip
      refine W_skip ?_
      refine blkN ?_
      refine thenN ?_
      refine W_region ?_
      refine wl_q (r_move (.int _ _) rfl) rfl rfl ?_
      refine wl_q (r_add rfl rfl (by omega) (by omega)) rfl rfl ?_
      refine wl_q (r_assign (.int _ _) rfl) rfl rfl ?_
      refine wl_nil ?_
      refine roundN (k + 1) (agC rfl agN) (akC rfl (akC rfl akN)) ?_ ?_
      · exact ⟨⟨by omega, allNext hne hxb h18⟩, hM1⟩
      · omega
  · skip
    refine W_exit ?_
    refine thenX ?_
    refine roundX ?_
    refine blkH ?_
    refine thenN ?_
    refine W_seq ?_
    refine W_region ?_
    refine wl_q (r_assign (.int _ _) rfl) rfl rfl ?_
    refine wl_nil ?_
    refine thenN ?_
    refine W_ret ?_
    skip
    refine fin1 (.int _ _) rfl ?_
    have hkn : k = n := by omega
    exact ⟨iE (findI_neg (fun j b hj => hne j b (by have := (List.getElem?_eq_some_iff.1 hj).1; omega) hj)).symm, hM1.below⟩

set_option maxHeartbeats 4000000 in
theorem ref06_Put (w : World) (b : Body) (gone : Bool) (A : Option Addr) (n c : Nat) (xs : List Body) (R : Rd w 10 A n (xs.map bodyCells)) (hn : n ≤ 1048576) :
    Calls Tryd.prog 102 #[.slice A n c, (.agg (bodyCells b).toArray), .bool gone] w (fun ex w' => ∃ v, ex = .returned v ∧ (fun v w' => ∃ A' n' c' e, v = .slice A' n' c' ∧ RowIs 34 10 A' n' c' ((putB xs b gone).map bodyCells) e ∧ Mem w [] [e] w') v w') := by
  have hlen : xs.length = n := by simpa using R.len
  have hbd := R.bound
  refine calls_of_W #[.tmp 6] 55 Tryd.func102 rfl Tryd.results102 Tryd.ntmps102 rfl ?_
  have M0 := Mem.refl w
  refine W_seq ?_
  refine W_region ?_
  refine wl_box (.agg (List.toArray _)) M0 rfl rfl rfl (fun b1 w1 M1 => ?_)
  refine wl_q (r_assign (.slice _ _ _) rfl) rfl rfl ?_
  refine wl_nil ?_
  refine thenN ?_
  refine W_seq ?_
  refine W_region ?_
  refine wl_q (r_assign (.slice _ _ _) rfl) rfl rfl ?_
  have M2 := M1.dummy default
  refine wl_nil ?_
  refine thenN ?_
  refine W_seq ?_
  refine W_region ?_
  refine wl_q (r_move (.bool _) rfl) rfl rfl ?_
  refine wl_q (r_assign (.bool _) rfl) rfl rfl ?_
  refine wl_nil ?_
  refine thenN ?_
  refine W_seq ?_
  refine W_seq ?_
  refine W_region ?_
  refine wl_q (r_assign (.int _ _) rfl) rfl rfl ?_
  refine wl_nil ?_
  refine thenN ?_
  refine W_block ?_
  refine W_loop (σ := Nat × List Body × Bool × Row) [0, 4, 6] (fun (k, acc, done, r) => [(7, .slice r.A r.n r.c), (8, .bool done), (9, .int .i64 (k : Int))]) (fun (k, acc, done, r) w' => (k ≤ n ∧ putAll b gone (xs.take k) = (acc, done) ∧ RowIs 34 10 r.A r.n r.c (acc.map bodyCells) r.e) ∧ Mem w [] [(some b1, bc (bodyCells b) 34), r.e] w') (fun (k, acc, done, r) => n - k) (0, [], gone, ⟨none, 0, 0, (none, default)⟩) (agC rfl (agC rfl (agC rfl agN))) (⟨⟨by omega, rfl, RowIs.nil _ _ _⟩, M2⟩) ?_
  rintro ⟨k, acc, done, r⟩ ρ3 w3 ⟨⟨hk, heq, hr⟩, hM3⟩
  have hra : acc.length = r.n := by simpa using hr.1
  have hrl : acc.length ≤ k + 1 := by have h := putAll_len b gone xs k; rw [heq] at h; exact h
  refine W_seq ?_
  refine W_seq ?_
  refine W_region ?_
  refine wl_q (r_move (.int _ _) rfl) rfl rfl ?_
  refine wl_q (r_move (.slice _ _ _) rfl) rfl rfl ?_
  refine wl_q (r_lenS Tryd.underlying22 rfl) rfl rfl ?_
  refine wl_q (r_bin (.bool (decide _)) rfl rfl rfl) rfl rfl ?_
  refine wl_nil ?_
  refine thenN ?_
  refine W_condD rfl (fun h14 => ?_) (fun h14 => ?_)
  · skip
    obtain ⟨xb, hxb⟩ := getSome (k := k) hlen (by omega)
    refine W_skip ?_
    refine thenN ?_
    refine W_seq ?_
    refine W_block ?_
    refine W_seq ?_
    refine W_seq ?_
    refine W_draw [(0, 0), (1, 0), (2, 0), (3, 0), (4, 0), (5, 1), (6, 1), (7, 1), (8, 0), (9, 1), (10, 0), (11, 0)] mixed rfl (by kernel_rfl) (fun w4 hb4 hh4 => ?_)
    have M4 := hM3.drew hb4 hh4
    refine D_p rfl rfl rfl (fun _ => r_move (.bool _) rfl) ?_
    refine D_p rfl rfl rfl (fun _ => r_notB _ rfl rfl) ?_
    refine D_p rfl rfl rfl (fun _ => r_move (.bool _) rfl) ?_
    refine D_split 19 _ rfl (fun g19 => ?_) (fun g19 => ?_)
    · skip
      have hd : done = false := by simpa using g19
      refine D_p rfl rfl rfl (fun _ => r_move (.slice _ _ _) rfl) ?_
      refine D_p rfl rfl rfl (fun _ => r_move (.int _ _) rfl) ?_
      refine D_r rfl rfl rfl (r_idxR (k) sl22 rfl rfl rfl ((R.mem M4).below_len (mapGet bodyCells hxb)) ((R.mem M4).someK (mapGet bodyCells hxb))) ?_
      refine D_r rfl rfl rfl (r_fieldAddrE 0 fld34_0 (R.mem M4) (Nat.lt_of_le_of_lt (Nat.zero_le _) ((R.mem M4).below_len (mapGet bodyCells hxb))) rfl) ?_
      refine D_r rfl rfl rfl (r_ldE (o := 0) (.int _ _) one30 (R.mem M4) (mapGet bodyCells hxb) rfl rfl) ?_
      refine D_p rfl rfl rfl (fun _ => r_fieldAddr 0 fld34_0 rfl) ?_
      refine D_r rfl rfl rfl (r_ld 0 (.int _ _) one30 M4 rfl rfl rfl) ?_
      refine D_p rfl rfl rfl (fun _ => r_bin (.bool (decide _)) rfl rfl rfl) ?_
      refine D_p rfl rfl rfl (fun _ => r_pick true (.bool (decide _)) rfl rfl) ?_
      refine D_nil ?_
      refine thenN ?_
      refine W_condD rfl (fun h28 => ?_) (fun h28 => ?_)
      · skip
        refine W_seq ?_
        refine W_region ?_
        refine wl_q (r_assign (.bool true) rfl) rfl rfl ?_
        refine wl_nil ?_
        refine thenN ?_
        refine W_region ?_
        refine wl_q (r_move (.slice _ _ _) rfl) rfl rfl ?_
        refine wl_q (r_ldW 0 agg34 M4 rfl rfl rfl) rfl rfl ?_
        refine wl_bslice [.agg (List.toArray _)] _ rfl sl22 M4 rfl rfl rfl rfl (lens_of rfl) (by decide) (fun b5 w5 M5 => ?_)
        refine wl_append 1 [bodyCells b] sl22 M5 rfl rfl rfl rfl rfl hr rfl (by simpa using ⟨bodyCells_len b, bodyCells_one b⟩) (Cells.ofMem 2 M5 rfl) (by omega) (fun A6 c6 e6 w6 M6 hR6 => ?_)
        refine wl_q (r_assign (.slice _ _ _) rfl) rfl rfl ?_
        refine wl_nil ?_
        refine thenN ?_
        refine W_seq ?_
        refine W_draw [(0, 0), (1, 0), (2, 1), (3, 1), (4, 1), (5, 0), (6, 1), (7, 0)] mixed rfl (by kernel_rfl) (fun w7 hb7 hh7 => ?_)
        have M7 := M6.drew hb7 hh7
        refine D_p rfl rfl rfl (fun _ => r_move (.slice _ _ _) rfl) ?_
        refine D_p rfl rfl rfl (fun _ => r_move (.int _ _) rfl) ?_
        refine D_r rfl rfl rfl (r_idxR (k) sl22 rfl rfl rfl ((R.mem M7).below_len (mapGet bodyCells hxb)) ((R.mem M7).someK (mapGet bodyCells hxb))) ?_
        refine D_r rfl rfl rfl (r_fieldAddrE 0 fld34_0 (R.mem M7) (Nat.lt_of_le_of_lt (Nat.zero_le _) ((R.mem M7).below_len (mapGet bodyCells hxb))) rfl) ?_
        refine D_r rfl rfl rfl (r_ldE (o := 0) (.int _ _) one30 (R.mem M7) (mapGet bodyCells hxb) rfl rfl) ?_
        refine D_p rfl rfl rfl (fun _ => r_fieldAddr 0 fld34_0 rfl) ?_
        refine D_r rfl rfl rfl (r_ld 0 (.int _ _) one30 M7 rfl rfl rfl) ?_
        refine D_p rfl rfl rfl (fun _ => r_bin (.bool (decide _)) rfl rfl rfl) ?_
        refine D_nil ?_
        refine thenN ?_
        refine W_condD rfl (fun h40 => ?_) (fun h40 => ?_)
        · skip
          refine W_region ?_
          refine wl_q (r_move (.slice _ _ _) rfl) rfl rfl ?_
          refine wl_q (r_move (.slice _ _ _) rfl) rfl rfl ?_
          refine wl_q (r_move (.int _ _) rfl) rfl rfl ?_
          refine wl_q (r_idxR (k) sl22 rfl rfl rfl ((R.mem M7).below_len (mapGet bodyCells hxb)) ((R.mem M7).someK (mapGet bodyCells hxb))) rfl rfl ?_
          refine wl_q (r_ldEA _ agg34 (R.mem M7) (mapGet bodyCells hxb) rfl) rfl rfl ?_
          refine wl_bslice [.agg (List.toArray _)] _ rfl sl22 M7 rfl rfl rfl rfl (lens_of rfl) (by decide) (fun b8 w8 M8 => ?_)
          refine wl_append 1 [bodyCells xb] sl22 M8 rfl rfl rfl rfl rfl hR6 rfl (by simpa using ⟨bodyCells_len xb, bodyCells_one xb⟩) (Cells.ofMem 3 M8 rfl) (by omega) (fun A9 c9 e9 w9 M9 hR9 => ?_)
          refine wl_q (r_assign (.slice _ _ _) rfl) rfl rfl ?_
          refine wl_nil ?_
          refine blkN ?_
          refine thenN ?_
          refine W_region ?_
          refine wl_q (r_move (.int _ _) rfl) rfl rfl ?_
          refine wl_q (r_add rfl rfl (by omega) (by omega)) rfl rfl ?_
          refine wl_q (r_assign (.int _ _) rfl) rfl rfl ?_
          refine wl_nil ?_
          refine roundN (k + 1, (putAll b gone (xs.take (k + 1))).1, (putAll b gone (xs.take (k + 1))).2, ⟨A9, r.n + 1 + 1, c9, e9⟩) (agC rfl (agC (bv rfl (by rw [putAll_snoc b gone hxb, heq]; simp [putStep, *])) (agC rfl agN))) (akC rfl (akC rfl (akC rfl akN))) ?_ ?_
          · exact ⟨⟨by omega, rfl, by rw [putAll_snoc b gone hxb, heq]; simpa [putStep, *] using hR9⟩, M9.keep [true, true, false, false]⟩
          · (show n - (k + 1) < n - k; omega)
        · skip
          refine W_skip ?_
          refine blkN ?_
          refine thenN ?_
          refine W_region ?_
          refine wl_q (r_move (.int _ _) rfl) rfl rfl ?_
          refine wl_q (r_add rfl rfl (by omega) (by omega)) rfl rfl ?_
          refine wl_q (r_assign (.int _ _) rfl) rfl rfl ?_
          refine wl_nil ?_
          refine roundN (k + 1, (putAll b gone (xs.take (k + 1))).1, (putAll b gone (xs.take (k + 1))).2, ⟨A6, r.n + 1, c6, e6⟩) (agC rfl (agC (bv rfl (by rw [putAll_snoc b gone hxb, heq]; simp [putStep, *])) (agC rfl agN))) (akC rfl (akC rfl (akC rfl akN))) ?_ ?_
          · exact ⟨⟨by omega, rfl, by rw [putAll_snoc b gone hxb, heq]; simpa [putStep, *] using hR6⟩, M7.keep [true, true, false]⟩
          · (show n - (k + 1) < n - k; omega)
      · skip
        refine W_skip ?_
        refine thenN ?_
        refine W_seq ?_
        refine W_draw [(0, 0), (1, 0), (2, 1), (3, 1), (4, 1), (5, 0), (6, 1), (7, 0)] mixed rfl (by kernel_rfl) (fun w10 hb10 hh10 => ?_)
        have M10 := M4.drew hb10 hh10
        refine D_p rfl rfl rfl (fun _ => r_move (.slice _ _ _) rfl) ?_
        refine D_p rfl rfl rfl (fun _ => r_move (.int _ _) rfl) ?_
        refine D_r rfl rfl rfl (r_idxR (k) sl22 rfl rfl rfl ((R.mem M10).below_len (mapGet bodyCells hxb)) ((R.mem M10).someK (mapGet bodyCells hxb))) ?_
        refine D_r rfl rfl rfl (r_fieldAddrE 0 fld34_0 (R.mem M10) (Nat.lt_of_le_of_lt (Nat.zero_le _) ((R.mem M10).below_len (mapGet bodyCells hxb))) rfl) ?_
        refine D_r rfl rfl rfl (r_ldE (o := 0) (.int _ _) one30 (R.mem M10) (mapGet bodyCells hxb) rfl rfl) ?_
        refine D_p rfl rfl rfl (fun _ => r_fieldAddr 0 fld34_0 rfl) ?_
        refine D_r rfl rfl rfl (r_ld 0 (.int _ _) one30 M10 rfl rfl rfl) ?_
        refine D_p rfl rfl rfl (fun _ => r_bin (.bool (decide _)) rfl rfl rfl) ?_
        refine D_nil ?_
        refine thenN ?_
        refine W_condD rfl (fun h40 => ?_) (fun h40 => ?_)
        · skip
          refine W_region ?_
          refine wl_q (r_move (.slice _ _ _) rfl) rfl rfl ?_
          refine wl_q (r_move (.slice _ _ _) rfl) rfl rfl ?_
          refine wl_q (r_move (.int _ _) rfl) rfl rfl ?_
          refine wl_q (r_idxR (k) sl22 rfl rfl rfl ((R.mem M10).below_len (mapGet bodyCells hxb)) ((R.mem M10).someK (mapGet bodyCells hxb))) rfl rfl ?_
          refine wl_q (r_ldEA _ agg34 (R.mem M10) (mapGet bodyCells hxb) rfl) rfl rfl ?_
          refine wl_bslice [.agg (List.toArray _)] _ rfl sl22 M10 rfl rfl rfl rfl (lens_of rfl) (by decide) (fun b11 w11 M11 => ?_)
          refine wl_append 1 [bodyCells xb] sl22 M11 rfl rfl rfl rfl rfl hr rfl (by simpa using ⟨bodyCells_len xb, bodyCells_one xb⟩) (Cells.ofMem 2 M11 rfl) (by omega) (fun A12 c12 e12 w12 M12 hR12 => ?_)
          refine wl_q (r_assign (.slice _ _ _) rfl) rfl rfl ?_
          refine wl_nil ?_
          refine blkN ?_
          refine thenN ?_
          refine W_region ?_
          refine wl_q (r_move (.int _ _) rfl) rfl rfl ?_
          refine wl_q (r_add rfl rfl (by omega) (by omega)) rfl rfl ?_
          refine wl_q (r_assign (.int _ _) rfl) rfl rfl ?_
          refine wl_nil ?_
          refine roundN (k + 1, (putAll b gone (xs.take (k + 1))).1, (putAll b gone (xs.take (k + 1))).2, ⟨A12, r.n + 1, c12, e12⟩) (agC rfl (agC (bv rfl (by rw [putAll_snoc b gone hxb, heq]; simp [putStep, *])) (agC rfl agN))) (akC rfl (akC rfl (akC rfl akN))) ?_ ?_
          · exact ⟨⟨by omega, rfl, by rw [putAll_snoc b gone hxb, heq]; simpa [putStep, *] using hR12⟩, M12.keep [true, true, false]⟩
          · (show n - (k + 1) < n - k; omega)
        · skip
          refine W_skip ?_
          refine blkN ?_
          refine thenN ?_
          refine W_region ?_
          refine wl_q (r_move (.int _ _) rfl) rfl rfl ?_
          refine wl_q (r_add rfl rfl (by omega) (by omega)) rfl rfl ?_
          refine wl_q (r_assign (.int _ _) rfl) rfl rfl ?_
          refine wl_nil ?_
          refine roundN (k + 1, (putAll b gone (xs.take (k + 1))).1, (putAll b gone (xs.take (k + 1))).2, r) (agC rfl (agC (bv rfl (by rw [putAll_snoc b gone hxb, heq]; simp [putStep, *])) (agC rfl agN))) (akC rfl (akC rfl (akC rfl akN))) ?_ ?_
          · exact ⟨⟨by omega, rfl, by rw [putAll_snoc b gone hxb, heq]; simpa [putStep, *] using hr⟩, M10.keep [true, true]⟩
          · (show n - (k + 1) < n - k; omega)
    · skip
      have hd : done = true := by simpa using g19
      refine D_s rfl rfl rfl ?_
      refine D_s rfl rfl rfl ?_
      refine D_s1 rfl rfl rfl ?_
      refine D_s1 rfl rfl rfl ?_
      refine D_s1 rfl rfl rfl ?_
      refine D_s rfl rfl rfl ?_
      refine D_s1 rfl rfl rfl ?_
      refine D_s rfl rfl rfl ?_
      refine D_p rfl rfl rfl (fun _ => r_pick false (.bool false) rfl rfl) ?_
      refine D_nil ?_
      refine thenN ?_
      refine W_condF rfl ?_
      refine W_skip ?_
      refine thenN ?_
      refine W_seq ?_
      refine W_draw [(0, 0), (1, 0), (2, 1), (3, 1), (4, 1), (5, 0), (6, 1), (7, 0)] mixed rfl (by kernel_rfl) (fun w13 hb13 hh13 => ?_)
      have M13 := M4.drew hb13 hh13
      refine D_p rfl rfl rfl (fun _ => r_move (.slice _ _ _) rfl) ?_
      refine D_p rfl rfl rfl (fun _ => r_move (.int _ _) rfl) ?_
      refine D_r rfl rfl rfl (r_idxR (k) sl22 rfl rfl rfl ((R.mem M13).below_len (mapGet bodyCells hxb)) ((R.mem M13).someK (mapGet bodyCells hxb))) ?_
      refine D_r rfl rfl rfl (r_fieldAddrE 0 fld34_0 (R.mem M13) (Nat.lt_of_le_of_lt (Nat.zero_le _) ((R.mem M13).below_len (mapGet bodyCells hxb))) rfl) ?_
      refine D_r rfl rfl rfl (r_ldE (o := 0) (.int _ _) one30 (R.mem M13) (mapGet bodyCells hxb) rfl rfl) ?_
      refine D_p rfl rfl rfl (fun _ => r_fieldAddr 0 fld34_0 rfl) ?_
      refine D_r rfl rfl rfl (r_ld 0 (.int _ _) one30 M13 rfl rfl rfl) ?_
      refine D_p rfl rfl rfl (fun _ => r_bin (.bool (decide _)) rfl rfl rfl) ?_
      refine D_nil ?_
      refine thenN ?_
      refine W_condD rfl (fun h40 => ?_) (fun h40 => ?_)
      · skip
        refine W_region ?_
        refine wl_q (r_move (.slice _ _ _) rfl) rfl rfl ?_
        refine wl_q (r_move (.slice _ _ _) rfl) rfl rfl ?_
        refine wl_q (r_move (.int _ _) rfl) rfl rfl ?_
        refine wl_q (r_idxR (k) sl22 rfl rfl rfl ((R.mem M13).below_len (mapGet bodyCells hxb)) ((R.mem M13).someK (mapGet bodyCells hxb))) rfl rfl ?_
        refine wl_q (r_ldEA _ agg34 (R.mem M13) (mapGet bodyCells hxb) rfl) rfl rfl ?_
        refine wl_bslice [.agg (List.toArray _)] _ rfl sl22 M13 rfl rfl rfl rfl (lens_of rfl) (by decide) (fun b14 w14 M14 => ?_)
        refine wl_append 1 [bodyCells xb] sl22 M14 rfl rfl rfl rfl rfl hr rfl (by simpa using ⟨bodyCells_len xb, bodyCells_one xb⟩) (Cells.ofMem 2 M14 rfl) (by omega) (fun A15 c15 e15 w15 M15 hR15 => ?_)
        refine wl_q (r_assign (.slice _ _ _) rfl) rfl rfl ?_
        refine wl_nil ?_
        refine blkN ?_
        refine thenN ?_
        refine W_region ?_
        refine wl_q (r_move (.int _ _) rfl) rfl rfl ?_
        refine wl_q (r_add rfl rfl (by omega) (by omega)) rfl rfl ?_
        refine wl_q (r_assign (.int _ _) rfl) rfl rfl ?_
        refine wl_nil ?_
        refine roundN (k + 1, (putAll b gone (xs.take (k + 1))).1, (putAll b gone (xs.take (k + 1))).2, ⟨A15, r.n + 1, c15, e15⟩) (agC rfl (agC (bv rfl (by rw [putAll_snoc b gone hxb, heq]; simp [putStep, *])) (agC rfl agN))) (akC rfl (akC rfl (akC rfl akN))) ?_ ?_
        · exact ⟨⟨by omega, rfl, by rw [putAll_snoc b gone hxb, heq]; simpa [putStep, *] using hR15⟩, M15.keep [true, true, false]⟩
        · (show n - (k + 1) < n - k; omega)
      · skip
        refine W_skip ?_
        refine blkN ?_
        refine thenN ?_
        refine W_region ?_
        refine wl_q (r_move (.int _ _) rfl) rfl rfl ?_
        refine wl_q (r_add rfl rfl (by omega) (by omega)) rfl rfl ?_
        refine wl_q (r_assign (.int _ _) rfl) rfl rfl ?_
        refine wl_nil ?_
        refine roundN (k + 1, (putAll b gone (xs.take (k + 1))).1, (putAll b gone (xs.take (k + 1))).2, r) (agC rfl (agC (bv rfl (by rw [putAll_snoc b gone hxb, heq]; simp [putStep, *])) (agC rfl agN))) (akC rfl (akC rfl (akC rfl akN))) ?_ ?_
        · exact ⟨⟨by omega, rfl, by rw [putAll_snoc b gone hxb, heq]; simpa [putStep, *] using hr⟩, M13.keep [true, true]⟩
        · (show n - (k + 1) < n - k; omega)
  · skip
    have hkn : k = n := by omega
    subst hkn
    rw [List.take_of_length_le (by omega)] at heq
    refine W_exit ?_
    refine thenX ?_
    refine roundX ?_
    refine blkH ?_
    refine thenN ?_
    refine W_seq ?_
    refine W_seq ?_
    refine W_region ?_
    refine wl_q (r_move (.bool _) rfl) rfl rfl ?_
    refine wl_q (r_notB _ rfl rfl) rfl rfl ?_
    refine wl_nil ?_
    refine thenN ?_
    refine W_cond _ rfl (fun h49 => ?_) (fun h49 => ?_)
    · skip
      have hd : done = false := by simpa using h49
      refine W_region ?_
      refine wl_q (r_move (.slice _ _ _) rfl) rfl rfl ?_
      refine wl_q (r_ldW 0 agg34 hM3 rfl rfl rfl) rfl rfl ?_
      refine wl_bslice [.agg (List.toArray _)] _ rfl sl22 hM3 rfl rfl rfl rfl (lens_of rfl) (by decide) (fun b16 w16 M16 => ?_)
      refine wl_append 1 [bodyCells b] sl22 M16 rfl rfl rfl rfl rfl hr rfl (by simpa using ⟨bodyCells_len b, bodyCells_one b⟩) (Cells.ofMem 2 M16 rfl) (by omega) (fun A17 c17 e17 w17 M17 hR17 => ?_)
      refine wl_q (r_assign (.slice _ _ _) rfl) rfl rfl ?_
      refine wl_nil ?_
      refine thenN ?_
      refine W_seq ?_
      refine W_region ?_
      refine wl_q (r_move (.slice _ _ _) rfl) rfl rfl ?_
      refine wl_q (r_assign (.slice _ _ _) rfl) rfl rfl ?_
      refine wl_nil ?_
      refine thenN ?_
      refine W_ret ?_
      skip
      refine fin1 (.slice _ _ _) rfl ?_
      exact ⟨_, _, _, _, rfl, by unfold putB; rw [heq]; simpa [*] using hR17, M17.keep [false, true, false]⟩
    · skip
      have hd : done = true := by simpa using h49
      refine W_skip ?_
      refine thenN ?_
      refine W_seq ?_
      refine W_region ?_
      refine wl_q (r_move (.slice _ _ _) rfl) rfl rfl ?_
      refine wl_q (r_assign (.slice _ _ _) rfl) rfl rfl ?_
      refine wl_nil ?_
      refine thenN ?_
      refine W_ret ?_
      skip
      refine fin1 (.slice _ _ _) rfl ?_
      exact ⟨_, _, _, _, rfl, by unfold putB; rw [heq]; simpa [*] using hr, hM3.keep [false, true]⟩

end Go.Proofs.YtkegiinlfmlhlaaDoor

/- Walks of Go functions over the frame of this claim: what each computes, for every input of the stated types (Bd). -/
set_option linter.unusedVariables false
set_option linter.unusedSimpArgs false
set_option linter.unnecessarySimpa false
namespace Go.Proofs.YtkegiinlfmlhlaaDoor
open Go.Bil
open Go.RowKit (Below)
open Go.Proofs

end Go.Proofs.YtkegiinlfmlhlaaDoor

/- Walks of Go functions over the frame of this claim: what each computes, for every input of the stated types (Lib). -/
set_option linter.unusedVariables false
set_option linter.unusedSimpArgs false
set_option linter.unnecessarySimpa false
namespace Go.Proofs.YtkegiinlfmlhlaaDoor
open Go.Bil
open Go.RowKit (Below)
open Go.Proofs

set_option maxHeartbeats 4000000 in
theorem cmp_isNaN32 (w : World) (x : Int) :
    Calls Tryd.prog 89 #[.int .u32 x] w (fun ex w' => ∃ v, ex = .returned v ∧ (fun v w' => v = .bool false ∧ w' = w) v w') := by
  refine calls_of_W #[.tmp 2] 6 Tryd.func89 rfl Tryd.results89 Tryd.ntmps89 rfl ?_
  have M0 := Mem.refl w
  refine W_seq ?_
  refine W_region ?_
  refine wl_q (r_assign (.bool false) rfl) rfl rfl ?_
  refine wl_nil ?_
  refine thenN ?_
  refine W_seq ?_
  refine W_region ?_
  refine wl_q (r_move (.int _ _) rfl) rfl rfl ?_
  refine wl_q (r_move (.int _ _) rfl) rfl rfl ?_
  refine wl_q (r_bin (.bool (decide _)) rfl rfl rfl) rfl rfl ?_
  refine wl_q (r_assign (.bool (decide _)) rfl) rfl rfl ?_
  refine wl_nil ?_
  refine thenN ?_
  refine W_ret ?_
  skip
  refine fin1 (.bool (decide _)) rfl ?_
  exact ⟨(bF (by omega)).symm, rfl⟩

set_option maxHeartbeats 4000000 in
theorem cmp_Compare32 (w : World) (x y : Int) :
    Calls Tryd.prog 68 #[.int .u32 x, .int .u32 y] w (fun ex w' => ∃ v, ex = .returned v ∧ (fun v w' => v = .int .i64 (cmpI x y) ∧ w' = w) v w') := by
  refine calls_of_W #[.tmp 4] 20 Tryd.func68 rfl Tryd.results68 Tryd.ntmps68 rfl ?_
  have M0 := Mem.refl w
  refine W_seq ?_
  refine W_region ?_
  refine wl_q (r_assign (.int _ _) rfl) rfl rfl ?_
  refine wl_nil ?_
  refine thenN ?_
  refine W_seq ?_
  refine W_region ?_
  refine wl_q (r_move (.int _ _) rfl) rfl rfl ?_
  refine wl_cal cal89 rfl rfl rfl ?_
  refine (cmp_isNaN32 _ _).mono ?_
  rintro _ w1 ⟨v1, rfl, ⟨rfl, rfl⟩⟩
  refine ⟨_, rfl, ?_⟩
  have M1 : Mem _ _ [] _ := M0
  refine wl_q (r_assign (.bool false) rfl) rfl rfl ?_
  refine wl_nil ?_
  refine thenN ?_
  refine W_seq ?_
  refine W_region ?_
  refine wl_q (r_move (.int _ _) rfl) rfl rfl ?_
  refine wl_cal cal89 rfl rfl rfl ?_
  refine (cmp_isNaN32 _ _).mono ?_
  rintro _ w2 ⟨v2, rfl, ⟨rfl, rfl⟩⟩
  refine ⟨_, rfl, ?_⟩
  have M2 : Mem _ _ [] _ := M1
  refine wl_q (r_assign (.bool false) rfl) rfl rfl ?_
  refine wl_nil ?_
  refine thenN ?_
  refine W_seq ?_
  refine W_seq ?_
  refine W_region ?_
  refine wl_q (r_move (.bool false) rfl) rfl rfl ?_
  refine wl_nil ?_
  refine thenN ?_
  refine W_condF rfl ?_
  refine W_skip ?_
  refine thenN ?_
  refine W_seq ?_
  refine W_seq ?_
  refine W_region ?_
  refine wl_q (r_move (.bool false) rfl) rfl rfl ?_
  refine wl_nil ?_
  refine thenN ?_
  refine W_condF rfl ?_
  refine W_skip ?_
  refine thenN ?_
  refine W_seq ?_
  refine W_seq ?_
  refine W_region ?_
  refine wl_q (r_move (.int _ _) rfl) rfl rfl ?_
  refine wl_q (r_move (.int _ _) rfl) rfl rfl ?_
  refine wl_q (r_bin (.bool (decide _)) rfl rfl rfl) rfl rfl ?_
  refine wl_nil ?_
  refine thenN ?_
  refine W_condD rfl (fun h16 => ?_) (fun h16 => ?_)
  · skip
    refine W_seq ?_
    refine W_region ?_
    refine wl_q (r_assign (.int _ _) rfl) rfl rfl ?_
    refine wl_nil ?_
    refine thenN ?_
    refine W_ret ?_
    refine thenR ?_
    skip
    refine fin1 (.int _ _) rfl ?_
    exact ⟨iE (by unfold cmpI; (repeat' split) <;> omega), rfl⟩
  · skip
    refine W_skip ?_
    refine thenN ?_
    refine W_seq ?_
    refine W_seq ?_
    refine W_region ?_
    refine wl_q (r_move (.int _ _) rfl) rfl rfl ?_
    refine wl_q (r_move (.int _ _) rfl) rfl rfl ?_
    refine wl_q (r_bin (.bool (decide _)) rfl rfl rfl) rfl rfl ?_
    refine wl_nil ?_
    refine thenN ?_
    refine W_condD rfl (fun h19 => ?_) (fun h19 => ?_)
    · skip
      refine W_seq ?_
      refine W_region ?_
      refine wl_q (r_assign (.int _ _) rfl) rfl rfl ?_
      refine wl_nil ?_
      refine thenN ?_
      refine W_ret ?_
      refine thenR ?_
      skip
      refine fin1 (.int _ _) rfl ?_
      exact ⟨iE (by unfold cmpI; (repeat' split) <;> omega), rfl⟩
    · skip
      refine W_skip ?_
      refine thenN ?_
      refine W_seq ?_
      refine W_region ?_
      refine wl_q (r_assign (.int _ _) rfl) rfl rfl ?_
      refine wl_nil ?_
      refine thenN ?_
      refine W_ret ?_
      skip
      refine fin1 (.int _ _) rfl ?_
      exact ⟨iE (by unfold cmpI; (repeat' split) <;> omega), rfl⟩

end Go.Proofs.YtkegiinlfmlhlaaDoor

/- Walks of Go functions over the frame of this claim: what each computes, for every input of the stated types (St). -/
set_option linter.unusedVariables false
set_option linter.unusedSimpArgs false
set_option linter.unnecessarySimpa false
namespace Go.Proofs.YtkegiinlfmlhlaaDoor
open Go.Bil
open Go.RowKit (Below)
open Go.Proofs

end Go.Proofs.YtkegiinlfmlhlaaDoor
