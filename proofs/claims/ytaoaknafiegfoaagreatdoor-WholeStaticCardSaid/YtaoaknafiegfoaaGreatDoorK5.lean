/- Part of the proof of the laws of this seat: Ty, T26, T25, T20, T20r, T20l, T21, T22, T23, T23l, T24, R5, R6, Bd, Lib, St. No conditions. -/
import Derived.Test.YtaoaknafiegfoaaGreatDoorProg
import Derived.Test.YtaoaknafiegfoaaGreatDoorK2
import Derived.Test.YtaoaknafiegfoaaGreatDoorK3
import Derived.Test.YtaoaknafiegfoaaGreatDoorK4
import Derived.KernelRfl
set_option linter.unusedVariables false
set_option linter.unusedSimpArgs false
set_option linter.unnecessarySimpa false
namespace Go.Proofs.YtaoaknafiegfoaaGreatDoor
open Go.Bil
open Go.Proofs
theorem bU : fY Tryz.prog 35 = true := by kernel_rfl
theorem aW : fY Tryz.prog 21 = true := by kernel_rfl
theorem aNk : ∀ (d : Nat) (w : World) (x0 x1 y0 y1 : Int), (Op.equalIn (d + 2) 37 (.agg [.int .i32 x0, .int .i32 x1].toArray) (.agg [.int .i32 y0, .int .i32 y1].toArray)).run Tryz.prog w = .ok (decide (x0 = y0 ∧ x1 = y1)) w := fun d w x0 x1 y0 y1 => by
  have h := vC (P := Tryz.prog) (T := 37) (dd := d + 1) (xs := [.int .i32 x0, .int .i32 x1]) (ys := [.int .i32 y0, .int .i32 y1]) (w := w) Tryz.underlying37 (by kernel_rfl) (iH rfl (jW aW rfl) (jW aW rfl) (qE (dd := d + 0) Tryz.underlying21) (iH rfl (jW aW rfl) (jW aW rfl) (qE (dd := d + 0) Tryz.underlying21) (aEb)))
  refine h.trans (congrArg (fun r => Result.ok r w) ?_)
  simp only [Bool.decide_and, Bool.and_true, Bool.and_assoc]
theorem bK : iA Tryz.prog 37 = some 2 := by kernel_rfl
theorem bJg : ∀ (d : Nat) (w : World) (x0 x1 x2 x3 x4 x5 x6 x7 x8 x9 y0 y1 y2 y3 y4 y5 y6 y7 y8 y9 : Int), (Op.equalIn (d + 3) 39 (.agg [.int .u32 x0, .int .i32 x1, .int .i32 x2, .int .i32 x3, .int .i32 x4, .int .i32 x5, .int .i32 x6, .int .i32 x7, .int .i32 x8, .int .i32 x9].toArray) (.agg [.int .u32 y0, .int .i32 y1, .int .i32 y2, .int .i32 y3, .int .i32 y4, .int .i32 y5, .int .i32 y6, .int .i32 y7, .int .i32 y8, .int .i32 y9].toArray)).run Tryz.prog w = .ok (decide (x0 = y0 ∧ x1 = y1 ∧ x2 = y2 ∧ x3 = y3 ∧ x4 = y4 ∧ x5 = y5 ∧ x6 = y6 ∧ x7 = y7 ∧ x8 = y8 ∧ x9 = y9)) w := fun d w x0 x1 x2 x3 x4 x5 x6 x7 x8 x9 y0 y1 y2 y3 y4 y5 y6 y7 y8 y9 => by
  have h := vC (P := Tryz.prog) (T := 39) (dd := d + 2) (xs := [.int .u32 x0, .int .i32 x1, .int .i32 x2, .int .i32 x3, .int .i32 x4, .int .i32 x5, .int .i32 x6, .int .i32 x7, .int .i32 x8, .int .i32 x9]) (ys := [.int .u32 y0, .int .i32 y1, .int .i32 y2, .int .i32 y3, .int .i32 y4, .int .i32 y5, .int .i32 y6, .int .i32 y7, .int .i32 y8, .int .i32 y9]) (w := w) Tryz.underlying39 (by kernel_rfl) (iH rfl (jW bU rfl) (jW bU rfl) (qE (dd := d + 1) Tryz.underlying35) (iH rfl (jW aW rfl) (jW aW rfl) (qE (dd := d + 1) Tryz.underlying21) (iH rfl (zJ bK rfl) (zJ bK rfl) (aNk (d + 0) w x2 x3 y2 y3) (iH rfl (jW aW rfl) (jW aW rfl) (qE (dd := d + 1) Tryz.underlying21) (iH rfl (jW aW rfl) (jW aW rfl) (qE (dd := d + 1) Tryz.underlying21) (iH rfl (zJ bK rfl) (zJ bK rfl) (aNk (d + 0) w x6 x7 y6 y7) (iH rfl (zJ bK rfl) (zJ bK rfl) (aNk (d + 0) w x8 x9 y8 y9) (aEb))))))))
  refine h.trans (congrArg (fun r => Result.ok r w) ?_)
  simp only [Bool.decide_and, Bool.and_true, Bool.and_assoc]
theorem bJc : ∀ (x0 x1 x2 x3 x4 x5 x6 x7 x8 x9 y0 y1 y2 y3 y4 y5 y6 y7 y8 y9 : Int), EqA Tryz.prog 39 [.int .u32 x0, .int .i32 x1, .int .i32 x2, .int .i32 x3, .int .i32 x4, .int .i32 x5, .int .i32 x6, .int .i32 x7, .int .i32 x8, .int .i32 x9] [.int .u32 y0, .int .i32 y1, .int .i32 y2, .int .i32 y3, .int .i32 y4, .int .i32 y5, .int .i32 y6, .int .i32 y7, .int .i32 y8, .int .i32 y9] (decide (x0 = y0 ∧ x1 = y1 ∧ x2 = y2 ∧ x3 = y3 ∧ x4 = y4 ∧ x5 = y5 ∧ x6 = y6 ∧ x7 = y7 ∧ x8 = y8 ∧ x9 = y9)) := fun x0 x1 x2 x3 x4 x5 x6 x7 x8 x9 y0 y1 y2 y3 y4 y5 y6 y7 y8 y9 => ⟨by kernel_rfl, fun w => bJg 9997 w x0 x1 x2 x3 x4 x5 x6 x7 x8 x9 y0 y1 y2 y3 y4 y5 y6 y7 y8 y9⟩
theorem bJ : iA Tryz.prog 39 = some 10 := by kernel_rfl
theorem bEn : aO Tryz.prog 115 = true := by kernel_rfl
theorem bDy : ∀ (d : Nat) (w : World) (x0 x1 y0 y1 : Int), (Op.equalIn (d + 2) 209 (.agg [.int .u32 x0, .int .u32 x1].toArray) (.agg [.int .u32 y0, .int .u32 y1].toArray)).run Tryz.prog w = .ok (decide (x0 = y0 ∧ x1 = y1)) w := fun d w x0 x1 y0 y1 => by
  have h := vC (P := Tryz.prog) (T := 209) (dd := d + 1) (xs := [.int .u32 x0, .int .u32 x1]) (ys := [.int .u32 y0, .int .u32 y1]) (w := w) Tryz.underlying209 (by kernel_rfl) (iH rfl (jW bU rfl) (jW bU rfl) (qE (dd := d + 0) Tryz.underlying35) (iH rfl (jW bU rfl) (jW bU rfl) (qE (dd := d + 0) Tryz.underlying35) (aEb)))
  refine h.trans (congrArg (fun r => Result.ok r w) ?_)
  simp only [Bool.decide_and, Bool.and_true, Bool.and_assoc]
theorem bGe : ∀ (x0 x1 y0 y1 : Int), EqA Tryz.prog 209 [.int .u32 x0, .int .u32 x1] [.int .u32 y0, .int .u32 y1] (decide (x0 = y0 ∧ x1 = y1)) := fun x0 x1 y0 y1 => ⟨by kernel_rfl, fun w => bDy 9998 w x0 x1 y0 y1⟩
theorem gE : iA Tryz.prog 209 = some 2 := by kernel_rfl
theorem bDn : aO Tryz.prog 213 = true := by kernel_rfl
theorem bIr : jX Tryz.prog 209 = some (.agg [.int .u32 0, .int .u32 0].toArray) := by kernel_rfl
theorem iY : fY Tryz.prog 3 = true := by kernel_rfl
theorem mV : fY Tryz.prog 4 = true := by kernel_rfl
theorem lS : fA Tryz.prog 39 1 1 = true := by kernel_rfl
theorem jZ : fA Tryz.prog 39 2 2 = true := by kernel_rfl
theorem dS : fA Tryz.prog 37 0 0 = true := by kernel_rfl
theorem aCm : aO Tryz.prog 62 = true := by kernel_rfl
theorem dG : fA Tryz.prog 37 1 1 = true := by kernel_rfl
theorem eQ : fA Tryz.prog 39 3 4 = true := by kernel_rfl
theorem oT : fA Tryz.prog 39 4 5 = true := by kernel_rfl
theorem fR : fA Tryz.prog 39 5 6 = true := by kernel_rfl
theorem eK : fA Tryz.prog 39 6 8 = true := by kernel_rfl
theorem dF : eT Tryz.prog 29 39 10 40 = true := by kernel_rfl
theorem dQ : fA Tryz.prog 39 0 0 = true := by kernel_rfl
theorem mixed : Tryz.prog.follows .mixedOrders = true := by kernel_rfl
theorem aKd : aO Tryz.prog 139 = true := by kernel_rfl
theorem lX : fW Tryz.prog 194 [.nilFunc, .int .i64 0] [(0, 1), (1, 1)] := eF Tryz.underlying194 (by kernel_rfl) (by kernel_rfl) (by kernel_rfl)
theorem rU : xD Tryz.prog 196 6 194 2 = true := by kernel_rfl
theorem bBy : fO Tryz.prog 196 = some [.nilFunc, .int .i64 0, .nilFunc, .int .i64 0, .nilFunc, .int .i64 0, .nilFunc, .int .i64 0, .nilFunc, .int .i64 0, .nilFunc, .int .i64 0] := by kernel_rfl
theorem lF : iA Tryz.prog 194 = some 2 := by kernel_rfl
theorem qU : fO Tryz.prog 194 = some [.nilFunc, .int .i64 0] := by kernel_rfl
theorem oH : fA Tryz.prog 194 0 0 = true := by kernel_rfl
theorem aCp : fY Tryz.prog 23 = true := by kernel_rfl
theorem bFz : aO Tryz.prog 137 = true := by kernel_rfl
theorem oD : fA Tryz.prog 194 1 1 = true := by kernel_rfl
theorem aDf : fY Tryz.prog 30 = true := by kernel_rfl
theorem bEa : aO Tryz.prog 138 = true := by kernel_rfl
theorem bGm : aO Tryz.prog 140 = true := by kernel_rfl
theorem bGb : aO Tryz.prog 141 = true := by kernel_rfl
theorem bGy : aO Tryz.prog 142 = true := by kernel_rfl
theorem bFr : aO Tryz.prog 143 = true := by kernel_rfl
theorem aKg : aO Tryz.prog 102 = true := by kernel_rfl
theorem jB : fA Tryz.prog 103 1 1 = true := by kernel_rfl
theorem nP : fY Tryz.prog 101 = true := by kernel_rfl
theorem pR : uZ Tryz.prog 101 35 3 .u32 = true := by kernel_rfl
theorem zv3 : jX Tryz.prog 3 = some (.int .i64 0) := by kernel_rfl
theorem fC : fA Tryz.prog 103 0 0 = true := by kernel_rfl
theorem fJ : fY Tryz.prog 29 = true := by kernel_rfl
theorem gH : fO Tryz.prog 39 = some [.int .u32 0, .int .i32 0, .int .i32 0, .int .i32 0, .int .i32 0, .int .i32 0, .int .i32 0, .int .i32 0, .int .i32 0, .int .i32 0] := by kernel_rfl
theorem zQ : fW Tryz.prog 39 [.int .u32 0, .int .i32 0, .int .i32 0, .int .i32 0, .int .i32 0, .int .i32 0, .int .i32 0, .int .i32 0, .int .i32 0, .int .i32 0] [(0, 1), (1, 1), (2, 2), (4, 1), (5, 1), (6, 2), (8, 2)] := eF Tryz.underlying39 (by kernel_rfl) (by kernel_rfl) (by kernel_rfl)
theorem aYb : aO Tryz.prog 151 = true := by kernel_rfl
theorem aFo : aO Tryz.prog 116 = true := by kernel_rfl
theorem bDb : aO Tryz.prog 64 = true := by kernel_rfl
theorem bGl : aO Tryz.prog 114 = true := by kernel_rfl
theorem bDh : aO Tryz.prog 27 = true := by kernel_rfl
theorem bJs : aO Tryz.prog 99 = true := by kernel_rfl
theorem bGn : aO Tryz.prog 126 = true := by kernel_rfl
theorem bJo : aO Tryz.prog 94 = true := by kernel_rfl
theorem bFw : aO Tryz.prog 119 = true := by kernel_rfl
theorem bEz : aO Tryz.prog 103 = true := by kernel_rfl
theorem bEq : aO Tryz.prog 104 = true := by kernel_rfl
theorem us3 : (Tryz.prog.underlying 3).isSome = true := by kernel_rfl
theorem bJw : (Tryz.prog.underlying 178).isSome = true := by kernel_rfl
theorem aUz : aO Tryz.prog 188 = true := by kernel_rfl
theorem bEk : aO Tryz.prog 187 = true := by kernel_rfl
theorem aYj : aO Tryz.prog 253 = true := by kernel_rfl
theorem aFi : fO Tryz.prog 253 = some [.int .i32 0, .int .i32 0, .int .i32 0, .int .i32 0] := by kernel_rfl
theorem bDw : aO Tryz.prog 229 = true := by kernel_rfl
theorem aDc : fW Tryz.prog 253 [.int .i32 0, .int .i32 0, .int .i32 0, .int .i32 0] [(0, 1), (1, 1), (2, 1), (3, 1)] := eF Tryz.underlying253 (by kernel_rfl) (by kernel_rfl) (by kernel_rfl)
theorem jA : iA Tryz.prog 253 = some 4 := by kernel_rfl
theorem tA : fA Tryz.prog 253 0 0 = true := by kernel_rfl
theorem sY : fA Tryz.prog 253 2 2 = true := by kernel_rfl
theorem uH : fA Tryz.prog 253 1 1 = true := by kernel_rfl
theorem tJ : fA Tryz.prog 253 3 3 = true := by kernel_rfl
theorem aKz : aO Tryz.prog 231 = true := by kernel_rfl
theorem bGh : aO Tryz.prog 232 = true := by kernel_rfl
theorem oM : fO Tryz.prog 283 = some [.int .i32 0, .int .i32 0] := by kernel_rfl
theorem aCc : fW Tryz.prog 283 [.int .i32 0, .int .i32 0] [(0, 1), (1, 1)] := eF Tryz.underlying283 (by kernel_rfl) (by kernel_rfl) (by kernel_rfl)
theorem gY : iA Tryz.prog 283 = some 2 := by kernel_rfl
theorem fD : fW Tryz.prog 37 [.int .i32 0, .int .i32 0] [(0, 1), (1, 1)] := eF Tryz.underlying37 (by kernel_rfl) (by kernel_rfl) (by kernel_rfl)
theorem aTh : aO Tryz.prog 267 = true := by kernel_rfl
theorem bDs : aO Tryz.prog 254 = true := by kernel_rfl
theorem aOu : fO Tryz.prog 4 = some [.bool false] := by kernel_rfl
theorem yW : fA Tryz.prog 283 1 1 = true := by kernel_rfl
theorem aAm : fA Tryz.prog 283 0 0 = true := by kernel_rfl
theorem bAj : fO Tryz.prog 281 = some [.slice none 0 0] := by kernel_rfl
theorem bEh : aO Tryz.prog 230 = true := by kernel_rfl
theorem bHl : aO Tryz.prog 255 = true := by kernel_rfl
theorem aKi : fY Tryz.prog 281 = true := by kernel_rfl
theorem aWw : eT Tryz.prog 281 283 2 8 = true := by kernel_rfl
theorem gB : (Tryz.prog.underlying 21).isSome = true := by kernel_rfl
theorem aVc : xD Tryz.prog 323 2 35 1 = true := by kernel_rfl
theorem sE : (Tryz.prog.underlying 35).isSome = true := by kernel_rfl
theorem bGz : aO Tryz.prog 245 = true := by kernel_rfl
theorem us2 : (Tryz.prog.underlying 2).isSome = true := by kernel_rfl
theorem aDb : (Tryz.prog.underlying 237).isSome = true := by kernel_rfl
theorem qD : aO Tryz.prog 222 = true := by kernel_rfl
theorem aLj : aO Tryz.prog 221 = true := by kernel_rfl
theorem aXo : aO Tryz.prog 223 = true := by kernel_rfl
theorem aFf : aO Tryz.prog 224 = true := by kernel_rfl
theorem aDz : aO Tryz.prog 246 = true := by kernel_rfl
theorem aUv : aO Tryz.prog 240 = true := by kernel_rfl
theorem aMk : aO Tryz.prog 216 = true := by kernel_rfl
theorem bEv : aO Tryz.prog 242 = true := by kernel_rfl
theorem gQ : fO Tryz.prog 37 = some [.int .i32 0, .int .i32 0] := by kernel_rfl
theorem aWa : aO Tryz.prog 218 = true := by kernel_rfl
theorem aWv : aO Tryz.prog 241 = true := by kernel_rfl
theorem zO : aO Tryz.prog 239 = true := by kernel_rfl
theorem mJ : fY Tryz.prog 2 = true := by kernel_rfl
theorem aEs : aO Tryz.prog 189 = true := by kernel_rfl
theorem bDu : aO Tryz.prog 282 = true := by kernel_rfl
theorem aAg : fO Tryz.prog 2 = some [.int .i64 0] := by kernel_rfl
theorem aVu : aO Tryz.prog 283 = true := by kernel_rfl
theorem pZ : fY Tryz.prog 237 = true := by kernel_rfl
theorem bBz : fO Tryz.prog 237 = some [.int .u64 0] := by kernel_rfl
theorem vJ : xD Tryz.prog 369 2 37 2 = true := by kernel_rfl
theorem aNp : fO Tryz.prog 369 = some [.int .i32 0, .int .i32 0, .int .i32 0, .int .i32 0] := by kernel_rfl
theorem aEy : aO Tryz.prog 277 = true := by kernel_rfl
theorem aFw : aO Tryz.prog 276 = true := by kernel_rfl
theorem bHp : aO Tryz.prog 259 = true := by kernel_rfl
theorem uD : fO Tryz.prog 296 = some [.int .u32 0, .int .i32 0, .int .i32 0, .int .i32 0, .int .i32 0, .int .i32 0, .int .i32 0, .int .i32 0, .int .i32 0, .int .i32 0, .int .i32 0, .int .i32 0, .int .i32 0, .int .i32 0] := by kernel_rfl
theorem bHb : aO Tryz.prog 258 = true := by kernel_rfl
theorem aRg : fW Tryz.prog 296 [.int .u32 0, .int .i32 0, .int .i32 0, .int .i32 0, .int .i32 0, .int .i32 0, .int .i32 0, .int .i32 0, .int .i32 0, .int .i32 0, .int .i32 0, .int .i32 0, .int .i32 0, .int .i32 0] [(0, 10), (10, 2), (12, 2)] := eF Tryz.underlying296 (by kernel_rfl) (by kernel_rfl) (by kernel_rfl)
theorem lI : iA Tryz.prog 296 = some 14 := by kernel_rfl
theorem aEc : aO Tryz.prog 237 = true := by kernel_rfl
theorem aGj : fA Tryz.prog 296 1 10 = true := by kernel_rfl
theorem aGp : fA Tryz.prog 296 2 12 = true := by kernel_rfl
theorem bFa : aO Tryz.prog 238 = true := by kernel_rfl
theorem uG : fA Tryz.prog 296 0 0 = true := by kernel_rfl
theorem tS : fO Tryz.prog 211 = some [.int .u32 0, .int .u32 0, .int .i32 0, .int .i32 0, .int .i32 0] := by kernel_rfl
theorem bEi : aO Tryz.prog 214 = true := by kernel_rfl
theorem bFy : aO Tryz.prog 215 = true := by kernel_rfl
theorem aDu : fW Tryz.prog 211 [.int .u32 0, .int .u32 0, .int .i32 0, .int .i32 0, .int .i32 0] [(0, 2), (2, 2), (4, 1)] := eF Tryz.underlying211 (by kernel_rfl) (by kernel_rfl) (by kernel_rfl)
theorem gR : iA Tryz.prog 211 = some 5 := by kernel_rfl
theorem aCe : fW Tryz.prog 209 [.int .u32 0, .int .u32 0] [(0, 1), (1, 1)] := eF Tryz.underlying209 (by kernel_rfl) (by kernel_rfl) (by kernel_rfl)
theorem qS : fO Tryz.prog 209 = some [.int .u32 0, .int .u32 0] := by kernel_rfl
theorem bEs : aO Tryz.prog 217 = true := by kernel_rfl
theorem aGm : fA Tryz.prog 250 1 1024 = true := by kernel_rfl
theorem bGa : aO Tryz.prog 204 = true := by kernel_rfl
theorem bEu : aO Tryz.prog 205 = true := by kernel_rfl
theorem aUt : uZ Tryz.prog 280 3 4 .i64 = true := by kernel_rfl
theorem zv4 : jX Tryz.prog 4 = some (.bool false) := by kernel_rfl
theorem yL : fA Tryz.prog 250 0 0 = true := by kernel_rfl
theorem aJy : xD Tryz.prog 248 1024 247 1 = true := by kernel_rfl
theorem aFg : fY Tryz.prog 247 = true := by kernel_rfl
theorem aHe : eT Tryz.prog 247 35 1 4 = true := by kernel_rfl
theorem aWm : eT Tryz.prog 353 3 1 8 = true := by kernel_rfl
theorem oK : fA Tryz.prog 209 0 0 = true := by kernel_rfl
theorem oG : fA Tryz.prog 209 1 1 = true := by kernel_rfl
theorem bFb : aO Tryz.prog 236 = true := by kernel_rfl
theorem bGj : fY Tryz.prog 287 = true := by kernel_rfl
theorem bFh : aO Tryz.prog 235 = true := by kernel_rfl
theorem aMf : fY Tryz.prog 220 = true := by kernel_rfl
theorem uI : eT Tryz.prog 220 209 2 8 = true := by kernel_rfl
theorem bHq : aO Tryz.prog 256 = true := by kernel_rfl
theorem bFj : aO Tryz.prog 233 = true := by kernel_rfl
theorem bEt : aO Tryz.prog 234 = true := by kernel_rfl
theorem bIb : iA Tryz.prog 248 = some 1024 := by kernel_rfl
theorem bEd : aO Tryz.prog 210 = true := by kernel_rfl
theorem aQx : fW Tryz.prog 288 [] [] := eF Tryz.underlying288 (by kernel_rfl) (by kernel_rfl) (by kernel_rfl)
theorem bFg : aO Tryz.prog 212 = true := by kernel_rfl
theorem bEl : aO Tryz.prog 211 = true := by kernel_rfl
theorem bHx : aO Tryz.prog 203 = true := by kernel_rfl
theorem aEk : uZ Tryz.prog 245 35 253 .u32 = true := by kernel_rfl
theorem bKm : fO Tryz.prog 3 = some [.int .i64 0] := by kernel_rfl
theorem aWr : fY Tryz.prog 245 = true := by kernel_rfl
theorem aWh : jX Tryz.prog 253 = some (.agg [.int .i32 0, .int .i32 0, .int .i32 0, .int .i32 0].toArray) := by kernel_rfl
theorem bGf : aO Tryz.prog 207 = true := by kernel_rfl
theorem aVq : aO Tryz.prog 206 = true := by kernel_rfl
theorem bEw : aO Tryz.prog 209 = true := by kernel_rfl
theorem bFm : aO Tryz.prog 180 = true := by kernel_rfl
theorem bGk : aO Tryz.prog 181 = true := by kernel_rfl
theorem bHj : aO Tryz.prog 182 = true := by kernel_rfl
theorem bGi : aO Tryz.prog 184 = true := by kernel_rfl
theorem bFo : aO Tryz.prog 183 = true := by kernel_rfl
theorem bHf : aO Tryz.prog 208 = true := by kernel_rfl
theorem bIm : aO Tryz.prog 63 = true := by kernel_rfl
theorem aAi : fA Tryz.prog 219 0 0 = true := by kernel_rfl
theorem yQ : fY Tryz.prog 217 = true := by kernel_rfl
theorem aAd : uZ Tryz.prog 217 35 39 .u32 = true := by kernel_rfl
theorem bCa : jX Tryz.prog 39 = some (.agg [.int .u32 0, .int .i32 0, .int .i32 0, .int .i32 0, .int .i32 0, .int .i32 0, .int .i32 0, .int .i32 0, .int .i32 0, .int .i32 0].toArray) := by kernel_rfl
theorem aWg : aO Tryz.prog 185 = true := by kernel_rfl
theorem qG : fA Tryz.prog 219 1 1 = true := by kernel_rfl
theorem mC : fY Tryz.prog 166 = true := by kernel_rfl
theorem aDt : eT Tryz.prog 166 211 5 20 = true := by kernel_rfl
theorem bHk : aO Tryz.prog 159 = true := by kernel_rfl
theorem aPg : fW Tryz.prog 219 [.map none, .slice none 0 0] [(0, 1), (1, 1)] := eF Tryz.underlying219 (by kernel_rfl) (by kernel_rfl) (by kernel_rfl)
theorem bHc : aO Tryz.prog 157 = true := by kernel_rfl
theorem bEm : aO Tryz.prog 158 = true := by kernel_rfl
theorem bHt : aO Tryz.prog 284 = true := by kernel_rfl
theorem bGo : aO Tryz.prog 278 = true := by kernel_rfl
theorem nW : fA Tryz.prog 211 1 2 = true := by kernel_rfl
theorem bGd : aO Tryz.prog 260 = true := by kernel_rfl
theorem bFv : aO Tryz.prog 261 = true := by kernel_rfl
theorem aYd : aO Tryz.prog 262 = true := by kernel_rfl
theorem aVo : aO Tryz.prog 263 = true := by kernel_rfl
theorem oA : fA Tryz.prog 303 0 0 = true := by kernel_rfl
theorem tT : fA Tryz.prog 211 0 0 = true := by kernel_rfl
theorem aEp : aO Tryz.prog 161 = true := by kernel_rfl
theorem bFi : aO Tryz.prog 243 = true := by kernel_rfl
theorem aXi : aO Tryz.prog 244 = true := by kernel_rfl
theorem nU : fA Tryz.prog 303 1 1 = true := by kernel_rfl
theorem lD : fY Tryz.prog 260 = true := by kernel_rfl
theorem nT : fA Tryz.prog 303 2 2 = true := by kernel_rfl
theorem nB : eT Tryz.prog 260 2 1 8 = true := by kernel_rfl
theorem bEc : aO Tryz.prog 220 = true := by kernel_rfl
theorem aDr : fW Tryz.prog 303 [.slice none 0 0, .slice none 0 0, .slice none 0 0] [(0, 1), (1, 1), (2, 1)] := eF Tryz.underlying303 (by kernel_rfl) (by kernel_rfl) (by kernel_rfl)
theorem aXj : aO Tryz.prog 219 = true := by kernel_rfl
theorem bDp : aO Tryz.prog 186 = true := by kernel_rfl
theorem aKk : aO Tryz.prog 148 = true := by kernel_rfl
theorem bFx : aO Tryz.prog 160 = true := by kernel_rfl
theorem aWp : fA Tryz.prog 211 2 4 = true := by kernel_rfl
theorem aTf : aO Tryz.prog 190 = true := by kernel_rfl
theorem vF : fY Tryz.prog 127 = true := by kernel_rfl
theorem wS : eT Tryz.prog 127 177 2 16 = true := by kernel_rfl
theorem aAz : fA Tryz.prog 177 0 0 = true := by kernel_rfl
theorem yA : fA Tryz.prog 177 1 1 = true := by kernel_rfl
theorem aOi : fO Tryz.prog 177 = some [.int .i64 0, .int .i64 0] := by kernel_rfl
theorem aYz : fO Tryz.prog 127 = some [.slice none 0 0] := by kernel_rfl
theorem aTv : aO Tryz.prog 163 = true := by kernel_rfl
theorem aVb : aO Tryz.prog 162 = true := by kernel_rfl
theorem aCk : eT Tryz.prog 201 174 1 8 = true := by kernel_rfl
theorem bHi : fY Tryz.prog 174 = true := by kernel_rfl
theorem bEx : aO Tryz.prog 111 = true := by kernel_rfl
theorem aAs : aO Tryz.prog 112 = true := by kernel_rfl
theorem bGv : aO Tryz.prog 110 = true := by kernel_rfl
theorem aWu : aO Tryz.prog 109 = true := by kernel_rfl
theorem bDm : aO Tryz.prog 113 = true := by kernel_rfl
theorem bCr : aO Tryz.prog 66 = true := by kernel_rfl
theorem bCk : aO Tryz.prog 67 = true := by kernel_rfl
theorem tK : fA Tryz.prog 168 1 1 = true := by kernel_rfl
theorem oL : fA Tryz.prog 168 3 3 = true := by kernel_rfl
theorem lQ : fA Tryz.prog 58 2 2 = true := by kernel_rfl
theorem aAx : fA Tryz.prog 168 0 0 = true := by kernel_rfl
theorem bFe : aO Tryz.prog 144 = true := by kernel_rfl
theorem tF : fA Tryz.prog 168 2 2 = true := by kernel_rfl
theorem sU : fA Tryz.prog 58 0 0 = true := by kernel_rfl
theorem rD : fA Tryz.prog 58 1 1 = true := by kernel_rfl
theorem aMe : aO Tryz.prog 145 = true := by kernel_rfl
theorem bEy : aO Tryz.prog 146 = true := by kernel_rfl
theorem bHm : aO Tryz.prog 147 = true := by kernel_rfl
theorem mE : fO Tryz.prog 58 = some [.int .i64 0, .int .i64 0, .bool false] := by kernel_rfl
theorem aPh : fW Tryz.prog 168 [.slice none 0 0, .slice none 0 0, .slice none 0 0, .int .i64 0, .int .i64 0, .bool false] [(0, 1), (1, 1), (2, 1), (3, 3)] := eF Tryz.underlying168 (by kernel_rfl) (by kernel_rfl) (by kernel_rfl)
theorem yN : xD Tryz.prog 170 4 169 1 = true := by kernel_rfl
theorem bCb : fO Tryz.prog 170 = some [.nilFunc, .nilFunc, .nilFunc, .nilFunc] := by kernel_rfl
theorem aFn : fY Tryz.prog 169 = true := by kernel_rfl
theorem bHv : aO Tryz.prog 105 = true := by kernel_rfl
theorem bGg : aO Tryz.prog 106 = true := by kernel_rfl
theorem bFs : aO Tryz.prog 107 = true := by kernel_rfl
theorem bFu : aO Tryz.prog 108 = true := by kernel_rfl
theorem kC : iA Tryz.prog 58 = some 3 := by kernel_rfl
theorem aVl : aO Tryz.prog 65 = true := by kernel_rfl
theorem oY : eT Tryz.prog 31 5 1 1 = true := by kernel_rfl
theorem aFv : fO Tryz.prog 139 = some [.int .u32 0, .int .u32 0, .int .u32 0, .int .u32 0, .int .u32 0, .int .u32 0, .int .u32 0, .int .u32 0, .int .u32 0, .int .u32 0] := by kernel_rfl
theorem fP : xD Tryz.prog 139 10 35 1 = true := by kernel_rfl
theorem oX : aO Tryz.prog 136 = true := by kernel_rfl
theorem aKl : iA Tryz.prog 139 = some 10 := by kernel_rfl
theorem bAq : fY Tryz.prog 5 = true := by kernel_rfl
theorem us5 : (Tryz.prog.underlying 5).isSome = true := by kernel_rfl
theorem aMu : aO Tryz.prog 118 = true := by kernel_rfl
theorem bDl : aO Tryz.prog 82 = true := by kernel_rfl
theorem aWb : aO Tryz.prog 100 = true := by kernel_rfl
theorem bDq : aO Tryz.prog 101 = true := by kernel_rfl
theorem pX : aO Tryz.prog 79 = true := by kernel_rfl
theorem pS : aO Tryz.prog 80 = true := by kernel_rfl
theorem bIv : aO Tryz.prog 81 = true := by kernel_rfl
theorem pV : fA Tryz.prog 107 0 0 = true := by kernel_rfl
theorem aXu : aO Tryz.prog 60 = true := by kernel_rfl
theorem nZ : fA Tryz.prog 105 0 0 = true := by kernel_rfl
theorem bDg : aO Tryz.prog 61 = true := by kernel_rfl
theorem bDo : aO Tryz.prog 122 = true := by kernel_rfl
theorem bHh : aO Tryz.prog 117 = true := by kernel_rfl
theorem bIt : aO Tryz.prog 68 = true := by kernel_rfl
theorem aOq : aO Tryz.prog 38 = true := by kernel_rfl
theorem bKc : aO Tryz.prog 58 = true := by kernel_rfl
theorem bIp : aO Tryz.prog 69 = true := by kernel_rfl
theorem bHr : aO Tryz.prog 124 = true := by kernel_rfl
theorem bHw : aO Tryz.prog 125 = true := by kernel_rfl
theorem aQk : fW Tryz.prog 105 [.slice none 0 0, .map none] [(0, 2)] := eF Tryz.underlying105 (by kernel_rfl) (by kernel_rfl) (by kernel_rfl)
theorem bGu : iA Tryz.prog 105 = some 2 := by kernel_rfl
theorem aXk : aO Tryz.prog 78 = true := by kernel_rfl
theorem bCy : aO Tryz.prog 54 = true := by kernel_rfl
theorem bKl : fY Tryz.prog 31 = true := by kernel_rfl
theorem aZn : fA Tryz.prog 41 1 1 = true := by kernel_rfl
theorem aNv : fA Tryz.prog 41 2 11 = true := by kernel_rfl
theorem aZa : fA Tryz.prog 41 4 14 = true := by kernel_rfl
theorem bJj : aO Tryz.prog 83 = true := by kernel_rfl
theorem kI : uZ Tryz.prog 109 3 34 .i64 = true := by kernel_rfl
theorem bKg : aO Tryz.prog 85 = true := by kernel_rfl
theorem bKo : aO Tryz.prog 88 = true := by kernel_rfl
theorem kH : fO Tryz.prog 33 = some [.int .i64 0, .slice none 0 0, .int .i64 0, .bool false] := by kernel_rfl
theorem aUk : fY Tryz.prog 143 = true := by kernel_rfl
theorem bHn : fY Tryz.prog 144 = true := by kernel_rfl
theorem pJ : iA Tryz.prog 41 = some 15 := by kernel_rfl
theorem mQ : fW Tryz.prog 33 [.int .i64 0, .slice none 0 0, .int .i64 0, .bool false] [(0, 1), (1, 1), (2, 1), (3, 1)] := eF Tryz.underlying33 (by kernel_rfl) (by kernel_rfl) (by kernel_rfl)
theorem bIk : aO Tryz.prog 84 = true := by kernel_rfl
theorem bKi : aO Tryz.prog 26 = true := by kernel_rfl
theorem gK : iA Tryz.prog 33 = some 4 := by kernel_rfl
theorem aWd : fY Tryz.prog 146 = true := by kernel_rfl
theorem bHz : fY Tryz.prog 148 = true := by kernel_rfl
theorem bKq : aO Tryz.prog 87 = true := by kernel_rfl
theorem bKk : aO Tryz.prog 86 = true := by kernel_rfl
theorem aYa : fY Tryz.prog 150 = true := by kernel_rfl
theorem bFk : fY Tryz.prog 151 = true := by kernel_rfl
theorem bJh : aO Tryz.prog 89 = true := by kernel_rfl
theorem bIn : aO Tryz.prog 74 = true := by kernel_rfl
theorem bBs : fA Tryz.prog 41 3 12 = true := by kernel_rfl
theorem bJb : aO Tryz.prog 91 = true := by kernel_rfl
theorem bCt : aO Tryz.prog 53 = true := by kernel_rfl
theorem bCx : aO Tryz.prog 24 = true := by kernel_rfl
theorem oS : fA Tryz.prog 41 0 0 = true := by kernel_rfl
theorem zV : aO Tryz.prog 55 = true := by kernel_rfl
theorem aKa : jX Tryz.prog 34 = some (.nilFunc) := by kernel_rfl
theorem bEp : aO Tryz.prog 120 = true := by kernel_rfl
theorem bFn : aO Tryz.prog 121 = true := by kernel_rfl
theorem bHu : aO Tryz.prog 123 = true := by kernel_rfl
theorem bIs : aO Tryz.prog 90 = true := by kernel_rfl
theorem bKd : aO Tryz.prog 92 = true := by kernel_rfl
theorem bIq : aO Tryz.prog 93 = true := by kernel_rfl
theorem bJe : eT Tryz.prog 27 41 15 88 = true := by kernel_rfl
theorem bFc : fO Tryz.prog 41 = some [.int .i64 0, .int .u32 0, .int .i32 0, .int .i32 0, .int .i32 0, .int .i32 0, .int .i32 0, .int .i32 0, .int .i32 0, .int .i32 0, .int .i32 0, .int .u32 0, .int .i32 0, .int .i32 0, .slice none 0 0] := by kernel_rfl
theorem bIx : aO Tryz.prog 20 = true := by kernel_rfl
theorem bJm : eT Tryz.prog 63 33 4 48 = true := by kernel_rfl
theorem aYt : fO Tryz.prog 107 = some [.slice none 0 0, .map none] := by kernel_rfl
theorem bIu : aO Tryz.prog 33 = true := by kernel_rfl
theorem zF : fW Tryz.prog 41 [.int .i64 0, .int .u32 0, .int .i32 0, .int .i32 0, .int .i32 0, .int .i32 0, .int .i32 0, .int .i32 0, .int .i32 0, .int .i32 0, .int .i32 0, .int .u32 0, .int .i32 0, .int .i32 0, .slice none 0 0] [(0, 1), (1, 10), (11, 1), (12, 2), (14, 1)] := eF Tryz.underlying41 (by kernel_rfl) (by kernel_rfl) (by kernel_rfl)
theorem bKp : aO Tryz.prog 18 = true := by kernel_rfl
theorem bJl : aO Tryz.prog 37 = true := by kernel_rfl
theorem aNn : aO Tryz.prog 52 = true := by kernel_rfl
theorem aUs : ∀ (x0 x1 y0 y1 : Int), EqA Tryz.prog 37 [.int .i32 x0, .int .i32 x1] [.int .i32 y0, .int .i32 y1] (decide (x0 = y0 ∧ x1 = y1)) := fun x0 x1 y0 y1 => ⟨by kernel_rfl, fun w => aNk 9998 w x0 x1 y0 y1⟩
theorem bJz : aO Tryz.prog 29 = true := by kernel_rfl
theorem bCv : aO Tryz.prog 16 = true := by kernel_rfl
theorem bJr : aO Tryz.prog 30 = true := by kernel_rfl
theorem bJi : aO Tryz.prog 31 = true := by kernel_rfl
theorem aVs : pQ Tryz.prog 4 39 = some [.u32, .i32, .i32, .i32, .i32, .i32, .i32, .i32, .i32, .i32] := by kernel_rfl
end Go.Proofs.YtaoaknafiegfoaaGreatDoor

namespace Go.Proofs.YtaoaknafiegfoaaGreatDoor
open Go.Bil
open Go.RowKit (Below)
open Go.Proofs
set_option maxHeartbeats 4000000 in
theorem oF (w : World) (n l : Int) (h0 : 0 ≤ l) (h1 : l ≤ 2147483647) :
  Calls Tryz.prog 62 #[.int .i32 n, .int .i32 l] w (fun ex w' => ∃ v, ex = .returned v ∧ (fun v w' => v = .bool (decide (rW n l)) ∧ Below w.heap.size w w') v w') := by
 have hneg : IntKind.i32.wrap (-l) = -l := mP _ (by omega) (by omega)
 refine aH #[.tmp 4] 14 Tryz.func62 rfl Tryz.results62 Tryz.ntmps62 rfl ?_
 have M0 := Mem.refl w
 refine aD (aA (wq (aI (.bool false) rfl) rfl (aB (aC (aD (aA (aZ rfl rfl (aZ rfl rfl (wq (yT rfl) rfl ?_)))))))))
 refine aV 7 (.int .i32 (-l)) (iE hneg) (dB rfl rfl rfl rfl (wq (aG (.bool (decide _)) rfl) rfl ?_))
 refine dE 9 rfl (fun g9 => ?_) (fun g9 => ?_)
 ·refine aZ rfl rfl (aZ rfl rfl (dB rfl rfl rfl rfl (wq (bS true (.bool (decide _)) rfl rfl) rfl (wq (aI (.bool (decide _)) rfl) rfl (aB (aC (aL ?_)))))))
  refine cA (.bool (decide _)) rfl ?_
  exact ⟨by unfold rW; first | exact bF (by omega) | exact bD (by omega), M0.below⟩
 ·refine aR rfl rfl (aR rfl rfl (aR rfl rfl (wq (bS false (.bool false) rfl rfl) rfl (wq (aI (.bool false) rfl) rfl (aB (aC (aL ?_)))))))
  refine cA (.bool false) rfl ?_
  exact ⟨by unfold rW; first | exact bF (by omega) | exact bD (by omega), M0.below⟩
set_option maxHeartbeats 4000000 in
theorem wA (w : World) (b : Body) :
  Calls Tryz.prog 27 #[(.agg (aF b).toArray)] w (fun ex w' => ∃ v, ex = .returned v ∧ (fun v w' => v = .int .i64 (check b) ∧ Below w.heap.size w w') v w') := by
 refine aH #[.tmp 2] 63 Tryz.func27 rfl Tryz.results27 Tryz.ntmps27 rfl ?_
 have M0 := Mem.refl w
 refine aD (aA (bG (.agg (List.toArray _)) M0 rfl rfl rfl (fun b1 w1 M1 => (bI rfl rfl (aB (aC (aD (aD (aA (wq (aE 1 lS rfl) rfl (wq (aM 0 (.int _ _) aW M1 rfl rfl rfl) rfl ?_)))))))))))
 refine dB rfl rfl rfl rfl (wq (aG (.bool (decide _)) rfl) rfl ?_)
 refine dE 6 rfl (fun g6 => ?_) (fun g6 => ?_)
 ·refine aR rfl rfl (aR rfl rfl (aR rfl rfl (wq (bS true (.bool true) rfl rfl) rfl (aB (aC (cQ rfl ?_))))))
  refine aD (aA (bI rfl rfl (aB (aC (aL (cD (cA (.int _ _) rfl ?_)))))))
  exact ⟨iE (by unfold check; unfold rW at *; (repeat' split) <;> omega), M1.below⟩
 ·refine wq (aE 1 lS rfl) rfl (wq (aM 0 (.int _ _) aW M1 rfl rfl rfl) rfl (dB rfl rfl rfl rfl (wq (bS false (.bool (decide _)) rfl rfl) rfl (aB (aC ?_)))))
  refine aX rfl (fun h10 => ?_) (fun h10 => ?_)
  ·refine aD (aA (bI rfl rfl (aB (aC (aL (cD (cA (.int _ _) rfl ?_)))))))
   exact ⟨iE (by unfold check; unfold rW at *; (repeat' split) <;> omega), M1.below⟩
  ·refine aK (aC (aD (aD (aA (wq (aE 2 jZ rfl) rfl (wq (aE 0 dS rfl) rfl (wq (aM 0 (.int _ _) aW M1 rfl rfl rfl) rfl (bZ aCm rfl rfl (oF _ _ _ (by omega) (by omega)) ?_))))))))
   rintro v2 w2 ⟨rfl, hb2⟩
   have M2 := M1.callB hb2
   refine wq (lL rfl) rfl (wq (aG (.bool (decide _)) rfl) rfl ?_)
   refine dE 16 rfl (fun g16 => ?_) (fun g16 => ?_)
   ·refine aR rfl rfl (aR rfl rfl (aR rfl rfl (aR rfl rfl (aR rfl rfl (wq (bS true (.bool true) rfl rfl) rfl ?_)))))
    refine aB (aC (cQ rfl (aD (aA (bI rfl rfl (aB (aC (aL (cD (cA (.int _ _) rfl ?_))))))))))
    exact ⟨iE (by unfold check; unfold rW at *; (repeat' split) <;> omega), M2.below⟩
   ·refine wq (aE 2 jZ rfl) rfl (wq (aE 1 dG rfl) rfl (wq (aM 0 (.int _ _) aW M2 rfl rfl rfl) rfl (bZ aCm rfl rfl (oF _ _ _ (by omega) (by omega)) ?_)))
    rintro v3 w3 ⟨rfl, hb3⟩
    have M3 := M2.callB hb3
    refine wq (lL rfl) rfl (wq (bS false (.bool (decide _)) rfl rfl) rfl (aB (aC ?_)))
    refine aX rfl (fun h22 => ?_) (fun h22 => ?_)
    ·refine aD (aA (bI rfl rfl (aB (aC (aL (cD (cA (.int _ _) rfl ?_)))))))
     exact ⟨iE (by unfold check; unfold rW at *; (repeat' split) <;> omega), M3.below⟩
    ·refine aK (aC (aD (aD (aA (wq (aE 4 eQ rfl) rfl (wq (aM 0 (.int _ _) aW M3 rfl rfl rfl) rfl (dB rfl rfl rfl rfl (wq (aG (.bool (decide _)) rfl) rfl ?_))))))))
     refine dE 26 rfl (fun g26 => ?_) (fun g26 => ?_)
     ·refine aR rfl rfl (aR rfl rfl (aR rfl rfl (wq (bS true (.bool true) rfl rfl) rfl (aB (aC (cQ rfl ?_))))))
      refine aD (aA (bI rfl rfl (aB (aC (aL (cD (cA (.int _ _) rfl ?_)))))))
      exact ⟨iE (by unfold check; unfold rW at *; (repeat' split) <;> omega), M3.below⟩
     ·refine wq (aE 4 eQ rfl) rfl (wq (aM 0 (.int _ _) aW M3 rfl rfl rfl) rfl (dB rfl rfl rfl rfl (wq (bS false (.bool (decide _)) rfl rfl) rfl (aB (aC ?_)))))
      refine aX rfl (fun h30 => ?_) (fun h30 => ?_)
      ·refine aD (aA (bI rfl rfl (aB (aC (aL (cD (cA (.int _ _) rfl ?_)))))))
       exact ⟨iE (by unfold check; unfold rW at *; (repeat' split) <;> omega), M3.below⟩
      ·refine aK (aC (aD (aD (aA (wq (aE 5 oT rfl) rfl (wq (aM 0 (.int _ _) aW M3 rfl rfl rfl) rfl (dB rfl rfl rfl rfl (wq (aG (.bool (decide _)) rfl) rfl ?_))))))))
       refine dE 34 rfl (fun g34 => ?_) (fun g34 => ?_)
       ·refine aR rfl rfl (aR rfl rfl (aR rfl rfl (wq (bS true (.bool true) rfl rfl) rfl (aB (aC (cQ rfl ?_))))))
        refine aD (aA (bI rfl rfl (aB (aC (aL (cD (cA (.int _ _) rfl ?_)))))))
        exact ⟨iE (by unfold check; unfold rW at *; (repeat' split) <;> omega), M3.below⟩
       ·refine wq (aE 5 oT rfl) rfl (wq (aM 0 (.int _ _) aW M3 rfl rfl rfl) rfl (dB rfl rfl rfl rfl (wq (bS false (.bool (decide _)) rfl rfl) rfl (aB (aC ?_)))))
        refine aX rfl (fun h38 => ?_) (fun h38 => ?_)
        ·refine aD (aA (bI rfl rfl (aB (aC (aL (cD (cA (.int _ _) rfl ?_)))))))
         exact ⟨iE (by unfold check; unfold rW at *; (repeat' split) <;> omega), M3.below⟩
        ·refine aK (aC (aD (aD (aA (wq (aE 6 fR rfl) rfl (wq (aE 0 dS rfl) rfl (wq (aM 0 (.int _ _) aW M3 rfl rfl rfl) rfl (bZ aCm rfl rfl (oF _ _ _ (by omega) (by omega)) ?_))))))))
         rintro v4 w4 ⟨rfl, hb4⟩
         have M4 := M3.callB hb4
         refine wq (lL rfl) rfl (wq (aG (.bool (decide _)) rfl) rfl ?_)
         refine dE 44 rfl (fun g44 => ?_) (fun g44 => ?_)
         ·refine aR rfl rfl (aR rfl rfl (aR rfl rfl (aR rfl rfl (aR rfl rfl (wq (bS true (.bool true) rfl rfl) rfl ?_)))))
          refine aB (aC (cQ rfl (aD (aA (bI rfl rfl (aB (aC (aL (cD (cA (.int _ _) rfl ?_))))))))))
          exact ⟨iE (by unfold check; unfold rW at *; (repeat' split) <;> omega), M4.below⟩
         ·refine wq (aE 6 fR rfl) rfl (wq (aE 1 dG rfl) rfl (wq (aM 0 (.int _ _) aW M4 rfl rfl rfl) rfl (bZ aCm rfl rfl (oF _ _ _ (by omega) (by omega)) ?_)))
          rintro v5 w5 ⟨rfl, hb5⟩
          have M5 := M4.callB hb5
          refine wq (lL rfl) rfl (wq (bS false (.bool (decide _)) rfl rfl) rfl (aB (aC ?_)))
          refine aX rfl (fun h50 => ?_) (fun h50 => ?_)
          ·refine aD (aA (bI rfl rfl (aB (aC (aL (cD (cA (.int _ _) rfl ?_)))))))
           exact ⟨iE (by unfold check; unfold rW at *; (repeat' split) <;> omega), M5.below⟩
          ·refine aK (aC (aD (aD (aA (wq (aE 8 eK rfl) rfl (wq (aE 0 dS rfl) rfl (wq (aM 0 (.int _ _) aW M5 rfl rfl rfl) rfl (bZ aCm rfl rfl (oF _ _ _ (by omega) (by omega)) ?_))))))))
           rintro v6 w6 ⟨rfl, hb6⟩
           have M6 := M5.callB hb6
           refine wq (lL rfl) rfl (wq (aG (.bool (decide _)) rfl) rfl ?_)
           refine dE 56 rfl (fun g56 => ?_) (fun g56 => ?_)
           ·refine aR rfl rfl (aR rfl rfl (aR rfl rfl (aR rfl rfl (aR rfl rfl (wq (bS true (.bool true) rfl rfl) rfl ?_)))))
            refine aB (aC (cQ rfl (aD (aA (bI rfl rfl (aB (aC (aL (cD (cA (.int _ _) rfl ?_))))))))))
            exact ⟨iE (by unfold check; unfold rW at *; (repeat' split) <;> omega), M6.below⟩
           ·refine wq (aE 8 eK rfl) rfl (wq (aE 1 dG rfl) rfl (wq (aM 0 (.int _ _) aW M6 rfl rfl rfl) rfl (bZ aCm rfl rfl (oF _ _ _ (by omega) (by omega)) ?_)))
            rintro v7 w7 ⟨rfl, hb7⟩
            have M7 := M6.callB hb7
            refine wq (lL rfl) rfl (wq (bS false (.bool (decide _)) rfl rfl) rfl (aB (aC ?_)))
            refine aX rfl (fun h62 => ?_) (fun h62 => ?_)
            ·refine aD (aA (bI rfl rfl (aB (aC (aL (cD (cA (.int _ _) rfl ?_)))))))
             exact ⟨iE (by unfold check; unfold rW at *; (repeat' split) <;> omega), M7.below⟩
            ·refine aK (aC (aD (aA (bI rfl rfl (aB (aC (aL (cA (.int _ _) rfl ?_))))))))
             exact ⟨iE (by unfold check; unfold rW at *; (repeat' split) <;> omega), M7.below⟩
theorem aMl (a b : Body) : EqA Tryz.prog 39 (aF a) (aF b) (decide (a = b)) := by
 have h := bJc a.key a.radius a.ax a.ay a.mass a.bounce a.px a.py a.vx a.vy b.key b.radius b.ax b.ay b.mass b.bounce b.px b.py b.vx b.vy
 rw [decide_eq_decide.2 (aXw (a := a) (b := b))]
 exact h
set_option maxHeartbeats 4000000 in
theorem aMv (w : World) (key : Int) (A : Option Addr) (n c : Nat) (xs : List Body) (R : Rd w 10 A n (xs.map aF)) :
  Calls Tryz.prog 99 #[.slice A n c, .int .u32 key] w (fun ex w' => ∃ v, ex = .returned v ∧ (fun v w' => v = .int .i64 (cI key xs) ∧ Below w.heap.size w w') v w') := by
 have hlen : xs.length = n := by simpa using R.len
 have hbd := R.bound
 refine aH #[.tmp 4] 20 Tryz.func99 rfl Tryz.results99 Tryz.ntmps99 rfl ?_
 have M0 := Mem.refl w
 refine aD (aA (bI rfl rfl (aB (aC (aD (aD (aA (bI rfl rfl (aB (aC (aT (dI (σ := Nat) [0, 1] (fun k => [(5, .int .i64 (k : Int))]) (fun k w' => (k ≤ n ∧ ∀ (j : Nat) (c : Body), j < k → xs[j]? = some c → c.key ≠ key) ∧ Mem w [] [] w') (fun k => n - k) 0 (bM rfl eP) (⟨⟨by omega, fun j c hj => by omega⟩, M0⟩) ?_))))))))))))
 rintro k ρ1 w1 ⟨⟨hk, hne⟩, hM1⟩
 refine aD (aD (aA (aZ rfl rfl (dN rfl rfl (wq (cT Tryz.underlying29 rfl) rfl (dB rfl rfl rfl rfl (aB (aC ?_))))))))
 refine aX rfl (fun h9 => ?_) (fun h9 => ?_)
 ·obtain ⟨xb, hxb⟩ := cM (k := k) hlen (by omega)
  refine aK (aC (aD (aT (aD (aA (dN rfl rfl (aZ rfl rfl (wq (bR (k) dF rfl rfl rfl ((R.mem hM1).below_len (aJ aF hxb)) ((R.mem hM1).someK (aJ aF hxb))) rfl (wq (bN 0 dQ (R.mem hM1) (Nat.lt_of_le_of_lt (Nat.zero_le _) ((R.mem hM1).below_len (aJ aF hxb))) rfl) rfl ?_)))))))))
  refine wq (eM (o := 0) (.int _ _) bU (R.mem hM1) (aJ aF hxb) rfl rfl) rfl (aZ rfl rfl (dB rfl rfl rfl rfl (aB (aC ?_))))
  refine aX rfl (fun h18 => ?_) (fun h18 => ?_)
  ·refine aD (aA (aZ rfl rfl (bI rfl rfl (aB (aC (aL (kB (cD ?_))))))))
   refine uR (kB (cD (cA (.int _ _) rfl ?_)))
   exact ⟨iE (tY hxb h18 hne).symm, hM1.below⟩
  ·refine aK (dD (aC (aA (aZ rfl rfl (wq (bP rfl rfl (by omega) (by omega)) rfl (bI rfl rfl ?_))))))
   refine aB ?_
   refine cO (k + 1) (bM rfl eP) (cU rfl (cU rfl jT)) ?_ ?_
   ·exact ⟨⟨by omega, tN hne hxb h18⟩, hM1⟩
   ·omega
 ·refine cR (dC (dA (eZ (aC (aD (aA (bI rfl rfl ?_)))))))
  refine aB (aC (aL (cA (.int _ _) rfl ?_)))
  have hkn : k = n := by omega
  exact ⟨iE (aCz (fun j b hj => hne j b (by have := (List.getElem?_eq_some_iff.1 hj).1; omega) hj)).symm, hM1.below⟩
set_option maxHeartbeats 4000000 in
theorem aKj (w : World) (A : Option Addr) (n c : Nat) (xs : List Body) (R : Rd w 10 A n (xs.map aF)) (B : Option Addr) (m c' : Nat) (ys : List Body) (R' : Rd w 10 B m (ys.map aF)) :
  Calls Tryz.prog 37 #[.slice A n c, .slice B m c'] w (fun ex w' => ∃ v, ex = .returned v ∧ (fun v w' => v = .bool (decide (xs = ys)) ∧ Below w.heap.size w w') v w') := by
 have hlen : xs.length = n := by simpa using R.len
 have hbd := R.bound
 have hlen' : ys.length = m := by simpa using R'.len
 have hbd' := R'.bound
 refine aH #[.tmp 4] 26 Tryz.func37 rfl Tryz.results37 Tryz.ntmps37 rfl ?_
 have M0 := Mem.refl w
 refine aD (aA (wq (aI (.bool false) rfl) rfl (aB (aC (aD (aD (aA (dN rfl rfl (wq (cT Tryz.underlying29 rfl) rfl (dN rfl rfl ?_))))))))))
 refine wq (cT Tryz.underlying29 rfl) rfl (dB rfl rfl rfl rfl (aB (aC ?_)))
 refine aX rfl (fun h10 => ?_) (fun h10 => ?_)
 ·refine aD (aA (wq (aI (.bool false) rfl) rfl (aB (aC (aL (cD (cA (.bool false) rfl ?_)))))))
  exact ⟨bF (fun e => h10 (by rw [← hlen, ← hlen', e])), M0.below⟩
 ·have hnm : n = m := by omega
  refine aK (aC (aD (aD (aA (bI rfl rfl (aB (aC (aT (dI (σ := Nat) [0, 1] (fun k => [(5, .int .i64 (k : Int))]) (fun k w' => (k ≤ n ∧ ∀ (j : Nat) (x : Body), j < k → xs[j]? = some x → ys[j]? = some x) ∧ Mem w [] [] w') (fun k => n - k) 0 (bM rfl eP) (⟨⟨by omega, fun j c hj => by omega⟩, M0⟩) ?_)))))))))
  rintro k ρ1 w1 ⟨⟨hk, hne⟩, hM1⟩
  refine aD (aD (aA (aZ rfl rfl (dN rfl rfl (wq (cT Tryz.underlying29 rfl) rfl (dB rfl rfl rfl rfl (aB (aC ?_))))))))
  refine aX rfl (fun h14 => ?_) (fun h14 => ?_)
  ·obtain ⟨xb, hxb⟩ := cM (k := k) hlen (by omega)
   obtain ⟨yb, hyb⟩ := cM (k := k) hlen' (by omega)
   refine aK (aC (aD (aT (aD (bO [(0, 0), (1, 0), (2, 1), (3, 1), (4, 0), (5, 0), (6, 1), (7, 1), (8, 0)] mixed rfl (by kernel_rfl) (fun w2 hb2 hh2 => ?_))))))
   have M2 := hM1.drew hb2 hh2
   refine sQ rfl rfl rfl (gV rfl rfl rfl (bW rfl rfl rfl (bR (k) dF rfl rfl rfl ((R.mem M2).below_len (aJ aF hxb)) ((R.mem M2).someK (aJ aF hxb))) (bW rfl rfl rfl (dJ _ bJ (R.mem M2) (aJ aF hxb) rfl) (sQ rfl rfl rfl (gV rfl rfl rfl ?_)))))
   refine bW rfl rfl rfl (bR (k) dF rfl rfl rfl ((R'.mem M2).below_len (aJ aF hyb)) ((R'.mem M2).someK (aJ aF hyb))) (bW rfl rfl rfl (dJ _ bJ (R'.mem M2) (aJ aF hyb) rfl) (aY rfl rfl rfl (fun _ => aTo (aMl xb yb) rfl rfl) (cB (aC ?_))))
   refine aX rfl (fun h25 => ?_) (fun h25 => ?_)
   ·refine aD (aA (wq (aI (.bool false) rfl) rfl (aB (aC (aL (kB (cD (uR ?_))))))))
    refine kB (cD (cA (.bool false) rfl ?_))
    exact ⟨bF (fun e => h25 (by rw [e] at hxb; rw [hxb] at hyb; injection hyb)), M2.below⟩
   ·refine aK (dD (aC (aA (aZ rfl rfl (wq (bP rfl rfl (by omega) (by omega)) rfl (bI rfl rfl ?_))))))
    refine aB ?_
    refine cO (k + 1) (bM rfl eP) (cU rfl (cU rfl jT)) ?_ ?_
    ·exact ⟨⟨by omega, tN (p := fun j x => ys[j]? = some x) hne hxb (by rw [hyb, Decidable.not_not.1 h25])⟩, M2⟩
    ·omega
  ·refine cR (dC (dA (eZ (aC (aD (aA (wq (aI (.bool true) rfl) rfl ?_)))))))
   refine aB (aC (aL (cA (.bool true) rfl ?_)))
   exact ⟨bT (List.ext_getElem? fun j => by
   by_cases hj : j < xs.length
   ·obtain ⟨x, hx⟩ := cM (k := j) rfl hj
    rw [hx, hne j x (by omega) hx]
   ·rw [List.getElem?_eq_none (by omega), List.getElem?_eq_none (by omega)]), hM1.below⟩
set_option maxHeartbeats 4000000 in
theorem aPa (w : World) (b : Body) (gone : Bool) (A : Option Addr) (n c : Nat) (xs : List Body) (R : Rd w 10 A n (xs.map aF)) (hn : n ≤ 1048576) :
  Calls Tryz.prog 126 #[.slice A n c, (.agg (aF b).toArray), .bool gone] w (fun ex w' => ∃ v, ex = .returned v ∧ (fun v w' => ∃ A' n' c' e, v = .slice A' n' c' ∧ aU 39 10 A' n' c' ((uB xs b gone).map aF) e ∧ Mem w [] [e] w') v w') := by
 have hlen : xs.length = n := by simpa using R.len
 have hbd := R.bound
 refine aH #[.tmp 6] 55 Tryz.func126 rfl Tryz.results126 Tryz.ntmps126 rfl ?_
 have M0 := Mem.refl w
 refine aD (aA (bG (.agg (List.toArray _)) M0 rfl rfl rfl (fun b1 w1 M1 => (eG rfl rfl (aB (aC (aD (aA (eG rfl rfl ?_)))))))))
 have M2 := M1.dummy default
 refine aB (aC (aD (aA (wq (aG (.bool _) rfl) rfl (wq (aI (.bool _) rfl) rfl (aB (aC (aD (aD (aA (bI rfl rfl (aB (aC (aT ?_))))))))))))))
 refine dI (σ := Nat × List Body × Bool × Row) [0, 4, 6] (fun (k, acc, done, r) => [(7, .slice r.A r.n r.c), (8, .bool done), (9, .int .i64 (k : Int))]) (fun (k, acc, done, r) w' => (k ≤ n ∧ gP b gone (xs.take k) = (acc, done) ∧ aU 39 10 r.A r.n r.c (acc.map aF) r.e) ∧ Mem w [] [(some b1, bc (aF b) 39), r.e] w') (fun (k, acc, done, r) => n - k) (0, [], gone, ⟨none, 0, 0, (none, default)⟩) (bM rfl (bM rfl (bM rfl eP))) (⟨⟨by omega, rfl, aU.nil _ _ _⟩, M2⟩) ?_
 rintro ⟨k, acc, done, r⟩ ρ3 w3 ⟨⟨hk, heq, hr⟩, hM3⟩
 have hra : acc.length = r.n := by simpa using hr.1
 have hrl : acc.length ≤ k + 1 := by have h := aLl b gone xs k; rw [heq] at h; exact h
 refine aD (aD (aA (aZ rfl rfl (dN rfl rfl (wq (cT Tryz.underlying29 rfl) rfl (dB rfl rfl rfl rfl (aB (aC ?_))))))))
 refine aX rfl (fun h14 => ?_) (fun h14 => ?_)
 ·obtain ⟨xb, hxb⟩ := cM (k := k) hlen (by omega)
  refine aK (aC (aD (aT (aD (aD (bO [(0, 0), (1, 0), (2, 0), (3, 0), (4, 0), (5, 1), (6, 1), (7, 1), (8, 0), (9, 1), (10, 0), (11, 0)] mixed rfl (by kernel_rfl) (fun w4 hb4 hh4 => ?_)))))))
  have M4 := hM3.drew hb4 hh4
  refine aY rfl rfl rfl (fun _ => aG (.bool _) rfl) (aY rfl rfl rfl (fun _ => fZ _ rfl rfl) (aY rfl rfl rfl (fun _ => aG (.bool _) rfl) ?_))
  refine aZo 19 _ rfl (fun g19 => ?_) (fun g19 => ?_)
  ·have hd : done = false := by simpa using g19
   refine sQ rfl rfl rfl (gV rfl rfl rfl (bW rfl rfl rfl (bR (k) dF rfl rfl rfl ((R.mem M4).below_len (aJ aF hxb)) ((R.mem M4).someK (aJ aF hxb))) (bW rfl rfl rfl (bN 0 dQ (R.mem M4) (Nat.lt_of_le_of_lt (Nat.zero_le _) ((R.mem M4).below_len (aJ aF hxb))) rfl) ?_)))
   refine bW rfl rfl rfl (eM (o := 0) (.int _ _) bU (R.mem M4) (aJ aF hxb) rfl rfl) (aY rfl rfl rfl (fun _ => aE 0 dQ rfl) (bW rfl rfl rfl (aM 0 (.int _ _) bU M4 rfl rfl rfl) (aY rfl rfl rfl (fun _ => dV (.bool (decide _)) rfl rfl rfl) (aY rfl rfl rfl (fun _ => bS true (.bool (decide _)) rfl rfl) ?_))))
   refine cB (aC ?_)
   refine aX rfl (fun h28 => ?_) (fun h28 => ?_)
   ·refine aD (aA (wq (aI (.bool true) rfl) rfl (aB (aC (aA (dN rfl rfl (wq (bC 0 bJ M4 rfl rfl rfl) rfl (cS [.agg (List.toArray _)] _ rfl dF M4 rfl rfl rfl rfl (cY rfl) (by decide) (fun b5 w5 M5 => ?_)))))))))
    refine dL 1 [aF b] dF M5 rfl rfl rfl rfl rfl hr rfl (by simpa using ⟨fK b, fI b⟩) (cZ.ofMem 2 M5 rfl) (by omega) (fun A6 c6 e6 w6 M6 hR6 => (eG rfl rfl (aB (aC (aD (bO [(0, 0), (1, 0), (2, 1), (3, 1), (4, 1), (5, 0), (6, 1), (7, 0)] mixed rfl (by kernel_rfl) (fun w7 hb7 hh7 => ?_)))))))
    have M7 := M6.drew hb7 hh7
    refine sQ rfl rfl rfl (gV rfl rfl rfl (bW rfl rfl rfl (bR (k) dF rfl rfl rfl ((R.mem M7).below_len (aJ aF hxb)) ((R.mem M7).someK (aJ aF hxb))) (bW rfl rfl rfl (bN 0 dQ (R.mem M7) (Nat.lt_of_le_of_lt (Nat.zero_le _) ((R.mem M7).below_len (aJ aF hxb))) rfl) ?_)))
    refine bW rfl rfl rfl (eM (o := 0) (.int _ _) bU (R.mem M7) (aJ aF hxb) rfl rfl) (aY rfl rfl rfl (fun _ => aE 0 dQ rfl) (bW rfl rfl rfl (aM 0 (.int _ _) bU M7 rfl rfl rfl) (aY rfl rfl rfl (fun _ => dV (.bool (decide _)) rfl rfl rfl) (cB (aC ?_)))))
    refine aX rfl (fun h40 => ?_) (fun h40 => ?_)
    ·refine aA (dN rfl rfl (dN rfl rfl (aZ rfl rfl (wq (bR (k) dF rfl rfl rfl ((R.mem M7).below_len (aJ aF hxb)) ((R.mem M7).someK (aJ aF hxb))) rfl (wq (dJ _ bJ (R.mem M7) (aJ aF hxb) rfl) rfl ?_)))))
     refine cS [.agg (List.toArray _)] _ rfl dF M7 rfl rfl rfl rfl (cY rfl) (by decide) (fun b8 w8 M8 => (dL 1 [aF xb] dF M8 rfl rfl rfl rfl rfl hR6 rfl (by simpa using ⟨fK xb, fI xb⟩) (cZ.ofMem 3 M8 rfl) (by omega) (fun A9 c9 e9 w9 M9 hR9 => (eG rfl rfl (aB ?_)))))
     refine dD (aC (aA (aZ rfl rfl (wq (bP rfl rfl (by omega) (by omega)) rfl (bI rfl rfl (aB ?_))))))
     refine cO (k + 1, (gP b gone (xs.take (k + 1))).1, (gP b gone (xs.take (k + 1))).2, ⟨A9, r.n + 1 + 1, c9, e9⟩) (bM rfl (bM (bv rfl (by rw [eJ b gone hxb, heq]; simp [eB, *])) (bM rfl eP))) (cU rfl (cU rfl (cU rfl jT))) ?_ ?_
     ·exact ⟨⟨by omega, rfl, by rw [eJ b gone hxb, heq]; simpa [eB, *] using hR9⟩, M9.keep [true, true, false, false]⟩
     ·(show n - (k + 1) < n - k; omega)
    ·refine aK (dD (aC (aA (aZ rfl rfl (wq (bP rfl rfl (by omega) (by omega)) rfl (bI rfl rfl ?_))))))
     refine aB ?_
     refine cO (k + 1, (gP b gone (xs.take (k + 1))).1, (gP b gone (xs.take (k + 1))).2, ⟨A6, r.n + 1, c6, e6⟩) (bM rfl (bM (bv rfl (by rw [eJ b gone hxb, heq]; simp [eB, *])) (bM rfl eP))) (cU rfl (cU rfl (cU rfl jT))) ?_ ?_
     ·exact ⟨⟨by omega, rfl, by rw [eJ b gone hxb, heq]; simpa [eB, *] using hR6⟩, M7.keep [true, true, false]⟩
     ·(show n - (k + 1) < n - k; omega)
   ·refine aK (aC (aD (bO [(0, 0), (1, 0), (2, 1), (3, 1), (4, 1), (5, 0), (6, 1), (7, 0)] mixed rfl (by kernel_rfl) (fun w10 hb10 hh10 => ?_))))
    have M10 := M4.drew hb10 hh10
    refine sQ rfl rfl rfl (gV rfl rfl rfl (bW rfl rfl rfl (bR (k) dF rfl rfl rfl ((R.mem M10).below_len (aJ aF hxb)) ((R.mem M10).someK (aJ aF hxb))) (bW rfl rfl rfl (bN 0 dQ (R.mem M10) (Nat.lt_of_le_of_lt (Nat.zero_le _) ((R.mem M10).below_len (aJ aF hxb))) rfl) ?_)))
    refine bW rfl rfl rfl (eM (o := 0) (.int _ _) bU (R.mem M10) (aJ aF hxb) rfl rfl) (aY rfl rfl rfl (fun _ => aE 0 dQ rfl) (bW rfl rfl rfl (aM 0 (.int _ _) bU M10 rfl rfl rfl) (aY rfl rfl rfl (fun _ => dV (.bool (decide _)) rfl rfl rfl) (cB (aC ?_)))))
    refine aX rfl (fun h40 => ?_) (fun h40 => ?_)
    ·refine aA (dN rfl rfl (dN rfl rfl (aZ rfl rfl (wq (bR (k) dF rfl rfl rfl ((R.mem M10).below_len (aJ aF hxb)) ((R.mem M10).someK (aJ aF hxb))) rfl (wq (dJ _ bJ (R.mem M10) (aJ aF hxb) rfl) rfl ?_)))))
     refine cS [.agg (List.toArray _)] _ rfl dF M10 rfl rfl rfl rfl (cY rfl) (by decide) (fun b11 w11 M11 => (dL 1 [aF xb] dF M11 rfl rfl rfl rfl rfl hr rfl (by simpa using ⟨fK xb, fI xb⟩) (cZ.ofMem 2 M11 rfl) (by omega) (fun A12 c12 e12 w12 M12 hR12 => (eG rfl rfl ?_))))
     refine aB (dD (aC (aA (aZ rfl rfl (wq (bP rfl rfl (by omega) (by omega)) rfl (bI rfl rfl ?_))))))
     refine aB ?_
     refine cO (k + 1, (gP b gone (xs.take (k + 1))).1, (gP b gone (xs.take (k + 1))).2, ⟨A12, r.n + 1, c12, e12⟩) (bM rfl (bM (bv rfl (by rw [eJ b gone hxb, heq]; simp [eB, *])) (bM rfl eP))) (cU rfl (cU rfl (cU rfl jT))) ?_ ?_
     ·exact ⟨⟨by omega, rfl, by rw [eJ b gone hxb, heq]; simpa [eB, *] using hR12⟩, M12.keep [true, true, false]⟩
     ·(show n - (k + 1) < n - k; omega)
    ·refine aK (dD (aC (aA (aZ rfl rfl (wq (bP rfl rfl (by omega) (by omega)) rfl (bI rfl rfl ?_))))))
     refine aB ?_
     refine cO (k + 1, (gP b gone (xs.take (k + 1))).1, (gP b gone (xs.take (k + 1))).2, r) (bM rfl (bM (bv rfl (by rw [eJ b gone hxb, heq]; simp [eB, *])) (bM rfl eP))) (cU rfl (cU rfl (cU rfl jT))) ?_ ?_
     ·exact ⟨⟨by omega, rfl, by rw [eJ b gone hxb, heq]; simpa [eB, *] using hr⟩, M10.keep [true, true]⟩
     ·(show n - (k + 1) < n - k; omega)
  ·have hd : done = true := by simpa using g19
   refine D_s rfl rfl rfl (D_s rfl rfl rfl (bBc rfl rfl rfl (bBc rfl rfl rfl (bBc rfl rfl rfl (D_s rfl rfl rfl ?_)))))
   refine bBc rfl rfl rfl (D_s rfl rfl rfl (aY rfl rfl rfl (fun _ => bS false (.bool false) rfl rfl) (cB (aC (cC rfl ?_)))))
   refine aK (aC (aD (bO [(0, 0), (1, 0), (2, 1), (3, 1), (4, 1), (5, 0), (6, 1), (7, 0)] mixed rfl (by kernel_rfl) (fun w13 hb13 hh13 => ?_))))
   have M13 := M4.drew hb13 hh13
   refine sQ rfl rfl rfl (gV rfl rfl rfl (bW rfl rfl rfl (bR (k) dF rfl rfl rfl ((R.mem M13).below_len (aJ aF hxb)) ((R.mem M13).someK (aJ aF hxb))) (bW rfl rfl rfl (bN 0 dQ (R.mem M13) (Nat.lt_of_le_of_lt (Nat.zero_le _) ((R.mem M13).below_len (aJ aF hxb))) rfl) ?_)))
   refine bW rfl rfl rfl (eM (o := 0) (.int _ _) bU (R.mem M13) (aJ aF hxb) rfl rfl) (aY rfl rfl rfl (fun _ => aE 0 dQ rfl) (bW rfl rfl rfl (aM 0 (.int _ _) bU M13 rfl rfl rfl) (aY rfl rfl rfl (fun _ => dV (.bool (decide _)) rfl rfl rfl) (cB (aC ?_)))))
   refine aX rfl (fun h40 => ?_) (fun h40 => ?_)
   ·refine aA (dN rfl rfl (dN rfl rfl (aZ rfl rfl (wq (bR (k) dF rfl rfl rfl ((R.mem M13).below_len (aJ aF hxb)) ((R.mem M13).someK (aJ aF hxb))) rfl (wq (dJ _ bJ (R.mem M13) (aJ aF hxb) rfl) rfl ?_)))))
    refine cS [.agg (List.toArray _)] _ rfl dF M13 rfl rfl rfl rfl (cY rfl) (by decide) (fun b14 w14 M14 => (dL 1 [aF xb] dF M14 rfl rfl rfl rfl rfl hr rfl (by simpa using ⟨fK xb, fI xb⟩) (cZ.ofMem 2 M14 rfl) (by omega) (fun A15 c15 e15 w15 M15 hR15 => (eG rfl rfl ?_))))
    refine aB (dD (aC (aA (aZ rfl rfl (wq (bP rfl rfl (by omega) (by omega)) rfl (bI rfl rfl ?_))))))
    refine aB ?_
    refine cO (k + 1, (gP b gone (xs.take (k + 1))).1, (gP b gone (xs.take (k + 1))).2, ⟨A15, r.n + 1, c15, e15⟩) (bM rfl (bM (bv rfl (by rw [eJ b gone hxb, heq]; simp [eB, *])) (bM rfl eP))) (cU rfl (cU rfl (cU rfl jT))) ?_ ?_
    ·exact ⟨⟨by omega, rfl, by rw [eJ b gone hxb, heq]; simpa [eB, *] using hR15⟩, M15.keep [true, true, false]⟩
    ·(show n - (k + 1) < n - k; omega)
   ·refine aK (dD (aC (aA (aZ rfl rfl (wq (bP rfl rfl (by omega) (by omega)) rfl (bI rfl rfl ?_))))))
    refine aB ?_
    refine cO (k + 1, (gP b gone (xs.take (k + 1))).1, (gP b gone (xs.take (k + 1))).2, r) (bM rfl (bM (bv rfl (by rw [eJ b gone hxb, heq]; simp [eB, *])) (bM rfl eP))) (cU rfl (cU rfl (cU rfl jT))) ?_ ?_
    ·exact ⟨⟨by omega, rfl, by rw [eJ b gone hxb, heq]; simpa [eB, *] using hr⟩, M13.keep [true, true]⟩
    ·(show n - (k + 1) < n - k; omega)
 ·have hkn : k = n := by omega
  subst hkn
  rw [List.take_of_length_le (by omega)] at heq
  refine cR (dC (dA (eZ (aC (aD (aD (aA (wq (aG (.bool _) rfl) rfl ?_))))))))
  refine wq (fZ _ rfl rfl) rfl (aB (aC ?_))
  refine iI _ rfl (fun h49 => ?_) (fun h49 => ?_)
  ·have hd : done = false := by simpa using h49
   refine aA (dN rfl rfl (wq (bC 0 bJ hM3 rfl rfl rfl) rfl (cS [.agg (List.toArray _)] _ rfl dF hM3 rfl rfl rfl rfl (cY rfl) (by decide) (fun b16 w16 M16 => (dL 1 [aF b] dF M16 rfl rfl rfl rfl rfl hr rfl (by simpa using ⟨fK b, fI b⟩) (cZ.ofMem 2 M16 rfl) (by omega) (fun A17 c17 e17 w17 M17 hR17 => ?_))))))
   refine eG rfl rfl (aB (aC (aD (aA (dN rfl rfl (eG rfl rfl (aB (aC (aL (cA (.slice _ _ _) rfl ?_))))))))))
   exact ⟨_, _, _, _, rfl, by unfold uB; rw [heq]; simpa [*] using hR17, M17.keep [false, true, false]⟩
  ·have hd : done = true := by simpa using h49
   refine aK (aC (aD (aA (dN rfl rfl (eG rfl rfl (aB (aC (aL (cA (.slice _ _ _) rfl ?_)))))))))
   exact ⟨_, _, _, _, rfl, by unfold uB; rw [heq]; simpa [*] using hr, hM3.keep [false, true]⟩
set_option maxHeartbeats 4000000 in
theorem qL (w : World) (x y l : Int) (h0 : 0 ≤ l) (h1 : l ≤ 2147483647) :
  Calls Tryz.prog 139 #[.agg [.int .i32 x, .int .i32 y].toArray, .int .i32 l] w (fun ex w' => ∃ v, ex = .returned v ∧ (fun v w' => v = .bool (decide (-l ≤ x ∧ x ≤ l ∧ -l ≤ y ∧ y ≤ l)) ∧ Below w.heap.size w w') v w') := by
 have hneg : IntKind.i32.wrap (-l) = -l := mP _ (by omega) (by omega)
 refine aH #[.tmp 4] 29 Tryz.func139 rfl Tryz.results139 Tryz.ntmps139 rfl ?_
 have M0 := Mem.refl w
 refine aD (aA (bG (.agg (List.toArray _)) M0 rfl rfl rfl (fun b1 w1 M1 => (wq (aI (.bool false) rfl) rfl (aB (aC (aD (aA (aZ rfl rfl (wq (yT rfl) rfl ?_))))))))))
 refine aV 6 (.int .i32 (-l)) (iE hneg) (wq (aE 0 dS rfl) rfl (wq (aM 0 (.int _ _) aW M1 rfl rfl rfl) rfl (dB rfl rfl rfl rfl (wq (aG (.bool (decide _)) rfl) rfl ?_))))
 refine dE 10 rfl (fun g10 => ?_) (fun g10 => ?_)
 ·refine wq (aE 0 dS rfl) rfl (wq (aM 0 (.int _ _) aW M1 rfl rfl rfl) rfl (aZ rfl rfl (dB rfl rfl rfl rfl (wq (bS true (.bool (decide _)) rfl rfl) rfl (wq (aG (.bool (decide _)) rfl) rfl ?_)))))
  refine dE 16 rfl (fun g16 => ?_) (fun g16 => ?_)
  ·refine aZ rfl rfl (wq (yT rfl) rfl (aV 18 (.int .i32 (-l)) (iE hneg) (wq (aE 1 dG rfl) rfl (wq (aM 0 (.int _ _) aW M1 rfl rfl rfl) rfl (dB rfl rfl rfl rfl ?_)))))
   refine wq (bS true (.bool (decide _)) rfl rfl) rfl (wq (aG (.bool (decide _)) rfl) rfl ?_)
   refine dE 23 rfl (fun g23 => ?_) (fun g23 => ?_)
   ·refine wq (aE 1 dG rfl) rfl (wq (aM 0 (.int _ _) aW M1 rfl rfl rfl) rfl (aZ rfl rfl (dB rfl rfl rfl rfl (wq (bS true (.bool (decide _)) rfl rfl) rfl (wq (aI (.bool (decide _)) rfl) rfl ?_)))))
    refine aB (aC (aL (cA (.bool (decide _)) rfl ?_)))
    exact ⟨by first | exact bF (by omega) | exact bT (by omega) | exact bD (by omega), M1.below⟩
   ·refine aR rfl rfl (aR rfl rfl (aR rfl rfl (aR rfl rfl (wq (bS false (.bool false) rfl rfl) rfl (wq (aI (.bool false) rfl) rfl ?_)))))
    refine aB (aC (aL (cA (.bool false) rfl ?_)))
    exact ⟨by first | exact bF (by omega) | exact bT (by omega) | exact bD (by omega), M1.below⟩
  ·refine aR rfl rfl (aR rfl rfl (aR rfl rfl (aR rfl rfl (aR rfl rfl (wq (bS false (.bool false) rfl rfl) rfl ?_)))))
   refine wq (aG (.bool false) rfl) rfl (aR rfl rfl (aR rfl rfl (aR rfl rfl (aR rfl rfl (wq (bS false (.bool false) rfl rfl) rfl ?_)))))
   refine wq (aI (.bool false) rfl) rfl (aB (aC (aL (cA (.bool false) rfl ?_))))
   exact ⟨by first | exact bF (by omega) | exact bT (by omega) | exact bD (by omega), M1.below⟩
 ·refine aR rfl rfl (aR rfl rfl (aR rfl rfl (aR rfl rfl (wq (bS false (.bool false) rfl rfl) rfl (wq (aG (.bool false) rfl) rfl ?_)))))
  refine aR rfl rfl (aR rfl rfl (aR rfl rfl (aR rfl rfl (aR rfl rfl (wq (bS false (.bool false) rfl rfl) rfl ?_)))))
  refine wq (aG (.bool false) rfl) rfl (aR rfl rfl (aR rfl rfl (aR rfl rfl (aR rfl rfl (wq (bS false (.bool false) rfl rfl) rfl ?_)))))
  refine wq (aI (.bool false) rfl) rfl (aB (aC (aL (cA (.bool false) rfl ?_))))
  exact ⟨by first | exact bF (by omega) | exact bT (by omega) | exact bD (by omega), M1.below⟩
set_option maxHeartbeats 4000000 in
theorem aJf (w : World) (b : Body) (p : Nat) (R : Rd w 10 (some ⟨p, 0, none⟩) 1 [aF b]) :
  Calls Tryz.prog 137 #[.pointer (some ⟨p, 0, none⟩)] w (fun ex w' => ∃ v, ex = .returned v ∧ (fun v w' => v = .bool (decide (4096 ≤ b.radius ∧ b.radius ≤ 4194304)) ∧ Below w.heap.size w w') v w') := by
 rw [← eX p]
 refine aH #[.tmp 1] 10 Tryz.func137 rfl Tryz.results137 Tryz.ntmps137 rfl ?_
 have M0 := Mem.refl w
 refine aD (aA (wq (aI (.bool false) rfl) rfl (aB (aC (aD (aA (wq (bN 1 lS R (Nat.lt_of_le_of_lt (Nat.zero_le _) (R.below_len (show [aF b][0]? = some (aF b) from rfl))) rfl) rfl (wq (eM (o := 1) (.int _ _) aW R (show [aF b][0]? = some (aF b) from rfl) rfl rfl) rfl ?_))))))))
 refine dB rfl rfl rfl rfl (wq (aG (.bool (decide _)) rfl) rfl ?_)
 refine dE 5 rfl (fun g5 => ?_) (fun g5 => ?_)
 ·refine wq (bN 1 lS R (Nat.lt_of_le_of_lt (Nat.zero_le _) (R.below_len (show [aF b][0]? = some (aF b) from rfl))) rfl) rfl (wq (eM (o := 1) (.int _ _) aW R (show [aF b][0]? = some (aF b) from rfl) rfl rfl) rfl (dB rfl rfl rfl rfl (wq (bS true (.bool (decide _)) rfl rfl) rfl ?_)))
  refine wq (aI (.bool (decide _)) rfl) rfl (aB (aC (aL (cA (.bool (decide _)) rfl ?_))))
  exact ⟨by first | exact bF (by omega) | exact bT (by omega) | exact bD (by omega), M0.below⟩
 ·refine aR rfl rfl (aR rfl rfl (aR rfl rfl (wq (bS false (.bool false) rfl rfl) rfl (wq (aI (.bool false) rfl) rfl (aB (aC (aL ?_)))))))
  refine cA (.bool false) rfl ?_
  exact ⟨by first | exact bF (by omega) | exact bT (by omega) | exact bD (by omega), M0.below⟩
set_option maxHeartbeats 4000000 in
theorem aGi (w : World) (b : Body) (p : Nat) (R : Rd w 10 (some ⟨p, 0, none⟩) 1 [aF b]) :
  Calls Tryz.prog 138 #[.pointer (some ⟨p, 0, none⟩)] w (fun ex w' => ∃ v, ex = .returned v ∧ (fun v w' => v = .bool (decide (-4194304 ≤ b.ax ∧ b.ax ≤ 4194304 ∧ -4194304 ≤ b.ay ∧ b.ay ≤ 4194304)) ∧ Below w.heap.size w w') v w') := by
 rw [← eX p]
 refine aH #[.tmp 1] 5 Tryz.func138 rfl Tryz.results138 Tryz.ntmps138 rfl ?_
 have M0 := Mem.refl w
 refine aD (aA (wq (aI (.bool false) rfl) rfl (aB (aC (aD (aA (wq (bN 2 jZ R (Nat.lt_of_le_of_lt (Nat.zero_le _) (R.below_len (show [aF b][0]? = some (aF b) from rfl))) rfl) rfl (wq (oZ (o := 2) _ bK R (show [aF b][0]? = some (aF b) from rfl) rfl rfl rfl) rfl ?_))))))))
 refine bZ aKd rfl rfl (qL _ _ _ _ (by omega) (by omega)) ?_
 rintro v1 w1 ⟨rfl, hb1⟩
 have M1 := M0.callB hb1
 refine wq (aI (.bool (decide _)) rfl) rfl (aB (aC (aL (cA (.bool (decide _)) rfl ?_))))
 exact ⟨by first | exact bF (by omega) | exact bT (by omega) | exact bD (by omega), M1.below⟩
set_option maxHeartbeats 4000000 in
theorem aGz (w : World) (b : Body) (p : Nat) (R : Rd w 10 (some ⟨p, 0, none⟩) 1 [aF b]) :
  Calls Tryz.prog 140 #[.pointer (some ⟨p, 0, none⟩)] w (fun ex w' => ∃ v, ex = .returned v ∧ (fun v w' => v = .bool (decide (0 ≤ b.mass ∧ b.mass ≤ 1048576)) ∧ Below w.heap.size w w') v w') := by
 rw [← eX p]
 refine aH #[.tmp 1] 10 Tryz.func140 rfl Tryz.results140 Tryz.ntmps140 rfl ?_
 have M0 := Mem.refl w
 refine aD (aA (wq (aI (.bool false) rfl) rfl (aB (aC (aD (aA (wq (bN 4 eQ R (Nat.lt_of_le_of_lt (Nat.zero_le _) (R.below_len (show [aF b][0]? = some (aF b) from rfl))) rfl) rfl (wq (eM (o := 4) (.int _ _) aW R (show [aF b][0]? = some (aF b) from rfl) rfl rfl) rfl ?_))))))))
 refine dB rfl rfl rfl rfl (wq (aG (.bool (decide _)) rfl) rfl ?_)
 refine dE 5 rfl (fun g5 => ?_) (fun g5 => ?_)
 ·refine wq (bN 4 eQ R (Nat.lt_of_le_of_lt (Nat.zero_le _) (R.below_len (show [aF b][0]? = some (aF b) from rfl))) rfl) rfl (wq (eM (o := 4) (.int _ _) aW R (show [aF b][0]? = some (aF b) from rfl) rfl rfl) rfl (dB rfl rfl rfl rfl (wq (bS true (.bool (decide _)) rfl rfl) rfl ?_)))
  refine wq (aI (.bool (decide _)) rfl) rfl (aB (aC (aL (cA (.bool (decide _)) rfl ?_))))
  exact ⟨by first | exact bF (by omega) | exact bT (by omega) | exact bD (by omega), M0.below⟩
 ·refine aR rfl rfl (aR rfl rfl (aR rfl rfl (wq (bS false (.bool false) rfl rfl) rfl (wq (aI (.bool false) rfl) rfl (aB (aC (aL ?_)))))))
  refine cA (.bool false) rfl ?_
  exact ⟨by first | exact bF (by omega) | exact bT (by omega) | exact bD (by omega), M0.below⟩
set_option maxHeartbeats 4000000 in
theorem aHl (w : World) (b : Body) (p : Nat) (R : Rd w 10 (some ⟨p, 0, none⟩) 1 [aF b]) :
  Calls Tryz.prog 141 #[.pointer (some ⟨p, 0, none⟩)] w (fun ex w' => ∃ v, ex = .returned v ∧ (fun v w' => v = .bool (decide (0 ≤ b.bounce ∧ b.bounce ≤ 65536)) ∧ Below w.heap.size w w') v w') := by
 rw [← eX p]
 refine aH #[.tmp 1] 10 Tryz.func141 rfl Tryz.results141 Tryz.ntmps141 rfl ?_
 have M0 := Mem.refl w
 refine aD (aA (wq (aI (.bool false) rfl) rfl (aB (aC (aD (aA (wq (bN 5 oT R (Nat.lt_of_le_of_lt (Nat.zero_le _) (R.below_len (show [aF b][0]? = some (aF b) from rfl))) rfl) rfl (wq (eM (o := 5) (.int _ _) aW R (show [aF b][0]? = some (aF b) from rfl) rfl rfl) rfl ?_))))))))
 refine dB rfl rfl rfl rfl (wq (aG (.bool (decide _)) rfl) rfl ?_)
 refine dE 5 rfl (fun g5 => ?_) (fun g5 => ?_)
 ·refine wq (bN 5 oT R (Nat.lt_of_le_of_lt (Nat.zero_le _) (R.below_len (show [aF b][0]? = some (aF b) from rfl))) rfl) rfl (wq (eM (o := 5) (.int _ _) aW R (show [aF b][0]? = some (aF b) from rfl) rfl rfl) rfl (dB rfl rfl rfl rfl (wq (bS true (.bool (decide _)) rfl rfl) rfl ?_)))
  refine wq (aI (.bool (decide _)) rfl) rfl (aB (aC (aL (cA (.bool (decide _)) rfl ?_))))
  exact ⟨by first | exact bF (by omega) | exact bT (by omega) | exact bD (by omega), M0.below⟩
 ·refine aR rfl rfl (aR rfl rfl (aR rfl rfl (wq (bS false (.bool false) rfl rfl) rfl (wq (aI (.bool false) rfl) rfl (aB (aC (aL ?_)))))))
  refine cA (.bool false) rfl ?_
  exact ⟨by first | exact bF (by omega) | exact bT (by omega) | exact bD (by omega), M0.below⟩
set_option maxHeartbeats 4000000 in
theorem aIc (w : World) (b : Body) (p : Nat) (R : Rd w 10 (some ⟨p, 0, none⟩) 1 [aF b]) :
  Calls Tryz.prog 142 #[.pointer (some ⟨p, 0, none⟩)] w (fun ex w' => ∃ v, ex = .returned v ∧ (fun v w' => v = .bool (decide (-1073741824 ≤ b.px ∧ b.px ≤ 1073741824 ∧ -1073741824 ≤ b.py ∧ b.py ≤ 1073741824)) ∧ Below w.heap.size w w') v w') := by
 rw [← eX p]
 refine aH #[.tmp 1] 5 Tryz.func142 rfl Tryz.results142 Tryz.ntmps142 rfl ?_
 have M0 := Mem.refl w
 refine aD (aA (wq (aI (.bool false) rfl) rfl (aB (aC (aD (aA (wq (bN 6 fR R (Nat.lt_of_le_of_lt (Nat.zero_le _) (R.below_len (show [aF b][0]? = some (aF b) from rfl))) rfl) rfl (wq (oZ (o := 6) _ bK R (show [aF b][0]? = some (aF b) from rfl) rfl rfl rfl) rfl ?_))))))))
 refine bZ aKd rfl rfl (qL _ _ _ _ (by omega) (by omega)) ?_
 rintro v1 w1 ⟨rfl, hb1⟩
 have M1 := M0.callB hb1
 refine wq (aI (.bool (decide _)) rfl) rfl (aB (aC (aL (cA (.bool (decide _)) rfl ?_))))
 exact ⟨by first | exact bF (by omega) | exact bT (by omega) | exact bD (by omega), M1.below⟩
set_option maxHeartbeats 4000000 in
theorem aGe (w : World) (b : Body) (p : Nat) (R : Rd w 10 (some ⟨p, 0, none⟩) 1 [aF b]) :
  Calls Tryz.prog 143 #[.pointer (some ⟨p, 0, none⟩)] w (fun ex w' => ∃ v, ex = .returned v ∧ (fun v w' => v = .bool (decide (-16777216 ≤ b.vx ∧ b.vx ≤ 16777216 ∧ -16777216 ≤ b.vy ∧ b.vy ≤ 16777216)) ∧ Below w.heap.size w w') v w') := by
 rw [← eX p]
 refine aH #[.tmp 1] 5 Tryz.func143 rfl Tryz.results143 Tryz.ntmps143 rfl ?_
 have M0 := Mem.refl w
 refine aD (aA (wq (aI (.bool false) rfl) rfl (aB (aC (aD (aA (wq (bN 8 eK R (Nat.lt_of_le_of_lt (Nat.zero_le _) (R.below_len (show [aF b][0]? = some (aF b) from rfl))) rfl) rfl (wq (oZ (o := 8) _ bK R (show [aF b][0]? = some (aF b) from rfl) rfl rfl rfl) rfl ?_))))))))
 refine bZ aKd rfl rfl (qL _ _ _ _ (by omega) (by omega)) ?_
 rintro v1 w1 ⟨rfl, hb1⟩
 have M1 := M0.callB hb1
 refine wq (aI (.bool (decide _)) rfl) rfl (aB (aC (aL (cA (.bool (decide _)) rfl ?_))))
 exact ⟨by first | exact bF (by omega) | exact bT (by omega) | exact bD (by omega), M1.below⟩
set_option maxHeartbeats 4000000 in
theorem sL (w : World) (b : Body) :
  Calls Tryz.prog 102 #[(.agg (aF b).toArray)] w (fun ex w' => ∃ v, ex = .returned v ∧ (fun v w' => v = .int .i64 (check b) ∧ Below w.heap.size w w') v w') := by
 refine aH #[.tmp 2] 28 Tryz.func102 rfl Tryz.results102 Tryz.ntmps102 rfl ?_
 have M0 := Mem.refl w
 refine aD (aA (bG (.agg (List.toArray _)) M0 rfl rfl rfl (fun b1 w1 M1 => (bI rfl rfl (aB (aC (aD (aD (aA (wq (cN [] [.pointer _] rfl rfl) rfl (wq (cH [(0, .func _ _ _), (1, .int _ _)] _ lX rfl rfl) rfl ?_)))))))))))
 refine wq (cN [] [.pointer _] rfl rfl) rfl (wq (cH [(0, .func _ _ _), (1, .int _ _)] _ lX rfl rfl) rfl (wq (cN [] [.pointer _] rfl rfl) rfl (wq (cH [(0, .func _ _ _), (1, .int _ _)] _ lX rfl rfl) rfl (wq (cN [] [.pointer _] rfl rfl) rfl (wq (cH [(0, .func _ _ _), (1, .int _ _)] _ lX rfl rfl) rfl ?_)))))
 refine wq (cN [] [.pointer _] rfl rfl) rfl (wq (cH [(0, .func _ _ _), (1, .int _ _)] _ lX rfl rfl) rfl (wq (cN [] [.pointer _] rfl rfl) rfl (wq (cH [(0, .func _ _ _), (1, .int _ _)] _ lX rfl rfl) rfl (wq (qK [.agg (List.toArray _), .agg (List.toArray _), .agg (List.toArray _), .agg (List.toArray _), .agg (List.toArray _), .agg (List.toArray _)] rU bBy rfl rfl (cY rfl)) rfl ?_))))
 refine aZ rfl rfl (aB (aC (aT (mH 7 (iB (aD (aA (dB rfl rfl rfl rfl (sV 19 rfl (by first | decide | omega) ?_)))))))))
 refine aB (aC (aD (cQ rfl (aK (aC (aD (aT (aD (aA (wq (nO 0 _ rU lF rfl rfl (by decide) (by decide) rfl rfl) rfl (aP qU M1 rfl rfl (fun b2 w2 M2 => (bA 1 _ lF M2 rfl rfl rfl rfl rfl (aQ rfl) rfl (fun w3 M3 => ?_))))))))))))))
 refine aB (aC (aD (aA (wq (aE 0 oH rfl) rfl (wq (aM 1 (.func _ _ _) aCp M3 rfl rfl rfl) rfl (bZ bFz rfl rfl (aJf _ b _ (mW 0 M3 rfl rfl)) ?_))))))
 rintro v4 w4 ⟨rfl, hb4⟩
 have M4 := M3.callB hb4
 refine wq (lL rfl) rfl (aB (aC ?_))
 refine aX rfl (fun h24 => ?_) (fun h24 => ?_)
 ·refine aD (aA (wq (aE 1 oD rfl) rfl (wq (aM 1 (.int _ _) aDf M4 rfl rfl rfl) rfl (bI rfl rfl (aB (aC (aL (kB ?_))))))))
  refine cD (cD (kB (cD (cA (.int _ _) rfl ?_))))
  exact ⟨iE (aOt b (by omega)).symm, M4.below⟩
 ·refine aK (dD (aC (aA (wq (bP rfl rfl (by first | decide | omega) (by first | decide | omega)) rfl (aV 27 (.int .i64 1) (iE (by first | decide | omega)) (aZ rfl rfl ?_))))))
  refine aB (aC (iB (aD (aA (dB rfl rfl rfl rfl (sV 19 rfl (by first | decide | omega) (aB (aC (aD ?_)))))))))
  refine cQ rfl (aK (aC (aD (aT (aD (aA (wq (nO 1 _ rU lF rfl rfl (by decide) (by decide) rfl rfl) rfl (aP qU M4 rfl rfl (fun b5 w5 M5 => (bA 2 _ lF M5 rfl rfl rfl rfl rfl (aQ rfl) rfl (fun w6 M6 => (aB (aC (aD (aA ?_)))))))))))))))
  refine wq (aE 0 oH rfl) rfl (wq (aM 2 (.func _ _ _) aCp M6 rfl rfl rfl) rfl (bZ bEa rfl rfl (aGi _ b _ (mW 0 M6 rfl rfl)) ?_))
  rintro v7 w7 ⟨rfl, hb7⟩
  have M7 := M6.callB hb7
  refine wq (lL rfl) rfl (aB (aC ?_))
  refine aX rfl (fun h24 => ?_) (fun h24 => ?_)
  ·refine aD (aA (wq (aE 1 oD rfl) rfl (wq (aM 2 (.int _ _) aDf M7 rfl rfl rfl) rfl (bI rfl rfl (aB (aC (aL (kB ?_))))))))
   refine cD (cD (kB (cD (cA (.int _ _) rfl ?_))))
   exact ⟨iE (aOd b (by omega) (by omega)).symm, M7.below⟩
  ·refine aK (dD (aC (aA (wq (bP rfl rfl (by first | decide | omega) (by first | decide | omega)) rfl (aV 27 (.int .i64 2) (iE (by first | decide | omega)) (aZ rfl rfl ?_))))))
   refine aB (aC (iB (aD (aA (dB rfl rfl rfl rfl (sV 19 rfl (by first | decide | omega) (aB (aC (aD ?_)))))))))
   refine cQ rfl (aK (aC (aD (aT (aD (aA (wq (nO 2 _ rU lF rfl rfl (by decide) (by decide) rfl rfl) rfl (aP qU M7 rfl rfl (fun b8 w8 M8 => (bA 3 _ lF M8 rfl rfl rfl rfl rfl (aQ rfl) rfl (fun w9 M9 => (aB (aC (aD (aA ?_)))))))))))))))
   refine wq (aE 0 oH rfl) rfl (wq (aM 3 (.func _ _ _) aCp M9 rfl rfl rfl) rfl (bZ bGm rfl rfl (aGz _ b _ (mW 0 M9 rfl rfl)) ?_))
   rintro v10 w10 ⟨rfl, hb10⟩
   have M10 := M9.callB hb10
   refine wq (lL rfl) rfl (aB (aC ?_))
   refine aX rfl (fun h24 => ?_) (fun h24 => ?_)
   ·refine aD (aA (wq (aE 1 oD rfl) rfl (wq (aM 3 (.int _ _) aDf M10 rfl rfl rfl) rfl (bI rfl rfl (aB (aC (aL (kB ?_))))))))
    refine cD (cD (kB (cD (cA (.int _ _) rfl ?_))))
    exact ⟨iE (aNt b (by omega) (by omega) (by omega)).symm, M10.below⟩
   ·refine aK (dD (aC (aA (wq (bP rfl rfl (by first | decide | omega) (by first | decide | omega)) rfl (aV 27 (.int .i64 3) (iE (by first | decide | omega)) (aZ rfl rfl ?_))))))
    refine aB (aC (iB (aD (aA (dB rfl rfl rfl rfl (sV 19 rfl (by first | decide | omega) (aB (aC (aD ?_)))))))))
    refine cQ rfl (aK (aC (aD (aT (aD (aA (wq (nO 3 _ rU lF rfl rfl (by decide) (by decide) rfl rfl) rfl (aP qU M10 rfl rfl (fun b11 w11 M11 => (bA 4 _ lF M11 rfl rfl rfl rfl rfl (aQ rfl) rfl (fun w12 M12 => (aB (aC (aD (aA ?_)))))))))))))))
    refine wq (aE 0 oH rfl) rfl (wq (aM 4 (.func _ _ _) aCp M12 rfl rfl rfl) rfl (bZ bGb rfl rfl (aHl _ b _ (mW 0 M12 rfl rfl)) ?_))
    rintro v13 w13 ⟨rfl, hb13⟩
    have M13 := M12.callB hb13
    refine wq (lL rfl) rfl (aB (aC ?_))
    refine aX rfl (fun h24 => ?_) (fun h24 => ?_)
    ·refine aD (aA (wq (aE 1 oD rfl) rfl (wq (aM 4 (.int _ _) aDf M13 rfl rfl rfl) rfl (bI rfl rfl (aB (aC (aL (kB ?_))))))))
     refine cD (cD (kB (cD (cA (.int _ _) rfl ?_))))
     exact ⟨iE (aNy b (by omega) (by omega) (by omega) (by omega)).symm, M13.below⟩
    ·refine aK (dD (aC (aA (wq (bP rfl rfl (by first | decide | omega) (by first | decide | omega)) rfl (aV 27 (.int .i64 4) (iE (by first | decide | omega)) (aZ rfl rfl ?_))))))
     refine aB (aC (iB (aD (aA (dB rfl rfl rfl rfl (sV 19 rfl (by first | decide | omega) (aB (aC (aD ?_)))))))))
     refine cQ rfl (aK (aC (aD (aT (aD (aA (wq (nO 4 _ rU lF rfl rfl (by decide) (by decide) rfl rfl) rfl (aP qU M13 rfl rfl (fun b14 w14 M14 => (bA 5 _ lF M14 rfl rfl rfl rfl rfl (aQ rfl) rfl (fun w15 M15 => (aB (aC (aD (aA ?_)))))))))))))))
     refine wq (aE 0 oH rfl) rfl (wq (aM 5 (.func _ _ _) aCp M15 rfl rfl rfl) rfl (bZ bGy rfl rfl (aIc _ b _ (mW 0 M15 rfl rfl)) ?_))
     rintro v16 w16 ⟨rfl, hb16⟩
     have M16 := M15.callB hb16
     refine wq (lL rfl) rfl (aB (aC ?_))
     refine aX rfl (fun h24 => ?_) (fun h24 => ?_)
     ·refine aD (aA (wq (aE 1 oD rfl) rfl (wq (aM 5 (.int _ _) aDf M16 rfl rfl rfl) rfl (bI rfl rfl (aB (aC (aL (kB ?_))))))))
      refine cD (cD (kB (cD (cA (.int _ _) rfl ?_))))
      exact ⟨iE (aOa b (by omega) (by omega) (by omega) (by omega) (by omega)).symm, M16.below⟩
     ·refine aK (dD (aC (aA (wq (bP rfl rfl (by first | decide | omega) (by first | decide | omega)) rfl (aV 27 (.int .i64 5) (iE (by first | decide | omega)) (aZ rfl rfl ?_))))))
      refine aB (aC (iB (aD (aA (dB rfl rfl rfl rfl (sV 19 rfl (by first | decide | omega) (aB (aC (aD ?_)))))))))
      refine cQ rfl (aK (aC (aD (aT (aD (aA (wq (nO 5 _ rU lF rfl rfl (by decide) (by decide) rfl rfl) rfl (aP qU M16 rfl rfl (fun b17 w17 M17 => (bA 6 _ lF M17 rfl rfl rfl rfl rfl (aQ rfl) rfl (fun w18 M18 => (aB (aC (aD (aA ?_)))))))))))))))
      refine wq (aE 0 oH rfl) rfl (wq (aM 6 (.func _ _ _) aCp M18 rfl rfl rfl) rfl (bZ bFr rfl rfl (aGe _ b _ (mW 0 M18 rfl rfl)) ?_))
      rintro v19 w19 ⟨rfl, hb19⟩
      have M19 := M18.callB hb19
      refine wq (lL rfl) rfl (aB (aC ?_))
      refine aX rfl (fun h24 => ?_) (fun h24 => ?_)
      ·refine aD (aA (wq (aE 1 oD rfl) rfl (wq (aM 6 (.int _ _) aDf M19 rfl rfl rfl) rfl (bI rfl rfl (aB (aC (aL (kB ?_))))))))
       refine cD (cD (kB (cD (cA (.int _ _) rfl ?_))))
       exact ⟨iE (aNm b (by omega) (by omega) (by omega) (by omega) (by omega) (by omega)).symm, M19.below⟩
      ·refine aK (dD (aC (aA (wq (bP rfl rfl (by first | decide | omega) (by first | decide | omega)) rfl (aV 27 (.int .i64 6) (iE (by first | decide | omega)) (aZ rfl rfl ?_))))))
       refine aB (aC (iB (aD (aA (dB rfl rfl rfl rfl (uN 19 rfl (by first | decide | omega) (aB (aC (aD ?_)))))))))
       refine cC rfl (cR (dC (dC (eZ (aC (aD (aA (bI rfl rfl ?_))))))))
       refine aB (aC (aL (cA (.int _ _) rfl ?_)))
       exact ⟨iE (bAn b (by omega) (by omega) (by omega) (by omega) (by omega) (by omega)).symm, M19.below⟩
set_option maxHeartbeats 4000000 in
theorem wX (w : World) (x : Int) :
  Calls Tryz.prog 151 #[.int .u32 x] w (fun ex w' => ∃ v, ex = .returned v ∧ (fun v w' => v = .bool false ∧ w' = w) v w') := by
 refine aH #[.tmp 2] 6 Tryz.func151 rfl Tryz.results151 Tryz.ntmps151 rfl ?_
 have M0 := Mem.refl w
 refine aD (aA (wq (aI (.bool false) rfl) rfl (aB (aC (aD (aA (aZ rfl rfl (aZ rfl rfl (dB rfl rfl rfl rfl ?_)))))))))
 refine wq (aI (.bool (decide _)) rfl) rfl (aB (aC (aL (cA (.bool (decide _)) rfl ?_))))
 exact ⟨(bF (by omega)).symm, rfl⟩
set_option maxHeartbeats 4000000 in
theorem kM (w : World) (x y : Int) :
  Calls Tryz.prog 116 #[.int .u32 x, .int .u32 y] w (fun ex w' => ∃ v, ex = .returned v ∧ (fun v w' => v = .int .i64 (mB x y) ∧ w' = w) v w') := by
 refine aH #[.tmp 4] 20 Tryz.func116 rfl Tryz.results116 Tryz.ntmps116 rfl ?_
 have M0 := Mem.refl w
 refine aD (aA (bI rfl rfl (aB (aC (aD (aA (aZ rfl rfl (bZ aYb rfl rfl (wX _ _) ?_))))))))
 rintro v1 w1 ⟨rfl, rfl⟩
 have M1 : Mem _ _ [] _ := M0
 refine wq (aI (.bool false) rfl) rfl (aB (aC (aD (aA (aZ rfl rfl (bZ aYb rfl rfl (wX _ _) ?_))))))
 rintro v2 w2 ⟨rfl, rfl⟩
 have M2 : Mem _ _ [] _ := M1
 refine wq (aI (.bool false) rfl) rfl (aB (aC (aD (aD (aA (wq (aG (.bool false) rfl) rfl (aB (aC (cC rfl (aK (aC (aD (aD (aA ?_))))))))))))))
 refine wq (aG (.bool false) rfl) rfl (aB (aC (cC rfl (aK (aC (aD (aD (aA (aZ rfl rfl (aZ rfl rfl ?_))))))))))
 refine dB rfl rfl rfl rfl (aB (aC ?_))
 refine aX rfl (fun h16 => ?_) (fun h16 => ?_)
 ·refine aD (aA (bI rfl rfl (aB (aC (aL (cD (cA (.int _ _) rfl ?_)))))))
  exact ⟨iE (by unfold mB; (repeat' split) <;> omega), rfl⟩
 ·refine aK (aC (aD (aD (aA (aZ rfl rfl (aZ rfl rfl (dB rfl rfl rfl rfl (aB (aC ?_)))))))))
  refine aX rfl (fun h19 => ?_) (fun h19 => ?_)
  ·refine aD (aA (bI rfl rfl (aB (aC (aL (cD (cA (.int _ _) rfl ?_)))))))
   exact ⟨iE (by unfold mB; (repeat' split) <;> omega), rfl⟩
  ·refine aK (aC (aD (aA (bI rfl rfl (aB (aC (aL (cA (.int _ _) rfl ?_))))))))
   exact ⟨iE (by unfold mB; (repeat' split) <;> omega), rfl⟩
set_option maxHeartbeats 4000000 in
theorem aBl (a b : Body) (w : World) :
  Calls Tryz.prog 115 #[(.agg (aF a).toArray), (.agg (aF b).toArray)] w (fun ex w' => ∃ v, ex = .returned v ∧ (fun v w' => v = .int .i64 (mB a.key b.key) ∧ ∃ q os, w' = Go.Sort.grow (w.drewN q) os) v w') := by
 refine aH #[.tmp 4] 10 Tryz.func115 rfl Tryz.results115 Tryz.ntmps115 rfl ?_
 have M0 := Mem.refl w
 refine aD (aA (xS (.agg (List.toArray _)) M0 rfl rfl rfl (fun M1 => (xS (.agg (List.toArray _)) M1 rfl rfl rfl (fun M2 => (bI rfl rfl (aB (aC (aD (aA (wq (aE 0 dQ rfl) rfl ?_)))))))))))
 refine wq (aM 0 (.int _ _) bU M2 rfl rfl rfl) rfl (wq (aE 0 dQ rfl) rfl (wq (aM 1 (.int _ _) bU M2 rfl rfl rfl) rfl (bZ aFo rfl rfl (kM _ _ _) ?_)))
 rintro v3 w3 ⟨rfl, rfl⟩
 have M3 : Mem _ _ [_, _] _ := M2
 refine bI rfl rfl (aB (aC (aL (cA (.int _ _) rfl ?_))))
 exact ⟨rfl, bKn _ _ _⟩
set_option maxHeartbeats 4000000 in
theorem rR (w : World) (A : Option Addr) (n c : Nat) (ls : List (List Value)) (R : Rd w 10 A n ls) (h1 : ∀ y ∈ ls, ∀ u ∈ y, one u = true) (hn : n ≤ 1048576) :
  Calls Tryz.prog 64 #[.slice A n c] w (fun ex w' => ∃ v, ex = .returned v ∧ (fun v w' => ∃ A' n' c' e, v = .slice A' n' c' ∧ aU 39 10 A' n' c' ls e ∧ Mem w [] [e] w' ∧ A'.isSome = A.isSome) v w') := by
 refine aH #[.tmp 2] 8 Tryz.func64 rfl Tryz.results64 Tryz.ntmps64 rfl ?_
 have M0 := Mem.refl w
 refine aD (aA (eG rfl rfl (aB (aC (aD (aD (aA (dN rfl rfl (wq (aFt _ Tryz.underlying29 rfl rfl) rfl (aB (aC ?_)))))))))))
 refine iI _ rfl (fun h4 => ?_) (fun h4 => ?_)
 ·refine aD (aA (eG rfl rfl (aB (aC (aL (cD (cA (.slice _ _ _) rfl ?_)))))))
  have hA : A = none := by cases A <;> simp_all
  have hl : ls = [] := by
   rcases Nat.eq_zero_or_pos n with h | h
   ·subst h; exact List.eq_nil_of_length_eq_zero R.len
   ·have := R.some h; rw [hA] at this; cases this
  subst hA; subst hl
  exact ⟨_, _, _, _, rfl, aU.nil 39 10 default, M0.dummy default, rfl⟩
 ·refine aK (aC (aD (aA (cS [] [] rfl dF M0 rfl rfl rfl rfl (cY rfl) (by decide) (fun b1 w1 M1 => (dN rfl rfl (aKe 0 ls dF M1 rfl rfl rfl rfl rfl (aU.empty b1) (R.mem M1) h1 (by omega) (fun A2 c2 e2 w2 M2 hR2 hA2 => ?_))))))))
  have hAA := hA2
  refine eG rfl rfl (aB (aC (aL (cA (.slice _ _ _) rfl ?_))))
  refine ⟨_, _, _, _, rfl, by simpa using hR2, M2, ?_⟩
  rw [hAA rfl]; cases A <;> simp_all
end Go.Proofs.YtaoaknafiegfoaaGreatDoor
