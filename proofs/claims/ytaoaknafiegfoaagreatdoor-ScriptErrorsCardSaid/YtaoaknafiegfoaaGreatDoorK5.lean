/- Part of the proof of the laws of this seat: Ty, T26, T25, T20, T20r, T20l, T21, T22, T23, T23l, R5, R6, Bd, Lib, St. No conditions. -/
import Derived.Test.YtaoaknafiegfoaaGreatDoorProg
import Derived.Test.YtaoaknafiegfoaaGreatDoorK2
import Derived.Test.YtaoaknafiegfoaaGreatDoorK3
import Derived.Test.YtaoaknafiegfoaaGreatDoorK4
import Derived.KernelRfl
set_option linter.unusedVariables false
set_option linter.unusedSimpArgs false
set_option linter.unnecessarySimpa false
namespace Go.Proofs.YtaoaknafiegfoaaGreatDoor
open Go.Bil
open Go.Proofs
theorem bZ : fQ Tryz.prog 35 = true := by kernel_rfl
theorem aW : fQ Tryz.prog 21 = true := by kernel_rfl
theorem aTa : ∀ (d : Nat) (w : World) (x0 x1 y0 y1 : Int), (Op.equalIn (d + 2) 37 (.agg [.int .i32 x0, .int .i32 x1].toArray) (.agg [.int .i32 y0, .int .i32 y1].toArray)).run Tryz.prog w = .ok (decide (x0 = y0 ∧ x1 = y1)) w := fun d w x0 x1 y0 y1 => by
  have h := tZ (P := Tryz.prog) (T := 37) (dd := d + 1) (xs := [.int .i32 x0, .int .i32 x1]) (ys := [.int .i32 y0, .int .i32 y1]) (w := w) Tryz.underlying37 (by kernel_rfl) (gX rfl (jO aW rfl) (jO aW rfl) (pU (dd := d + 0) Tryz.underlying21) (gX rfl (jO aW rfl) (jO aW rfl) (pU (dd := d + 0) Tryz.underlying21) (aEb)))
  refine h.trans (congrArg (fun r => Result.ok r w) ?_)
  simp only [Bool.decide_and, Bool.and_true, Bool.and_assoc]
theorem bL : gM Tryz.prog 37 = some 2 := by kernel_rfl
theorem bHk : ∀ (d : Nat) (w : World) (x0 x1 x2 x3 x4 x5 x6 x7 x8 x9 y0 y1 y2 y3 y4 y5 y6 y7 y8 y9 : Int), (Op.equalIn (d + 3) 39 (.agg [.int .u32 x0, .int .i32 x1, .int .i32 x2, .int .i32 x3, .int .i32 x4, .int .i32 x5, .int .i32 x6, .int .i32 x7, .int .i32 x8, .int .i32 x9].toArray) (.agg [.int .u32 y0, .int .i32 y1, .int .i32 y2, .int .i32 y3, .int .i32 y4, .int .i32 y5, .int .i32 y6, .int .i32 y7, .int .i32 y8, .int .i32 y9].toArray)).run Tryz.prog w = .ok (decide (x0 = y0 ∧ x1 = y1 ∧ x2 = y2 ∧ x3 = y3 ∧ x4 = y4 ∧ x5 = y5 ∧ x6 = y6 ∧ x7 = y7 ∧ x8 = y8 ∧ x9 = y9)) w := fun d w x0 x1 x2 x3 x4 x5 x6 x7 x8 x9 y0 y1 y2 y3 y4 y5 y6 y7 y8 y9 => by
  have h := tZ (P := Tryz.prog) (T := 39) (dd := d + 2) (xs := [.int .u32 x0, .int .i32 x1, .int .i32 x2, .int .i32 x3, .int .i32 x4, .int .i32 x5, .int .i32 x6, .int .i32 x7, .int .i32 x8, .int .i32 x9]) (ys := [.int .u32 y0, .int .i32 y1, .int .i32 y2, .int .i32 y3, .int .i32 y4, .int .i32 y5, .int .i32 y6, .int .i32 y7, .int .i32 y8, .int .i32 y9]) (w := w) Tryz.underlying39 (by kernel_rfl) (gX rfl (jO bZ rfl) (jO bZ rfl) (pU (dd := d + 1) Tryz.underlying35) (gX rfl (jO aW rfl) (jO aW rfl) (pU (dd := d + 1) Tryz.underlying21) (gX rfl (xW bL rfl) (xW bL rfl) (aTa (d + 0) w x2 x3 y2 y3) (gX rfl (jO aW rfl) (jO aW rfl) (pU (dd := d + 1) Tryz.underlying21) (gX rfl (jO aW rfl) (jO aW rfl) (pU (dd := d + 1) Tryz.underlying21) (gX rfl (xW bL rfl) (xW bL rfl) (aTa (d + 0) w x6 x7 y6 y7) (gX rfl (xW bL rfl) (xW bL rfl) (aTa (d + 0) w x8 x9 y8 y9) (aEb))))))))
  refine h.trans (congrArg (fun r => Result.ok r w) ?_)
  simp only [Bool.decide_and, Bool.and_true, Bool.and_assoc]
theorem bJh : ∀ (x0 x1 x2 x3 x4 x5 x6 x7 x8 x9 y0 y1 y2 y3 y4 y5 y6 y7 y8 y9 : Int), EqA Tryz.prog 39 [.int .u32 x0, .int .i32 x1, .int .i32 x2, .int .i32 x3, .int .i32 x4, .int .i32 x5, .int .i32 x6, .int .i32 x7, .int .i32 x8, .int .i32 x9] [.int .u32 y0, .int .i32 y1, .int .i32 y2, .int .i32 y3, .int .i32 y4, .int .i32 y5, .int .i32 y6, .int .i32 y7, .int .i32 y8, .int .i32 y9] (decide (x0 = y0 ∧ x1 = y1 ∧ x2 = y2 ∧ x3 = y3 ∧ x4 = y4 ∧ x5 = y5 ∧ x6 = y6 ∧ x7 = y7 ∧ x8 = y8 ∧ x9 = y9)) := fun x0 x1 x2 x3 x4 x5 x6 x7 x8 x9 y0 y1 y2 y3 y4 y5 y6 y7 y8 y9 => ⟨by kernel_rfl, fun w => bHk 9997 w x0 x1 x2 x3 x4 x5 x6 x7 x8 x9 y0 y1 y2 y3 y4 y5 y6 y7 y8 y9⟩
theorem bS : gM Tryz.prog 39 = some 10 := by kernel_rfl
theorem bGb : aN Tryz.prog 115 = true := by kernel_rfl
theorem bFz : ∀ (d : Nat) (w : World) (x0 x1 y0 y1 : Int), (Op.equalIn (d + 2) 209 (.agg [.int .u32 x0, .int .u32 x1].toArray) (.agg [.int .u32 y0, .int .u32 y1].toArray)).run Tryz.prog w = .ok (decide (x0 = y0 ∧ x1 = y1)) w := fun d w x0 x1 y0 y1 => by
  have h := tZ (P := Tryz.prog) (T := 209) (dd := d + 1) (xs := [.int .u32 x0, .int .u32 x1]) (ys := [.int .u32 y0, .int .u32 y1]) (w := w) Tryz.underlying209 (by kernel_rfl) (gX rfl (jO bZ rfl) (jO bZ rfl) (pU (dd := d + 0) Tryz.underlying35) (gX rfl (jO bZ rfl) (jO bZ rfl) (pU (dd := d + 0) Tryz.underlying35) (aEb)))
  refine h.trans (congrArg (fun r => Result.ok r w) ?_)
  simp only [Bool.decide_and, Bool.and_true, Bool.and_assoc]
theorem bEw : ∀ (x0 x1 y0 y1 : Int), EqA Tryz.prog 209 [.int .u32 x0, .int .u32 x1] [.int .u32 y0, .int .u32 y1] (decide (x0 = y0 ∧ x1 = y1)) := fun x0 x1 y0 y1 => ⟨by kernel_rfl, fun w => bFz 9998 w x0 x1 y0 y1⟩
theorem gB : gM Tryz.prog 209 = some 2 := by kernel_rfl
theorem bCs : aN Tryz.prog 213 = true := by kernel_rfl
theorem bHg : jP Tryz.prog 209 = some (.agg [.int .u32 0, .int .u32 0].toArray) := by kernel_rfl
theorem gY : fQ Tryz.prog 3 = true := by kernel_rfl
theorem mD : fQ Tryz.prog 4 = true := by kernel_rfl
theorem oB : dX Tryz.prog 39 1 1 = true := by kernel_rfl
theorem lB : dX Tryz.prog 39 2 2 = true := by kernel_rfl
theorem dW : dX Tryz.prog 37 0 0 = true := by kernel_rfl
theorem dO : dX Tryz.prog 37 1 1 = true := by kernel_rfl
theorem fH : dX Tryz.prog 39 3 4 = true := by kernel_rfl
theorem sN : dX Tryz.prog 39 4 5 = true := by kernel_rfl
theorem gU : dX Tryz.prog 39 5 6 = true := by kernel_rfl
theorem fO : dX Tryz.prog 39 6 8 = true := by kernel_rfl
theorem fG : eH Tryz.prog 29 39 10 40 = true := by kernel_rfl
theorem fB : dX Tryz.prog 39 0 0 = true := by kernel_rfl
theorem mixed : Tryz.prog.follows .mixedOrders = true := by kernel_rfl
theorem aIs : aN Tryz.prog 139 = true := by kernel_rfl
theorem lD : fI Tryz.prog 194 [.nilFunc, .int .i64 0] [(0, 1), (1, 1)] := dU Tryz.underlying194 (by kernel_rfl) (by kernel_rfl) (by kernel_rfl)
theorem rR : wF Tryz.prog 196 6 194 2 = true := by kernel_rfl
theorem bAt : fK Tryz.prog 196 = some [.nilFunc, .int .i64 0, .nilFunc, .int .i64 0, .nilFunc, .int .i64 0, .nilFunc, .int .i64 0, .nilFunc, .int .i64 0, .nilFunc, .int .i64 0] := by kernel_rfl
theorem kU : gM Tryz.prog 194 = some 2 := by kernel_rfl
theorem qX : fK Tryz.prog 194 = some [.nilFunc, .int .i64 0] := by kernel_rfl
theorem nD : dX Tryz.prog 194 0 0 = true := by kernel_rfl
theorem aBu : fQ Tryz.prog 23 = true := by kernel_rfl
theorem bEu : aN Tryz.prog 137 = true := by kernel_rfl
theorem nT : dX Tryz.prog 194 1 1 = true := by kernel_rfl
theorem nO : fQ Tryz.prog 30 = true := by kernel_rfl
theorem bCz : aN Tryz.prog 138 = true := by kernel_rfl
theorem bEj : aN Tryz.prog 140 = true := by kernel_rfl
theorem bGg : aN Tryz.prog 141 = true := by kernel_rfl
theorem bGj : aN Tryz.prog 142 = true := by kernel_rfl
theorem bEs : aN Tryz.prog 143 = true := by kernel_rfl
theorem aLl : aN Tryz.prog 102 = true := by kernel_rfl
theorem jA : dX Tryz.prog 103 1 1 = true := by kernel_rfl
theorem mS : fQ Tryz.prog 101 = true := by kernel_rfl
theorem pL : tY Tryz.prog 101 35 3 .u32 = true := by kernel_rfl
theorem zv3 : jP Tryz.prog 3 = some (.int .i64 0) := by kernel_rfl
theorem eZ : dX Tryz.prog 103 0 0 = true := by kernel_rfl
theorem fD : fQ Tryz.prog 29 = true := by kernel_rfl
theorem gW : fK Tryz.prog 39 = some [.int .u32 0, .int .i32 0, .int .i32 0, .int .i32 0, .int .i32 0, .int .i32 0, .int .i32 0, .int .i32 0, .int .i32 0, .int .i32 0] := by kernel_rfl
theorem aHz : fI Tryz.prog 39 [.int .u32 0, .int .i32 0, .int .i32 0, .int .i32 0, .int .i32 0, .int .i32 0, .int .i32 0, .int .i32 0, .int .i32 0, .int .i32 0] [(0, 1), (1, 1), (2, 2), (4, 1), (5, 1), (6, 2), (8, 2)] := dU Tryz.underlying39 (by kernel_rfl) (by kernel_rfl) (by kernel_rfl)
theorem aSc : aN Tryz.prog 151 = true := by kernel_rfl
theorem aFe : aN Tryz.prog 116 = true := by kernel_rfl
theorem bHz : aN Tryz.prog 64 = true := by kernel_rfl
theorem bCi : aN Tryz.prog 114 = true := by kernel_rfl
theorem bDl : aN Tryz.prog 119 = true := by kernel_rfl
theorem us3 : (Tryz.prog.underlying 3).isSome = true := by kernel_rfl
theorem bHs : (Tryz.prog.underlying 178).isSome = true := by kernel_rfl
theorem aTx : aN Tryz.prog 188 = true := by kernel_rfl
theorem bFf : aN Tryz.prog 187 = true := by kernel_rfl
theorem aSw : aN Tryz.prog 253 = true := by kernel_rfl
theorem aDv : fK Tryz.prog 253 = some [.int .i32 0, .int .i32 0, .int .i32 0, .int .i32 0] := by kernel_rfl
theorem bEr : aN Tryz.prog 229 = true := by kernel_rfl
theorem aBr : fI Tryz.prog 253 [.int .i32 0, .int .i32 0, .int .i32 0, .int .i32 0] [(0, 1), (1, 1), (2, 1), (3, 1)] := dU Tryz.underlying253 (by kernel_rfl) (by kernel_rfl) (by kernel_rfl)
theorem iW : gM Tryz.prog 253 = some 4 := by kernel_rfl
theorem sT : dX Tryz.prog 253 0 0 = true := by kernel_rfl
theorem tJ : dX Tryz.prog 253 2 2 = true := by kernel_rfl
theorem tC : dX Tryz.prog 253 1 1 = true := by kernel_rfl
theorem tP : dX Tryz.prog 253 3 3 = true := by kernel_rfl
theorem aKn : aN Tryz.prog 231 = true := by kernel_rfl
theorem bCc : aN Tryz.prog 232 = true := by kernel_rfl
theorem oQ : fK Tryz.prog 283 = some [.int .i32 0, .int .i32 0] := by kernel_rfl
theorem aCx : fI Tryz.prog 283 [.int .i32 0, .int .i32 0] [(0, 1), (1, 1)] := dU Tryz.underlying283 (by kernel_rfl) (by kernel_rfl) (by kernel_rfl)
theorem gQ : gM Tryz.prog 283 = some 2 := by kernel_rfl
theorem gD : fI Tryz.prog 37 [.int .i32 0, .int .i32 0] [(0, 1), (1, 1)] := dU Tryz.underlying37 (by kernel_rfl) (by kernel_rfl) (by kernel_rfl)
theorem aRu : aN Tryz.prog 267 = true := by kernel_rfl
theorem bCt : aN Tryz.prog 254 = true := by kernel_rfl
theorem aNr : fK Tryz.prog 4 = some [.bool false] := by kernel_rfl
theorem yS : dX Tryz.prog 283 1 1 = true := by kernel_rfl
theorem yH : dX Tryz.prog 283 0 0 = true := by kernel_rfl
theorem aZn : fK Tryz.prog 281 = some [.slice none 0 0] := by kernel_rfl
theorem bEn : aN Tryz.prog 230 = true := by kernel_rfl
theorem bBy : aN Tryz.prog 255 = true := by kernel_rfl
theorem aKu : fQ Tryz.prog 281 = true := by kernel_rfl
theorem aSp : eH Tryz.prog 281 283 2 8 = true := by kernel_rfl
theorem fV : (Tryz.prog.underlying 21).isSome = true := by kernel_rfl
theorem aUg : wF Tryz.prog 323 2 35 1 = true := by kernel_rfl
theorem rV : (Tryz.prog.underlying 35).isSome = true := by kernel_rfl
theorem bFh : aN Tryz.prog 245 = true := by kernel_rfl
theorem us2 : (Tryz.prog.underlying 2).isSome = true := by kernel_rfl
theorem aBg : (Tryz.prog.underlying 237).isSome = true := by kernel_rfl
theorem pR : aN Tryz.prog 222 = true := by kernel_rfl
theorem aLy : aN Tryz.prog 221 = true := by kernel_rfl
theorem aRx : aN Tryz.prog 223 = true := by kernel_rfl
theorem aDu : aN Tryz.prog 224 = true := by kernel_rfl
theorem aDa : aN Tryz.prog 246 = true := by kernel_rfl
theorem aWs : aN Tryz.prog 240 = true := by kernel_rfl
theorem aIz : aN Tryz.prog 216 = true := by kernel_rfl
theorem bDr : aN Tryz.prog 242 = true := by kernel_rfl
theorem gK : fK Tryz.prog 37 = some [.int .i32 0, .int .i32 0] := by kernel_rfl
theorem aVn : aN Tryz.prog 218 = true := by kernel_rfl
theorem aSi : aN Tryz.prog 241 = true := by kernel_rfl
theorem zU : aN Tryz.prog 239 = true := by kernel_rfl
theorem lJ : fQ Tryz.prog 2 = true := by kernel_rfl
theorem aEs : aN Tryz.prog 189 = true := by kernel_rfl
theorem bEd : aN Tryz.prog 282 = true := by kernel_rfl
theorem zZ : fK Tryz.prog 2 = some [.int .i64 0] := by kernel_rfl
theorem aRv : aN Tryz.prog 283 = true := by kernel_rfl
theorem qJ : fQ Tryz.prog 237 = true := by kernel_rfl
theorem aYi : fK Tryz.prog 237 = some [.int .u64 0] := by kernel_rfl
theorem uU : wF Tryz.prog 369 2 37 2 = true := by kernel_rfl
theorem aNl : fK Tryz.prog 369 = some [.int .i32 0, .int .i32 0, .int .i32 0, .int .i32 0] := by kernel_rfl
theorem aDq : aN Tryz.prog 277 = true := by kernel_rfl
theorem aEp : aN Tryz.prog 276 = true := by kernel_rfl
theorem bCy : aN Tryz.prog 259 = true := by kernel_rfl
theorem sG : fK Tryz.prog 296 = some [.int .u32 0, .int .i32 0, .int .i32 0, .int .i32 0, .int .i32 0, .int .i32 0, .int .i32 0, .int .i32 0, .int .i32 0, .int .i32 0, .int .i32 0, .int .i32 0, .int .i32 0, .int .i32 0] := by kernel_rfl
theorem bFg : aN Tryz.prog 258 = true := by kernel_rfl
theorem aRe : fI Tryz.prog 296 [.int .u32 0, .int .i32 0, .int .i32 0, .int .i32 0, .int .i32 0, .int .i32 0, .int .i32 0, .int .i32 0, .int .i32 0, .int .i32 0, .int .i32 0, .int .i32 0, .int .i32 0, .int .i32 0] [(0, 10), (10, 2), (12, 2)] := dU Tryz.underlying296 (by kernel_rfl) (by kernel_rfl) (by kernel_rfl)
theorem kQ : gM Tryz.prog 296 = some 14 := by kernel_rfl
theorem aEe : aN Tryz.prog 237 = true := by kernel_rfl
theorem aIh : dX Tryz.prog 296 1 10 = true := by kernel_rfl
theorem aFs : dX Tryz.prog 296 2 12 = true := by kernel_rfl
theorem bDs : aN Tryz.prog 238 = true := by kernel_rfl
theorem sU : dX Tryz.prog 296 0 0 = true := by kernel_rfl
theorem tE : fK Tryz.prog 211 = some [.int .u32 0, .int .u32 0, .int .i32 0, .int .i32 0, .int .i32 0] := by kernel_rfl
theorem bDg : aN Tryz.prog 214 = true := by kernel_rfl
theorem bEt : aN Tryz.prog 215 = true := by kernel_rfl
theorem aBp : fI Tryz.prog 211 [.int .u32 0, .int .u32 0, .int .i32 0, .int .i32 0, .int .i32 0] [(0, 2), (2, 2), (4, 1)] := dU Tryz.underlying211 (by kernel_rfl) (by kernel_rfl) (by kernel_rfl)
theorem gI : gM Tryz.prog 211 = some 5 := by kernel_rfl
theorem aCl : fI Tryz.prog 209 [.int .u32 0, .int .u32 0] [(0, 1), (1, 1)] := dU Tryz.underlying209 (by kernel_rfl) (by kernel_rfl) (by kernel_rfl)
theorem qZ : fK Tryz.prog 209 = some [.int .u32 0, .int .u32 0] := by kernel_rfl
theorem bDd : aN Tryz.prog 217 = true := by kernel_rfl
theorem aHh : dX Tryz.prog 250 1 1024 = true := by kernel_rfl
theorem bGe : aN Tryz.prog 204 = true := by kernel_rfl
theorem bFp : aN Tryz.prog 205 = true := by kernel_rfl
theorem aUq : tY Tryz.prog 280 3 4 .i64 = true := by kernel_rfl
theorem zv4 : jP Tryz.prog 4 = some (.bool false) := by kernel_rfl
theorem yJ : dX Tryz.prog 250 0 0 = true := by kernel_rfl
theorem aJu : wF Tryz.prog 248 1024 247 1 = true := by kernel_rfl
theorem aEr : fQ Tryz.prog 247 = true := by kernel_rfl
theorem aHt : eH Tryz.prog 247 35 1 4 = true := by kernel_rfl
theorem aUm : eH Tryz.prog 353 3 1 8 = true := by kernel_rfl
theorem nA : dX Tryz.prog 209 0 0 = true := by kernel_rfl
theorem nS : dX Tryz.prog 209 1 1 = true := by kernel_rfl
theorem bCd : aN Tryz.prog 236 = true := by kernel_rfl
theorem bFk : fQ Tryz.prog 287 = true := by kernel_rfl
theorem bFl : aN Tryz.prog 235 = true := by kernel_rfl
theorem aJg : fQ Tryz.prog 220 = true := by kernel_rfl
theorem sO : eH Tryz.prog 220 209 2 8 = true := by kernel_rfl
theorem bDw : aN Tryz.prog 256 = true := by kernel_rfl
theorem bDy : aN Tryz.prog 233 = true := by kernel_rfl
theorem bCw : aN Tryz.prog 234 = true := by kernel_rfl
theorem bEp : gM Tryz.prog 248 = some 1024 := by kernel_rfl
theorem bCx : aN Tryz.prog 210 = true := by kernel_rfl
theorem aOi : fI Tryz.prog 288 [] [] := dU Tryz.underlying288 (by kernel_rfl) (by kernel_rfl) (by kernel_rfl)
theorem bCa : aN Tryz.prog 212 = true := by kernel_rfl
theorem bGi : aN Tryz.prog 211 = true := by kernel_rfl
theorem bGk : aN Tryz.prog 203 = true := by kernel_rfl
theorem aDd : tY Tryz.prog 245 35 253 .u32 = true := by kernel_rfl
theorem bIk : fK Tryz.prog 3 = some [.int .i64 0] := by kernel_rfl
theorem aWn : fQ Tryz.prog 245 = true := by kernel_rfl
theorem aUn : jP Tryz.prog 253 = some (.agg [.int .i32 0, .int .i32 0, .int .i32 0, .int .i32 0].toArray) := by kernel_rfl
theorem bDt : aN Tryz.prog 207 = true := by kernel_rfl
theorem aVt : aN Tryz.prog 206 = true := by kernel_rfl
theorem bFv : aN Tryz.prog 209 = true := by kernel_rfl
theorem bEy : aN Tryz.prog 180 = true := by kernel_rfl
theorem bFc : aN Tryz.prog 181 = true := by kernel_rfl
theorem bDb : aN Tryz.prog 182 = true := by kernel_rfl
theorem bDa : aN Tryz.prog 184 = true := by kernel_rfl
theorem bEo : aN Tryz.prog 183 = true := by kernel_rfl
theorem bEm : aN Tryz.prog 208 = true := by kernel_rfl
theorem yZ : dX Tryz.prog 219 0 0 = true := by kernel_rfl
theorem xL : fQ Tryz.prog 217 = true := by kernel_rfl
theorem aAg : tY Tryz.prog 217 35 39 .u32 = true := by kernel_rfl
theorem bAc : jP Tryz.prog 39 = some (.agg [.int .u32 0, .int .i32 0, .int .i32 0, .int .i32 0, .int .i32 0, .int .i32 0, .int .i32 0, .int .i32 0, .int .i32 0, .int .i32 0].toArray) := by kernel_rfl
theorem aUb : aN Tryz.prog 185 = true := by kernel_rfl
theorem qC : dX Tryz.prog 219 1 1 = true := by kernel_rfl
theorem lH : fQ Tryz.prog 166 = true := by kernel_rfl
theorem aCw : eH Tryz.prog 166 211 5 20 = true := by kernel_rfl
theorem bEe : aN Tryz.prog 159 = true := by kernel_rfl
theorem aOe : fI Tryz.prog 219 [.map none, .slice none 0 0] [(0, 1), (1, 1)] := dU Tryz.underlying219 (by kernel_rfl) (by kernel_rfl) (by kernel_rfl)
theorem bCl : aN Tryz.prog 157 = true := by kernel_rfl
theorem bCm : aN Tryz.prog 158 = true := by kernel_rfl
theorem bDe : aN Tryz.prog 284 = true := by kernel_rfl
theorem bFs : aN Tryz.prog 278 = true := by kernel_rfl
theorem nK : dX Tryz.prog 211 1 2 = true := by kernel_rfl
theorem bDi : aN Tryz.prog 260 = true := by kernel_rfl
theorem bEa : aN Tryz.prog 261 = true := by kernel_rfl
theorem aSg : aN Tryz.prog 262 = true := by kernel_rfl
theorem aWk : aN Tryz.prog 263 = true := by kernel_rfl
theorem nI : dX Tryz.prog 303 0 0 = true := by kernel_rfl
theorem sI : dX Tryz.prog 211 0 0 = true := by kernel_rfl
theorem aEj : aN Tryz.prog 161 = true := by kernel_rfl
theorem bGh : aN Tryz.prog 243 = true := by kernel_rfl
theorem aTo : aN Tryz.prog 244 = true := by kernel_rfl
theorem nC : dX Tryz.prog 303 1 1 = true := by kernel_rfl
theorem kT : fQ Tryz.prog 260 = true := by kernel_rfl
theorem mX : dX Tryz.prog 303 2 2 = true := by kernel_rfl
theorem mK : eH Tryz.prog 260 2 1 8 = true := by kernel_rfl
theorem bCr : aN Tryz.prog 220 = true := by kernel_rfl
theorem aCe : fI Tryz.prog 303 [.slice none 0 0, .slice none 0 0, .slice none 0 0] [(0, 1), (1, 1), (2, 1)] := dU Tryz.underlying303 (by kernel_rfl) (by kernel_rfl) (by kernel_rfl)
theorem aSu : aN Tryz.prog 219 = true := by kernel_rfl
theorem bEq : aN Tryz.prog 186 = true := by kernel_rfl
theorem aLf : aN Tryz.prog 148 = true := by kernel_rfl
theorem bEh : aN Tryz.prog 160 = true := by kernel_rfl
theorem aRq : dX Tryz.prog 211 2 4 = true := by kernel_rfl
theorem aTq : aN Tryz.prog 190 = true := by kernel_rfl
theorem uH : fQ Tryz.prog 127 = true := by kernel_rfl
theorem xJ : eH Tryz.prog 127 177 2 16 = true := by kernel_rfl
theorem aAf : dX Tryz.prog 177 0 0 = true := by kernel_rfl
theorem xM : dX Tryz.prog 177 1 1 = true := by kernel_rfl
theorem aYr : fK Tryz.prog 177 = some [.int .i64 0, .int .i64 0] := by kernel_rfl
theorem bAr : fK Tryz.prog 127 = some [.slice none 0 0] := by kernel_rfl
theorem aWg : aN Tryz.prog 163 = true := by kernel_rfl
theorem aWj : aN Tryz.prog 162 = true := by kernel_rfl
theorem aCy : eH Tryz.prog 201 174 1 8 = true := by kernel_rfl
theorem bEb : fQ Tryz.prog 174 = true := by kernel_rfl
theorem bDu : aN Tryz.prog 111 = true := by kernel_rfl
theorem zG : aN Tryz.prog 112 = true := by kernel_rfl
theorem bCo : aN Tryz.prog 110 = true := by kernel_rfl
theorem aUr : aN Tryz.prog 109 = true := by kernel_rfl
theorem bDc : aN Tryz.prog 113 = true := by kernel_rfl
theorem bIg : aN Tryz.prog 66 = true := by kernel_rfl
theorem bHn : aN Tryz.prog 67 = true := by kernel_rfl
theorem tD : dX Tryz.prog 168 1 1 = true := by kernel_rfl
theorem nJ : dX Tryz.prog 168 3 3 = true := by kernel_rfl
theorem xB : dX Tryz.prog 58 2 2 = true := by kernel_rfl
theorem yR : dX Tryz.prog 168 0 0 = true := by kernel_rfl
theorem bGc : aN Tryz.prog 144 = true := by kernel_rfl
theorem tK : dX Tryz.prog 168 2 2 = true := by kernel_rfl
theorem aXo : dX Tryz.prog 58 0 0 = true := by kernel_rfl
theorem aNc : dX Tryz.prog 58 1 1 = true := by kernel_rfl
theorem aLt : aN Tryz.prog 145 = true := by kernel_rfl
theorem bCe : aN Tryz.prog 146 = true := by kernel_rfl
theorem bEk : aN Tryz.prog 147 = true := by kernel_rfl
theorem aDm : fK Tryz.prog 58 = some [.int .i64 0, .int .i64 0, .bool false] := by kernel_rfl
theorem aPh : fI Tryz.prog 168 [.slice none 0 0, .slice none 0 0, .slice none 0 0, .int .i64 0, .int .i64 0, .bool false] [(0, 1), (1, 1), (2, 1), (3, 3)] := dU Tryz.underlying168 (by kernel_rfl) (by kernel_rfl) (by kernel_rfl)
theorem zP : wF Tryz.prog 170 4 169 1 = true := by kernel_rfl
theorem aXf : fK Tryz.prog 170 = some [.nilFunc, .nilFunc, .nilFunc, .nilFunc] := by kernel_rfl
theorem aEn : fQ Tryz.prog 169 = true := by kernel_rfl
theorem bDo : aN Tryz.prog 105 = true := by kernel_rfl
theorem bFn : aN Tryz.prog 106 = true := by kernel_rfl
theorem bFb : aN Tryz.prog 107 = true := by kernel_rfl
theorem bEx : aN Tryz.prog 108 = true := by kernel_rfl
theorem vR : gM Tryz.prog 58 = some 3 := by kernel_rfl
theorem bIj : aN Tryz.prog 65 = true := by kernel_rfl
theorem mE : eH Tryz.prog 31 5 1 1 = true := by kernel_rfl
theorem aDb : fK Tryz.prog 139 = some [.int .u32 0, .int .u32 0, .int .u32 0, .int .u32 0, .int .u32 0, .int .u32 0, .int .u32 0, .int .u32 0, .int .u32 0, .int .u32 0] := by kernel_rfl
theorem fL : wF Tryz.prog 139 10 35 1 = true := by kernel_rfl
theorem oR : aN Tryz.prog 136 = true := by kernel_rfl
theorem aKz : gM Tryz.prog 139 = some 10 := by kernel_rfl
theorem aPt : fQ Tryz.prog 5 = true := by kernel_rfl
theorem us5 : (Tryz.prog.underlying 5).isSome = true := by kernel_rfl
theorem aKe : aN Tryz.prog 118 = true := by kernel_rfl
theorem bBw : aN Tryz.prog 82 = true := by kernel_rfl
theorem aTk : aN Tryz.prog 100 = true := by kernel_rfl
theorem bFr : aN Tryz.prog 101 = true := by kernel_rfl
theorem pT : aN Tryz.prog 79 = true := by kernel_rfl
theorem pG : aN Tryz.prog 80 = true := by kernel_rfl
theorem bIw : aN Tryz.prog 81 = true := by kernel_rfl
theorem pN : dX Tryz.prog 107 0 0 = true := by kernel_rfl
theorem aRw : aN Tryz.prog 60 = true := by kernel_rfl
theorem nR : dX Tryz.prog 105 0 0 = true := by kernel_rfl
theorem bBv : aN Tryz.prog 61 = true := by kernel_rfl
theorem bGd : aN Tryz.prog 122 = true := by kernel_rfl
theorem bCn : aN Tryz.prog 117 = true := by kernel_rfl
theorem bIf : aN Tryz.prog 68 = true := by kernel_rfl
theorem aNp : aN Tryz.prog 38 = true := by kernel_rfl
theorem bIl : aN Tryz.prog 58 = true := by kernel_rfl
theorem bHj : aN Tryz.prog 69 = true := by kernel_rfl
theorem bFe : aN Tryz.prog 124 = true := by kernel_rfl
theorem bDh : aN Tryz.prog 125 = true := by kernel_rfl
theorem aQi : fI Tryz.prog 105 [.slice none 0 0, .map none] [(0, 2)] := dU Tryz.underlying105 (by kernel_rfl) (by kernel_rfl) (by kernel_rfl)
theorem bFa : gM Tryz.prog 105 = some 2 := by kernel_rfl
theorem bBa : aN Tryz.prog 78 = true := by kernel_rfl
theorem bIx : aN Tryz.prog 54 = true := by kernel_rfl
theorem zY : fQ Tryz.prog 31 = true := by kernel_rfl
theorem bAj : dX Tryz.prog 41 1 1 = true := by kernel_rfl
theorem aMd : dX Tryz.prog 41 2 11 = true := by kernel_rfl
theorem aYb : dX Tryz.prog 41 4 14 = true := by kernel_rfl
theorem bIb : aN Tryz.prog 83 = true := by kernel_rfl
theorem jW : tY Tryz.prog 109 3 34 .i64 = true := by kernel_rfl
theorem bHl : aN Tryz.prog 85 = true := by kernel_rfl
theorem bJd : aN Tryz.prog 88 = true := by kernel_rfl
theorem kE : fK Tryz.prog 33 = some [.int .i64 0, .slice none 0 0, .int .i64 0, .bool false] := by kernel_rfl
theorem aTs : fQ Tryz.prog 143 = true := by kernel_rfl
theorem bDj : fQ Tryz.prog 144 = true := by kernel_rfl
theorem mH : gM Tryz.prog 41 = some 15 := by kernel_rfl
theorem lQ : fI Tryz.prog 33 [.int .i64 0, .slice none 0 0, .int .i64 0, .bool false] [(0, 1), (1, 1), (2, 1), (3, 1)] := dU Tryz.underlying33 (by kernel_rfl) (by kernel_rfl) (by kernel_rfl)
theorem bIc : aN Tryz.prog 84 = true := by kernel_rfl
theorem bHv : aN Tryz.prog 26 = true := by kernel_rfl
theorem fS : gM Tryz.prog 33 = some 4 := by kernel_rfl
theorem aUl : fQ Tryz.prog 146 = true := by kernel_rfl
theorem bEg : fQ Tryz.prog 148 = true := by kernel_rfl
theorem bId : aN Tryz.prog 87 = true := by kernel_rfl
theorem bIe : aN Tryz.prog 86 = true := by kernel_rfl
theorem aRt : fQ Tryz.prog 150 = true := by kernel_rfl
theorem bFd : fQ Tryz.prog 151 = true := by kernel_rfl
theorem bIh : aN Tryz.prog 89 = true := by kernel_rfl
theorem bHp : aN Tryz.prog 74 = true := by kernel_rfl
theorem aXi : dX Tryz.prog 41 3 12 = true := by kernel_rfl
theorem bGz : aN Tryz.prog 91 = true := by kernel_rfl
theorem bGw : aN Tryz.prog 53 = true := by kernel_rfl
theorem bHt : aN Tryz.prog 24 = true := by kernel_rfl
theorem oP : dX Tryz.prog 41 0 0 = true := by kernel_rfl
theorem zK : aN Tryz.prog 55 = true := by kernel_rfl
theorem aKc : jP Tryz.prog 34 = some (.nilFunc) := by kernel_rfl
theorem bGm : aN Tryz.prog 120 = true := by kernel_rfl
theorem bDk : aN Tryz.prog 121 = true := by kernel_rfl
theorem bFu : aN Tryz.prog 123 = true := by kernel_rfl
theorem bIq : aN Tryz.prog 90 = true := by kernel_rfl
theorem bIo : aN Tryz.prog 92 = true := by kernel_rfl
theorem bGy : aN Tryz.prog 93 = true := by kernel_rfl
theorem bAd : eH Tryz.prog 27 41 15 88 = true := by kernel_rfl
theorem aWq : fK Tryz.prog 41 = some [.int .i64 0, .int .u32 0, .int .i32 0, .int .i32 0, .int .i32 0, .int .i32 0, .int .i32 0, .int .i32 0, .int .i32 0, .int .i32 0, .int .i32 0, .int .u32 0, .int .i32 0, .int .i32 0, .slice none 0 0] := by kernel_rfl
theorem bGv : aN Tryz.prog 20 = true := by kernel_rfl
theorem qF : eH Tryz.prog 63 33 4 48 = true := by kernel_rfl
theorem aXg : fK Tryz.prog 107 = some [.slice none 0 0, .map none] := by kernel_rfl
theorem aMs : aN Tryz.prog 33 = true := by kernel_rfl
theorem aGi : eH Tryz.prog 22 46 15 88 = true := by kernel_rfl
theorem aNv : dX Tryz.prog 46 4 14 = true := by kernel_rfl
theorem aDk : dX Tryz.prog 46 0 0 = true := by kernel_rfl
theorem aHj : fI Tryz.prog 43 [.int .i64 0, .slice none 0 0, .int .i64 0, .bool false] [(0, 1), (1, 1), (2, 1), (3, 1)] := dU Tryz.underlying43 (by kernel_rfl) (by kernel_rfl) (by kernel_rfl)
theorem bHy : gM Tryz.prog 43 = some 4 := by kernel_rfl
theorem aZs : dX Tryz.prog 46 1 1 = true := by kernel_rfl
theorem aXh : dX Tryz.prog 46 2 11 = true := by kernel_rfl
theorem aXn : dX Tryz.prog 46 3 12 = true := by kernel_rfl
theorem bBu : gM Tryz.prog 46 = some 15 := by kernel_rfl
theorem aNb : dX Tryz.prog 43 0 0 = true := by kernel_rfl
theorem aNf : dX Tryz.prog 43 1 1 = true := by kernel_rfl
theorem bHe : aN Tryz.prog 23 = true := by kernel_rfl
theorem aMu : dX Tryz.prog 43 2 2 = true := by kernel_rfl
theorem aMr : dX Tryz.prog 43 3 3 = true := by kernel_rfl
theorem oO : dX Tryz.prog 33 0 0 = true := by kernel_rfl
theorem aMe : dX Tryz.prog 33 1 1 = true := by kernel_rfl
theorem aDh : dX Tryz.prog 33 2 2 = true := by kernel_rfl
theorem aDl : dX Tryz.prog 33 3 3 = true := by kernel_rfl
theorem bHa : aN Tryz.prog 57 = true := by kernel_rfl
theorem nP : fI Tryz.prog 41 [.int .i64 0, .int .u32 0, .int .i32 0, .int .i32 0, .int .i32 0, .int .i32 0, .int .i32 0, .int .i32 0, .int .i32 0, .int .i32 0, .int .i32 0, .int .u32 0, .int .i32 0, .int .i32 0, .slice none 0 0] [(0, 1), (1, 10), (11, 1), (12, 2), (14, 1)] := dU Tryz.underlying41 (by kernel_rfl) (by kernel_rfl) (by kernel_rfl)
theorem bHb : aN Tryz.prog 39 = true := by kernel_rfl
theorem aNo : aN Tryz.prog 18 = true := by kernel_rfl
theorem bIi : aN Tryz.prog 36 = true := by kernel_rfl
theorem bBs : aN Tryz.prog 32 = true := by kernel_rfl
theorem bJc : aN Tryz.prog 17 = true := by kernel_rfl
theorem aUz : aN Tryz.prog 34 = true := by kernel_rfl
theorem bHq : aN Tryz.prog 37 = true := by kernel_rfl
end Go.Proofs.YtaoaknafiegfoaaGreatDoor

namespace Go.Proofs.YtaoaknafiegfoaaGreatDoor
open Go.Bil
open Go.RowKit (Below)
open Go.Proofs
theorem bEl (a b : Body) : EqA Tryz.prog 39 (aF a) (aF b) (decide (a = b)) := by
 have h := bJh a.key a.radius a.ax a.ay a.mass a.bounce a.px a.py a.vx a.vy b.key b.radius b.ax b.ay b.mass b.bounce b.px b.py b.vx b.vy
 rw [decide_eq_decide.2 (aSd (a := a) (b := b))]
 exact h
set_option maxHeartbeats 4000000 in
theorem aLi (w : World) (A : Option Addr) (n c : Nat) (xs : List Body) (R : Rd w 10 A n (xs.map aF)) (B : Option Addr) (m c' : Nat) (ys : List Body) (R' : Rd w 10 B m (ys.map aF)) :
  Calls Tryz.prog 37 #[.slice A n c, .slice B m c'] w (fun ex w' => ∃ v, ex = .returned v ∧ (fun v w' => v = .bool (decide (xs = ys)) ∧ Below w.heap.size w w') v w') := by
 have hlen : xs.length = n := by simpa using R.len
 have hbd := R.bound
 have hlen' : ys.length = m := by simpa using R'.len
 have hbd' := R'.bound
 refine aH #[.tmp 4] 26 Tryz.func37 rfl Tryz.results37 Tryz.ntmps37 rfl ?_
 have M0 := Mem.refl w
 refine aD (aA (wq (aI (.bool false) rfl) rfl (aB (aC (aD (aD (aA (dV rfl rfl (wq (cN Tryz.underlying29 rfl) rfl (dV rfl rfl ?_))))))))))
 refine wq (cN Tryz.underlying29 rfl) rfl (cY rfl rfl rfl rfl (aB (aC ?_)))
 refine bB rfl (fun h10 => ?_) (fun h10 => ?_)
 ·refine aD (aA (wq (aI (.bool false) rfl) rfl (aB (aC (aO (cM (cD (.bool false) rfl ?_)))))))
  exact ⟨bF (fun e => h10 (by rw [← hlen, ← hlen', e])), M0.below⟩
 ·have hnm : n = m := by omega
  refine aK (aC (aD (aD (aA (bO rfl rfl (aB (aC (aT (dL (σ := Nat) [0, 1] (fun k => [(5, .int .i64 (k : Int))]) (fun k w' => (k ≤ n ∧ ∀ (j : Nat) (x : Body), j < k → xs[j]? = some x → ys[j]? = some x) ∧ Mem w [] [] w') (fun k => n - k) 0 (bM rfl eX) (⟨⟨by omega, fun j c hj => by omega⟩, M0⟩) ?_)))))))))
  rintro k ρ1 w1 ⟨⟨hk, hne⟩, hM1⟩
  refine aD (aD (aA (aY rfl rfl (dV rfl rfl (wq (cN Tryz.underlying29 rfl) rfl (cY rfl rfl rfl rfl (aB (aC ?_))))))))
  refine bB rfl (fun h14 => ?_) (fun h14 => ?_)
  ·obtain ⟨xb, hxb⟩ := cI (k := k) hlen (by omega)
   obtain ⟨yb, hyb⟩ := cI (k := k) hlen' (by omega)
   refine aK (aC (aD (aT (aD (bP [(0, 0), (1, 0), (2, 1), (3, 1), (4, 0), (5, 0), (6, 1), (7, 1), (8, 0)] mixed rfl (by kernel_rfl) (fun w2 hb2 hh2 => ?_))))))
   have M2 := hM1.drew hb2 hh2
   refine xG rfl rfl rfl (gR rfl rfl rfl (bW rfl rfl rfl (bR (k) fG rfl rfl rfl ((R.mem M2).below_len (aJ aF hxb)) ((R.mem M2).someK (aJ aF hxb))) (bW rfl rfl rfl (dZ _ bS (R.mem M2) (aJ aF hxb) rfl) (xG rfl rfl rfl (gR rfl rfl rfl ?_)))))
   refine bW rfl rfl rfl (bR (k) fG rfl rfl rfl ((R'.mem M2).below_len (aJ aF hyb)) ((R'.mem M2).someK (aJ aF hyb))) (bW rfl rfl rfl (dZ _ bS (R'.mem M2) (aJ aF hyb) rfl) (aX rfl rfl rfl (fun _ => bJf (bEl xb yb) rfl rfl) (cE (aC ?_))))
   refine bB rfl (fun h25 => ?_) (fun h25 => ?_)
   ·refine aD (aA (wq (aI (.bool false) rfl) rfl (aB (aC (aO (jS (cM (uE ?_))))))))
    refine jS (cM (cD (.bool false) rfl ?_))
    exact ⟨bF (fun e => h25 (by rw [e] at hxb; rw [hxb] at hyb; injection hyb)), M2.below⟩
   ·refine aK (dE (aC (aA (aY rfl rfl (wq (bQ rfl rfl (by omega) (by omega)) rfl (bO rfl rfl ?_))))))
    refine aB ?_
    refine cR (k + 1) (bM rfl eX) (cV rfl (cV rfl kA)) ?_ ?_
    ·exact ⟨⟨by omega, qU (p := fun j x => ys[j]? = some x) hne hxb (by rw [hyb, Decidable.not_not.1 h25])⟩, M2⟩
    ·omega
  ·refine cQ (dC (cX (eT (aC (aD (aA (wq (aI (.bool true) rfl) rfl ?_)))))))
   refine aB (aC (aO (cD (.bool true) rfl ?_)))
   exact ⟨bT (List.ext_getElem? fun j => by
   by_cases hj : j < xs.length
   ·obtain ⟨x, hx⟩ := cI (k := j) rfl hj
    rw [hx, hne j x (by omega) hx]
   ·rw [List.getElem?_eq_none (by omega), List.getElem?_eq_none (by omega)]), hM1.below⟩
set_option maxHeartbeats 4000000 in
theorem qD (w : World) (x y l : Int) (h0 : 0 ≤ l) (h1 : l ≤ 2147483647) :
  Calls Tryz.prog 139 #[.agg [.int .i32 x, .int .i32 y].toArray, .int .i32 l] w (fun ex w' => ∃ v, ex = .returned v ∧ (fun v w' => v = .bool (decide (-l ≤ x ∧ x ≤ l ∧ -l ≤ y ∧ y ≤ l)) ∧ Below w.heap.size w w') v w') := by
 have hneg : IntKind.i32.wrap (-l) = -l := mB _ (by omega) (by omega)
 refine aH #[.tmp 4] 29 Tryz.func139 rfl Tryz.results139 Tryz.ntmps139 rfl ?_
 have M0 := Mem.refl w
 refine aD (aA (bE (.agg (List.toArray _)) M0 rfl rfl rfl (fun b1 w1 M1 => (wq (aI (.bool false) rfl) rfl (aB (aC (aD (aA (aY rfl rfl (wq (aBl rfl) rfl ?_))))))))))
 refine aV 6 (.int .i32 (-l)) (iE hneg) (wq (aE 0 dW rfl) rfl (wq (aL 0 (.int _ _) aW M1 rfl rfl rfl) rfl (cY rfl rfl rfl rfl (wq (aG (.bool (decide _)) rfl) rfl ?_))))
 refine dH 10 rfl (fun g10 => ?_) (fun g10 => ?_)
 ·refine wq (aE 0 dW rfl) rfl (wq (aL 0 (.int _ _) aW M1 rfl rfl rfl) rfl (aY rfl rfl (cY rfl rfl rfl rfl (wq (bX true (.bool (decide _)) rfl rfl) rfl (wq (aG (.bool (decide _)) rfl) rfl ?_)))))
  refine dH 16 rfl (fun g16 => ?_) (fun g16 => ?_)
  ·refine aY rfl rfl (wq (aBl rfl) rfl (aV 18 (.int .i32 (-l)) (iE hneg) (wq (aE 1 dO rfl) rfl (wq (aL 0 (.int _ _) aW M1 rfl rfl rfl) rfl (cY rfl rfl rfl rfl ?_)))))
   refine wq (bX true (.bool (decide _)) rfl rfl) rfl (wq (aG (.bool (decide _)) rfl) rfl ?_)
   refine dH 23 rfl (fun g23 => ?_) (fun g23 => ?_)
   ·refine wq (aE 1 dO rfl) rfl (wq (aL 0 (.int _ _) aW M1 rfl rfl rfl) rfl (aY rfl rfl (cY rfl rfl rfl rfl (wq (bX true (.bool (decide _)) rfl rfl) rfl (wq (aI (.bool (decide _)) rfl) rfl ?_)))))
    refine aB (aC (aO (cD (.bool (decide _)) rfl ?_)))
    exact ⟨by first | exact bF (by omega) | exact bT (by omega) | exact bD (by omega), M1.below⟩
   ·refine aS rfl rfl (aS rfl rfl (aS rfl rfl (aS rfl rfl (wq (bX false (.bool false) rfl rfl) rfl (wq (aI (.bool false) rfl) rfl ?_)))))
    refine aB (aC (aO (cD (.bool false) rfl ?_)))
    exact ⟨by first | exact bF (by omega) | exact bT (by omega) | exact bD (by omega), M1.below⟩
  ·refine aS rfl rfl (aS rfl rfl (aS rfl rfl (aS rfl rfl (aS rfl rfl (wq (bX false (.bool false) rfl rfl) rfl ?_)))))
   refine wq (aG (.bool false) rfl) rfl (aS rfl rfl (aS rfl rfl (aS rfl rfl (aS rfl rfl (wq (bX false (.bool false) rfl rfl) rfl ?_)))))
   refine wq (aI (.bool false) rfl) rfl (aB (aC (aO (cD (.bool false) rfl ?_))))
   exact ⟨by first | exact bF (by omega) | exact bT (by omega) | exact bD (by omega), M1.below⟩
 ·refine aS rfl rfl (aS rfl rfl (aS rfl rfl (aS rfl rfl (wq (bX false (.bool false) rfl rfl) rfl (wq (aG (.bool false) rfl) rfl ?_)))))
  refine aS rfl rfl (aS rfl rfl (aS rfl rfl (aS rfl rfl (aS rfl rfl (wq (bX false (.bool false) rfl rfl) rfl ?_)))))
  refine wq (aG (.bool false) rfl) rfl (aS rfl rfl (aS rfl rfl (aS rfl rfl (aS rfl rfl (wq (bX false (.bool false) rfl rfl) rfl ?_)))))
  refine wq (aI (.bool false) rfl) rfl (aB (aC (aO (cD (.bool false) rfl ?_))))
  exact ⟨by first | exact bF (by omega) | exact bT (by omega) | exact bD (by omega), M1.below⟩
set_option maxHeartbeats 4000000 in
theorem aHw (w : World) (b : Body) (p : Nat) (R : Rd w 10 (some ⟨p, 0, none⟩) 1 [aF b]) :
  Calls Tryz.prog 137 #[.pointer (some ⟨p, 0, none⟩)] w (fun ex w' => ∃ v, ex = .returned v ∧ (fun v w' => v = .bool (decide (4096 ≤ b.radius ∧ b.radius ≤ 4194304)) ∧ Below w.heap.size w w') v w') := by
 rw [← eO p]
 refine aH #[.tmp 1] 10 Tryz.func137 rfl Tryz.results137 Tryz.ntmps137 rfl ?_
 have M0 := Mem.refl w
 refine aD (aA (wq (aI (.bool false) rfl) rfl (aB (aC (aD (aA (wq (bH 1 oB R (Nat.lt_of_le_of_lt (Nat.zero_le _) (R.below_len (show [aF b][0]? = some (aF b) from rfl))) rfl) rfl (wq (dS (o := 1) (.int _ _) aW R (show [aF b][0]? = some (aF b) from rfl) rfl rfl) rfl ?_))))))))
 refine cY rfl rfl rfl rfl (wq (aG (.bool (decide _)) rfl) rfl ?_)
 refine dH 5 rfl (fun g5 => ?_) (fun g5 => ?_)
 ·refine wq (bH 1 oB R (Nat.lt_of_le_of_lt (Nat.zero_le _) (R.below_len (show [aF b][0]? = some (aF b) from rfl))) rfl) rfl (wq (dS (o := 1) (.int _ _) aW R (show [aF b][0]? = some (aF b) from rfl) rfl rfl) rfl (cY rfl rfl rfl rfl (wq (bX true (.bool (decide _)) rfl rfl) rfl ?_)))
  refine wq (aI (.bool (decide _)) rfl) rfl (aB (aC (aO (cD (.bool (decide _)) rfl ?_))))
  exact ⟨by first | exact bF (by omega) | exact bT (by omega) | exact bD (by omega), M0.below⟩
 ·refine aS rfl rfl (aS rfl rfl (aS rfl rfl (wq (bX false (.bool false) rfl rfl) rfl (wq (aI (.bool false) rfl) rfl (aB (aC (aO ?_)))))))
  refine cD (.bool false) rfl ?_
  exact ⟨by first | exact bF (by omega) | exact bT (by omega) | exact bD (by omega), M0.below⟩
set_option maxHeartbeats 4000000 in
theorem aGm (w : World) (b : Body) (p : Nat) (R : Rd w 10 (some ⟨p, 0, none⟩) 1 [aF b]) :
  Calls Tryz.prog 138 #[.pointer (some ⟨p, 0, none⟩)] w (fun ex w' => ∃ v, ex = .returned v ∧ (fun v w' => v = .bool (decide (-4194304 ≤ b.ax ∧ b.ax ≤ 4194304 ∧ -4194304 ≤ b.ay ∧ b.ay ≤ 4194304)) ∧ Below w.heap.size w w') v w') := by
 rw [← eO p]
 refine aH #[.tmp 1] 5 Tryz.func138 rfl Tryz.results138 Tryz.ntmps138 rfl ?_
 have M0 := Mem.refl w
 refine aD (aA (wq (aI (.bool false) rfl) rfl (aB (aC (aD (aA (wq (bH 2 lB R (Nat.lt_of_le_of_lt (Nat.zero_le _) (R.below_len (show [aF b][0]? = some (aF b) from rfl))) rfl) rfl (wq (xN (o := 2) _ bL R (show [aF b][0]? = some (aF b) from rfl) rfl rfl rfl) rfl ?_))))))))
 refine cA aIs rfl rfl (qD _ _ _ _ (by omega) (by omega)) ?_
 rintro v1 w1 ⟨rfl, hb1⟩
 have M1 := M0.callB hb1
 refine wq (aI (.bool (decide _)) rfl) rfl (aB (aC (aO (cD (.bool (decide _)) rfl ?_))))
 exact ⟨by first | exact bF (by omega) | exact bT (by omega) | exact bD (by omega), M1.below⟩
set_option maxHeartbeats 4000000 in
theorem aFm (w : World) (b : Body) (p : Nat) (R : Rd w 10 (some ⟨p, 0, none⟩) 1 [aF b]) :
  Calls Tryz.prog 140 #[.pointer (some ⟨p, 0, none⟩)] w (fun ex w' => ∃ v, ex = .returned v ∧ (fun v w' => v = .bool (decide (0 ≤ b.mass ∧ b.mass ≤ 1048576)) ∧ Below w.heap.size w w') v w') := by
 rw [← eO p]
 refine aH #[.tmp 1] 10 Tryz.func140 rfl Tryz.results140 Tryz.ntmps140 rfl ?_
 have M0 := Mem.refl w
 refine aD (aA (wq (aI (.bool false) rfl) rfl (aB (aC (aD (aA (wq (bH 4 fH R (Nat.lt_of_le_of_lt (Nat.zero_le _) (R.below_len (show [aF b][0]? = some (aF b) from rfl))) rfl) rfl (wq (dS (o := 4) (.int _ _) aW R (show [aF b][0]? = some (aF b) from rfl) rfl rfl) rfl ?_))))))))
 refine cY rfl rfl rfl rfl (wq (aG (.bool (decide _)) rfl) rfl ?_)
 refine dH 5 rfl (fun g5 => ?_) (fun g5 => ?_)
 ·refine wq (bH 4 fH R (Nat.lt_of_le_of_lt (Nat.zero_le _) (R.below_len (show [aF b][0]? = some (aF b) from rfl))) rfl) rfl (wq (dS (o := 4) (.int _ _) aW R (show [aF b][0]? = some (aF b) from rfl) rfl rfl) rfl (cY rfl rfl rfl rfl (wq (bX true (.bool (decide _)) rfl rfl) rfl ?_)))
  refine wq (aI (.bool (decide _)) rfl) rfl (aB (aC (aO (cD (.bool (decide _)) rfl ?_))))
  exact ⟨by first | exact bF (by omega) | exact bT (by omega) | exact bD (by omega), M0.below⟩
 ·refine aS rfl rfl (aS rfl rfl (aS rfl rfl (wq (bX false (.bool false) rfl rfl) rfl (wq (aI (.bool false) rfl) rfl (aB (aC (aO ?_)))))))
  refine cD (.bool false) rfl ?_
  exact ⟨by first | exact bF (by omega) | exact bT (by omega) | exact bD (by omega), M0.below⟩
set_option maxHeartbeats 4000000 in
theorem aFw (w : World) (b : Body) (p : Nat) (R : Rd w 10 (some ⟨p, 0, none⟩) 1 [aF b]) :
  Calls Tryz.prog 141 #[.pointer (some ⟨p, 0, none⟩)] w (fun ex w' => ∃ v, ex = .returned v ∧ (fun v w' => v = .bool (decide (0 ≤ b.bounce ∧ b.bounce ≤ 65536)) ∧ Below w.heap.size w w') v w') := by
 rw [← eO p]
 refine aH #[.tmp 1] 10 Tryz.func141 rfl Tryz.results141 Tryz.ntmps141 rfl ?_
 have M0 := Mem.refl w
 refine aD (aA (wq (aI (.bool false) rfl) rfl (aB (aC (aD (aA (wq (bH 5 sN R (Nat.lt_of_le_of_lt (Nat.zero_le _) (R.below_len (show [aF b][0]? = some (aF b) from rfl))) rfl) rfl (wq (dS (o := 5) (.int _ _) aW R (show [aF b][0]? = some (aF b) from rfl) rfl rfl) rfl ?_))))))))
 refine cY rfl rfl rfl rfl (wq (aG (.bool (decide _)) rfl) rfl ?_)
 refine dH 5 rfl (fun g5 => ?_) (fun g5 => ?_)
 ·refine wq (bH 5 sN R (Nat.lt_of_le_of_lt (Nat.zero_le _) (R.below_len (show [aF b][0]? = some (aF b) from rfl))) rfl) rfl (wq (dS (o := 5) (.int _ _) aW R (show [aF b][0]? = some (aF b) from rfl) rfl rfl) rfl (cY rfl rfl rfl rfl (wq (bX true (.bool (decide _)) rfl rfl) rfl ?_)))
  refine wq (aI (.bool (decide _)) rfl) rfl (aB (aC (aO (cD (.bool (decide _)) rfl ?_))))
  exact ⟨by first | exact bF (by omega) | exact bT (by omega) | exact bD (by omega), M0.below⟩
 ·refine aS rfl rfl (aS rfl rfl (aS rfl rfl (wq (bX false (.bool false) rfl rfl) rfl (wq (aI (.bool false) rfl) rfl (aB (aC (aO ?_)))))))
  refine cD (.bool false) rfl ?_
  exact ⟨by first | exact bF (by omega) | exact bT (by omega) | exact bD (by omega), M0.below⟩
set_option maxHeartbeats 4000000 in
theorem aHq (w : World) (b : Body) (p : Nat) (R : Rd w 10 (some ⟨p, 0, none⟩) 1 [aF b]) :
  Calls Tryz.prog 142 #[.pointer (some ⟨p, 0, none⟩)] w (fun ex w' => ∃ v, ex = .returned v ∧ (fun v w' => v = .bool (decide (-1073741824 ≤ b.px ∧ b.px ≤ 1073741824 ∧ -1073741824 ≤ b.py ∧ b.py ≤ 1073741824)) ∧ Below w.heap.size w w') v w') := by
 rw [← eO p]
 refine aH #[.tmp 1] 5 Tryz.func142 rfl Tryz.results142 Tryz.ntmps142 rfl ?_
 have M0 := Mem.refl w
 refine aD (aA (wq (aI (.bool false) rfl) rfl (aB (aC (aD (aA (wq (bH 6 gU R (Nat.lt_of_le_of_lt (Nat.zero_le _) (R.below_len (show [aF b][0]? = some (aF b) from rfl))) rfl) rfl (wq (xN (o := 6) _ bL R (show [aF b][0]? = some (aF b) from rfl) rfl rfl rfl) rfl ?_))))))))
 refine cA aIs rfl rfl (qD _ _ _ _ (by omega) (by omega)) ?_
 rintro v1 w1 ⟨rfl, hb1⟩
 have M1 := M0.callB hb1
 refine wq (aI (.bool (decide _)) rfl) rfl (aB (aC (aO (cD (.bool (decide _)) rfl ?_))))
 exact ⟨by first | exact bF (by omega) | exact bT (by omega) | exact bD (by omega), M1.below⟩
set_option maxHeartbeats 4000000 in
theorem aGz (w : World) (b : Body) (p : Nat) (R : Rd w 10 (some ⟨p, 0, none⟩) 1 [aF b]) :
  Calls Tryz.prog 143 #[.pointer (some ⟨p, 0, none⟩)] w (fun ex w' => ∃ v, ex = .returned v ∧ (fun v w' => v = .bool (decide (-16777216 ≤ b.vx ∧ b.vx ≤ 16777216 ∧ -16777216 ≤ b.vy ∧ b.vy ≤ 16777216)) ∧ Below w.heap.size w w') v w') := by
 rw [← eO p]
 refine aH #[.tmp 1] 5 Tryz.func143 rfl Tryz.results143 Tryz.ntmps143 rfl ?_
 have M0 := Mem.refl w
 refine aD (aA (wq (aI (.bool false) rfl) rfl (aB (aC (aD (aA (wq (bH 8 fO R (Nat.lt_of_le_of_lt (Nat.zero_le _) (R.below_len (show [aF b][0]? = some (aF b) from rfl))) rfl) rfl (wq (xN (o := 8) _ bL R (show [aF b][0]? = some (aF b) from rfl) rfl rfl rfl) rfl ?_))))))))
 refine cA aIs rfl rfl (qD _ _ _ _ (by omega) (by omega)) ?_
 rintro v1 w1 ⟨rfl, hb1⟩
 have M1 := M0.callB hb1
 refine wq (aI (.bool (decide _)) rfl) rfl (aB (aC (aO (cD (.bool (decide _)) rfl ?_))))
 exact ⟨by first | exact bF (by omega) | exact bT (by omega) | exact bD (by omega), M1.below⟩
set_option maxHeartbeats 4000000 in
theorem rQ (w : World) (b : Body) :
  Calls Tryz.prog 102 #[(.agg (aF b).toArray)] w (fun ex w' => ∃ v, ex = .returned v ∧ (fun v w' => v = .int .i64 (check b) ∧ Below w.heap.size w w') v w') := by
 refine aH #[.tmp 2] 28 Tryz.func102 rfl Tryz.results102 Tryz.ntmps102 rfl ?_
 have M0 := Mem.refl w
 refine aD (aA (bE (.agg (List.toArray _)) M0 rfl rfl rfl (fun b1 w1 M1 => (bO rfl rfl (aB (aC (aD (aD (aA (wq (cL [] [.pointer _] rfl rfl) rfl (wq (cF [(0, .func _ _ _), (1, .int _ _)] _ lD rfl rfl) rfl ?_)))))))))))
 refine wq (cL [] [.pointer _] rfl rfl) rfl (wq (cF [(0, .func _ _ _), (1, .int _ _)] _ lD rfl rfl) rfl (wq (cL [] [.pointer _] rfl rfl) rfl (wq (cF [(0, .func _ _ _), (1, .int _ _)] _ lD rfl rfl) rfl (wq (cL [] [.pointer _] rfl rfl) rfl (wq (cF [(0, .func _ _ _), (1, .int _ _)] _ lD rfl rfl) rfl ?_)))))
 refine wq (cL [] [.pointer _] rfl rfl) rfl (wq (cF [(0, .func _ _ _), (1, .int _ _)] _ lD rfl rfl) rfl (wq (cL [] [.pointer _] rfl rfl) rfl (wq (cF [(0, .func _ _ _), (1, .int _ _)] _ lD rfl rfl) rfl (wq (pF [.agg (List.toArray _), .agg (List.toArray _), .agg (List.toArray _), .agg (List.toArray _), .agg (List.toArray _), .agg (List.toArray _)] rR bAt rfl rfl (dA rfl)) rfl ?_))))
 refine aY rfl rfl (aB (aC (aT (lN 7 (iI (aD (aA (cY rfl rfl rfl rfl (nU 19 rfl (by first | decide | omega) ?_)))))))))
 refine aB (aC (aD (cS rfl (aK (aC (aD (aT (aD (aA (wq (mT 0 _ rR kU rfl rfl (by decide) (by decide) rfl rfl) rfl (aQ qX M1 rfl rfl (fun b2 w2 M2 => (bC 1 _ kU M2 rfl rfl rfl rfl rfl (aR rfl) rfl (fun w3 M3 => ?_))))))))))))))
 refine aB (aC (aD (aA (wq (aE 0 nD rfl) rfl (wq (aL 1 (.func _ _ _) aBu M3 rfl rfl rfl) rfl (cA bEu rfl rfl (aHw _ b _ (mA 0 M3 rfl rfl)) ?_))))))
 rintro v4 w4 ⟨rfl, hb4⟩
 have M4 := M3.callB hb4
 refine wq (tI rfl) rfl (aB (aC ?_))
 refine bB rfl (fun h24 => ?_) (fun h24 => ?_)
 ·refine aD (aA (wq (aE 1 nT rfl) rfl (wq (aL 1 (.int _ _) nO M4 rfl rfl rfl) rfl (bO rfl rfl (aB (aC (aO (jS ?_))))))))
  refine cM (cM (jS (cM (cD (.int _ _) rfl ?_))))
  exact ⟨iE (aNx b (by omega)).symm, M4.below⟩
 ·refine aK (dE (aC (aA (wq (bQ rfl rfl (by first | decide | omega) (by first | decide | omega)) rfl (aV 27 (.int .i64 1) (iE (by first | decide | omega)) (aY rfl rfl ?_))))))
  refine aB (aC (iI (aD (aA (cY rfl rfl rfl rfl (nU 19 rfl (by first | decide | omega) (aB (aC (aD ?_)))))))))
  refine cS rfl (aK (aC (aD (aT (aD (aA (wq (mT 1 _ rR kU rfl rfl (by decide) (by decide) rfl rfl) rfl (aQ qX M4 rfl rfl (fun b5 w5 M5 => (bC 2 _ kU M5 rfl rfl rfl rfl rfl (aR rfl) rfl (fun w6 M6 => (aB (aC (aD (aA ?_)))))))))))))))
  refine wq (aE 0 nD rfl) rfl (wq (aL 2 (.func _ _ _) aBu M6 rfl rfl rfl) rfl (cA bCz rfl rfl (aGm _ b _ (mA 0 M6 rfl rfl)) ?_))
  rintro v7 w7 ⟨rfl, hb7⟩
  have M7 := M6.callB hb7
  refine wq (tI rfl) rfl (aB (aC ?_))
  refine bB rfl (fun h24 => ?_) (fun h24 => ?_)
  ·refine aD (aA (wq (aE 1 nT rfl) rfl (wq (aL 2 (.int _ _) nO M7 rfl rfl rfl) rfl (bO rfl rfl (aB (aC (aO (jS ?_))))))))
   refine cM (cM (jS (cM (cD (.int _ _) rfl ?_))))
   exact ⟨iE (aMk b (by omega) (by omega)).symm, M7.below⟩
  ·refine aK (dE (aC (aA (wq (bQ rfl rfl (by first | decide | omega) (by first | decide | omega)) rfl (aV 27 (.int .i64 2) (iE (by first | decide | omega)) (aY rfl rfl ?_))))))
   refine aB (aC (iI (aD (aA (cY rfl rfl rfl rfl (nU 19 rfl (by first | decide | omega) (aB (aC (aD ?_)))))))))
   refine cS rfl (aK (aC (aD (aT (aD (aA (wq (mT 2 _ rR kU rfl rfl (by decide) (by decide) rfl rfl) rfl (aQ qX M7 rfl rfl (fun b8 w8 M8 => (bC 3 _ kU M8 rfl rfl rfl rfl rfl (aR rfl) rfl (fun w9 M9 => (aB (aC (aD (aA ?_)))))))))))))))
   refine wq (aE 0 nD rfl) rfl (wq (aL 3 (.func _ _ _) aBu M9 rfl rfl rfl) rfl (cA bEj rfl rfl (aFm _ b _ (mA 0 M9 rfl rfl)) ?_))
   rintro v10 w10 ⟨rfl, hb10⟩
   have M10 := M9.callB hb10
   refine wq (tI rfl) rfl (aB (aC ?_))
   refine bB rfl (fun h24 => ?_) (fun h24 => ?_)
   ·refine aD (aA (wq (aE 1 nT rfl) rfl (wq (aL 3 (.int _ _) nO M10 rfl rfl rfl) rfl (bO rfl rfl (aB (aC (aO (jS ?_))))))))
    refine cM (cM (jS (cM (cD (.int _ _) rfl ?_))))
    exact ⟨iE (aMz b (by omega) (by omega) (by omega)).symm, M10.below⟩
   ·refine aK (dE (aC (aA (wq (bQ rfl rfl (by first | decide | omega) (by first | decide | omega)) rfl (aV 27 (.int .i64 3) (iE (by first | decide | omega)) (aY rfl rfl ?_))))))
    refine aB (aC (iI (aD (aA (cY rfl rfl rfl rfl (nU 19 rfl (by first | decide | omega) (aB (aC (aD ?_)))))))))
    refine cS rfl (aK (aC (aD (aT (aD (aA (wq (mT 3 _ rR kU rfl rfl (by decide) (by decide) rfl rfl) rfl (aQ qX M10 rfl rfl (fun b11 w11 M11 => (bC 4 _ kU M11 rfl rfl rfl rfl rfl (aR rfl) rfl (fun w12 M12 => (aB (aC (aD (aA ?_)))))))))))))))
    refine wq (aE 0 nD rfl) rfl (wq (aL 4 (.func _ _ _) aBu M12 rfl rfl rfl) rfl (cA bGg rfl rfl (aFw _ b _ (mA 0 M12 rfl rfl)) ?_))
    rintro v13 w13 ⟨rfl, hb13⟩
    have M13 := M12.callB hb13
    refine wq (tI rfl) rfl (aB (aC ?_))
    refine bB rfl (fun h24 => ?_) (fun h24 => ?_)
    ·refine aD (aA (wq (aE 1 nT rfl) rfl (wq (aL 4 (.int _ _) nO M13 rfl rfl rfl) rfl (bO rfl rfl (aB (aC (aO (jS ?_))))))))
     refine cM (cM (jS (cM (cD (.int _ _) rfl ?_))))
     exact ⟨iE (aMw b (by omega) (by omega) (by omega) (by omega)).symm, M13.below⟩
    ·refine aK (dE (aC (aA (wq (bQ rfl rfl (by first | decide | omega) (by first | decide | omega)) rfl (aV 27 (.int .i64 4) (iE (by first | decide | omega)) (aY rfl rfl ?_))))))
     refine aB (aC (iI (aD (aA (cY rfl rfl rfl rfl (nU 19 rfl (by first | decide | omega) (aB (aC (aD ?_)))))))))
     refine cS rfl (aK (aC (aD (aT (aD (aA (wq (mT 4 _ rR kU rfl rfl (by decide) (by decide) rfl rfl) rfl (aQ qX M13 rfl rfl (fun b14 w14 M14 => (bC 5 _ kU M14 rfl rfl rfl rfl rfl (aR rfl) rfl (fun w15 M15 => (aB (aC (aD (aA ?_)))))))))))))))
     refine wq (aE 0 nD rfl) rfl (wq (aL 5 (.func _ _ _) aBu M15 rfl rfl rfl) rfl (cA bGj rfl rfl (aHq _ b _ (mA 0 M15 rfl rfl)) ?_))
     rintro v16 w16 ⟨rfl, hb16⟩
     have M16 := M15.callB hb16
     refine wq (tI rfl) rfl (aB (aC ?_))
     refine bB rfl (fun h24 => ?_) (fun h24 => ?_)
     ·refine aD (aA (wq (aE 1 nT rfl) rfl (wq (aL 5 (.int _ _) nO M16 rfl rfl rfl) rfl (bO rfl rfl (aB (aC (aO (jS ?_))))))))
      refine cM (cM (jS (cM (cD (.int _ _) rfl ?_))))
      exact ⟨iE (aMb b (by omega) (by omega) (by omega) (by omega) (by omega)).symm, M16.below⟩
     ·refine aK (dE (aC (aA (wq (bQ rfl rfl (by first | decide | omega) (by first | decide | omega)) rfl (aV 27 (.int .i64 5) (iE (by first | decide | omega)) (aY rfl rfl ?_))))))
      refine aB (aC (iI (aD (aA (cY rfl rfl rfl rfl (nU 19 rfl (by first | decide | omega) (aB (aC (aD ?_)))))))))
      refine cS rfl (aK (aC (aD (aT (aD (aA (wq (mT 5 _ rR kU rfl rfl (by decide) (by decide) rfl rfl) rfl (aQ qX M16 rfl rfl (fun b17 w17 M17 => (bC 6 _ kU M17 rfl rfl rfl rfl rfl (aR rfl) rfl (fun w18 M18 => (aB (aC (aD (aA ?_)))))))))))))))
      refine wq (aE 0 nD rfl) rfl (wq (aL 6 (.func _ _ _) aBu M18 rfl rfl rfl) rfl (cA bEs rfl rfl (aGz _ b _ (mA 0 M18 rfl rfl)) ?_))
      rintro v19 w19 ⟨rfl, hb19⟩
      have M19 := M18.callB hb19
      refine wq (tI rfl) rfl (aB (aC ?_))
      refine bB rfl (fun h24 => ?_) (fun h24 => ?_)
      ·refine aD (aA (wq (aE 1 nT rfl) rfl (wq (aL 6 (.int _ _) nO M19 rfl rfl rfl) rfl (bO rfl rfl (aB (aC (aO (jS ?_))))))))
       refine cM (cM (jS (cM (cD (.int _ _) rfl ?_))))
       exact ⟨iE (aNq b (by omega) (by omega) (by omega) (by omega) (by omega) (by omega)).symm, M19.below⟩
      ·refine aK (dE (aC (aA (wq (bQ rfl rfl (by first | decide | omega) (by first | decide | omega)) rfl (aV 27 (.int .i64 6) (iE (by first | decide | omega)) (aY rfl rfl ?_))))))
       refine aB (aC (iI (aD (aA (cY rfl rfl rfl rfl (tS 19 rfl (by first | decide | omega) (aB (aC (aD ?_)))))))))
       refine bY rfl (cQ (dC (dC (eT (aC (aD (aA (bO rfl rfl ?_))))))))
       refine aB (aC (aO (cD (.int _ _) rfl ?_)))
       exact ⟨iE (aZd b (by omega) (by omega) (by omega) (by omega) (by omega) (by omega)).symm, M19.below⟩
set_option maxHeartbeats 4000000 in
theorem vK (w : World) (x : Int) :
  Calls Tryz.prog 151 #[.int .u32 x] w (fun ex w' => ∃ v, ex = .returned v ∧ (fun v w' => v = .bool false ∧ w' = w) v w') := by
 refine aH #[.tmp 2] 6 Tryz.func151 rfl Tryz.results151 Tryz.ntmps151 rfl ?_
 have M0 := Mem.refl w
 refine aD (aA (wq (aI (.bool false) rfl) rfl (aB (aC (aD (aA (aY rfl rfl (aY rfl rfl (cY rfl rfl rfl rfl ?_)))))))))
 refine wq (aI (.bool (decide _)) rfl) rfl (aB (aC (aO (cD (.bool (decide _)) rfl ?_))))
 exact ⟨(bF (by omega)).symm, rfl⟩
set_option maxHeartbeats 4000000 in
theorem kH (w : World) (x y : Int) :
  Calls Tryz.prog 116 #[.int .u32 x, .int .u32 y] w (fun ex w' => ∃ v, ex = .returned v ∧ (fun v w' => v = .int .i64 (lU x y) ∧ w' = w) v w') := by
 refine aH #[.tmp 4] 20 Tryz.func116 rfl Tryz.results116 Tryz.ntmps116 rfl ?_
 have M0 := Mem.refl w
 refine aD (aA (bO rfl rfl (aB (aC (aD (aA (aY rfl rfl (cA aSc rfl rfl (vK _ _) ?_))))))))
 rintro v1 w1 ⟨rfl, rfl⟩
 have M1 : Mem _ _ [] _ := M0
 refine wq (aI (.bool false) rfl) rfl (aB (aC (aD (aA (aY rfl rfl (cA aSc rfl rfl (vK _ _) ?_))))))
 rintro v2 w2 ⟨rfl, rfl⟩
 have M2 : Mem _ _ [] _ := M1
 refine wq (aI (.bool false) rfl) rfl (aB (aC (aD (aD (aA (wq (aG (.bool false) rfl) rfl (aB (aC (bY rfl (aK (aC (aD (aD (aA ?_))))))))))))))
 refine wq (aG (.bool false) rfl) rfl (aB (aC (bY rfl (aK (aC (aD (aD (aA (aY rfl rfl (aY rfl rfl ?_))))))))))
 refine cY rfl rfl rfl rfl (aB (aC ?_))
 refine bB rfl (fun h16 => ?_) (fun h16 => ?_)
 ·refine aD (aA (bO rfl rfl (aB (aC (aO (cM (cD (.int _ _) rfl ?_)))))))
  exact ⟨iE (by unfold lU; (repeat' split) <;> omega), rfl⟩
 ·refine aK (aC (aD (aD (aA (aY rfl rfl (aY rfl rfl (cY rfl rfl rfl rfl (aB (aC ?_)))))))))
  refine bB rfl (fun h19 => ?_) (fun h19 => ?_)
  ·refine aD (aA (bO rfl rfl (aB (aC (aO (cM (cD (.int _ _) rfl ?_)))))))
   exact ⟨iE (by unfold lU; (repeat' split) <;> omega), rfl⟩
  ·refine aK (aC (aD (aA (bO rfl rfl (aB (aC (aO (cD (.int _ _) rfl ?_))))))))
   exact ⟨iE (by unfold lU; (repeat' split) <;> omega), rfl⟩
set_option maxHeartbeats 4000000 in
theorem aBe (a b : Body) (w : World) :
  Calls Tryz.prog 115 #[(.agg (aF a).toArray), (.agg (aF b).toArray)] w (fun ex w' => ∃ v, ex = .returned v ∧ (fun v w' => v = .int .i64 (lU a.key b.key) ∧ ∃ q os, w' = Go.Sort.grow (w.drewN q) os) v w') := by
 refine aH #[.tmp 4] 10 Tryz.func115 rfl Tryz.results115 Tryz.ntmps115 rfl ?_
 have M0 := Mem.refl w
 refine aD (aA (wT (.agg (List.toArray _)) M0 rfl rfl rfl (fun M1 => (wT (.agg (List.toArray _)) M1 rfl rfl rfl (fun M2 => (bO rfl rfl (aB (aC (aD (aA (wq (aE 0 fB rfl) rfl ?_)))))))))))
 refine wq (aL 0 (.int _ _) bZ M2 rfl rfl rfl) rfl (wq (aE 0 fB rfl) rfl (wq (aL 1 (.int _ _) bZ M2 rfl rfl rfl) rfl (cA aFe rfl rfl (kH _ _ _) ?_)))
 rintro v3 w3 ⟨rfl, rfl⟩
 have M3 : Mem _ _ [_, _] _ := M2
 refine bO rfl rfl (aB (aC (aO (cD (.int _ _) rfl ?_))))
 exact ⟨rfl, bHw _ _ _⟩
set_option maxHeartbeats 4000000 in
theorem aBa (w : World) (A : Option Addr) (n c : Nat) (ls : List (List Value)) (R : Rd w 10 A n ls) (h1 : ∀ y ∈ ls, ∀ u ∈ y, one u = true) (hn : n ≤ 1048576) :
  Calls Tryz.prog 64 #[.slice A n c] w (fun ex w' => ∃ v, ex = .returned v ∧ (fun v w' => ∃ A' n' c' e, v = .slice A' n' c' ∧ aU 39 10 A' n' c' ls e ∧ Mem w [] [e] w' ∧ A'.isSome = A.isSome) v w') := by
 refine aH #[.tmp 2] 8 Tryz.func64 rfl Tryz.results64 Tryz.ntmps64 rfl ?_
 have M0 := Mem.refl w
 refine aD (aA (fJ rfl rfl (aB (aC (aD (aD (aA (dV rfl rfl (wq (aFh _ Tryz.underlying29 rfl rfl) rfl (aB (aC ?_)))))))))))
 refine iJ _ rfl (fun h4 => ?_) (fun h4 => ?_)
 ·refine aD (aA (fJ rfl rfl (aB (aC (aO (cM (cD (.slice _ _ _) rfl ?_)))))))
  have hA : A = none := by cases A <;> simp_all
  have hl : ls = [] := by
   rcases Nat.eq_zero_or_pos n with h | h
   ·subst h; exact List.eq_nil_of_length_eq_zero R.len
   ·have := R.some h; rw [hA] at this; cases this
  subst hA; subst hl
  exact ⟨_, _, _, _, rfl, aU.nil 39 10 default, M0.dummy default, rfl⟩
 ·refine aK (aC (aD (aA (cT [] [] rfl fG M0 rfl rfl rfl rfl (dA rfl) (by decide) (fun b1 w1 M1 => (dV rfl rfl (aLp 0 ls fG M1 rfl rfl rfl rfl rfl (aU.empty b1) (R.mem M1) h1 (by omega) (fun A2 c2 e2 w2 M2 hR2 hA2 => ?_))))))))
  have hAA := hA2
  refine fJ rfl rfl (aB (aC (aO (cD (.slice _ _ _) rfl ?_))))
  refine ⟨_, _, _, _, rfl, by simpa using hR2, M2, ?_⟩
  rw [hAA rfl]; cases A <;> simp_all
end Go.Proofs.YtaoaknafiegfoaaGreatDoor
