/- Part of the proof of the laws of this seat: Ty, T26, T25, T20, T20r, T20l, T21, T22, T23, T23l, R5, R6, Bd, Lib, St. No conditions. -/
import Derived.Test.YtaoaknafiegfoaaGreatDoorProg
import Derived.Test.YtaoaknafiegfoaaGreatDoorK2
import Derived.Test.YtaoaknafiegfoaaGreatDoorK3
import Derived.Test.YtaoaknafiegfoaaGreatDoorK4
import Derived.KernelRfl
set_option linter.unusedVariables false
set_option linter.unusedSimpArgs false
set_option linter.unnecessarySimpa false
namespace Go.Proofs.YtaoaknafiegfoaaGreatDoor
open Go.Bil
open Go.Proofs
theorem bY : fO Tryz.prog 35 = true := by kernel_rfl
theorem aW : fO Tryz.prog 21 = true := by kernel_rfl
theorem aVx : ∀ (d : Nat) (w : World) (x0 x1 y0 y1 : Int), (Op.equalIn (d + 2) 37 (.agg [.int .i32 x0, .int .i32 x1].toArray) (.agg [.int .i32 y0, .int .i32 y1].toArray)).run Tryz.prog w = .ok (decide (x0 = y0 ∧ x1 = y1)) w := fun d w x0 x1 y0 y1 => by
  have h := tR (P := Tryz.prog) (T := 37) (dd := d + 1) (xs := [.int .i32 x0, .int .i32 x1]) (ys := [.int .i32 y0, .int .i32 y1]) (w := w) Tryz.underlying37 (by kernel_rfl) (gU rfl (jJ aW rfl) (jJ aW rfl) (oX (dd := d + 0) Tryz.underlying21) (gU rfl (jJ aW rfl) (jJ aW rfl) (oX (dd := d + 0) Tryz.underlying21) (aEr)))
  refine h.trans (congrArg (fun r => Result.ok r w) ?_)
  simp only [Bool.decide_and, Bool.and_true, Bool.and_assoc]
theorem bJ : gJ Tryz.prog 37 = some 2 := by kernel_rfl
theorem bGt : ∀ (d : Nat) (w : World) (x0 x1 x2 x3 x4 x5 x6 x7 x8 x9 y0 y1 y2 y3 y4 y5 y6 y7 y8 y9 : Int), (Op.equalIn (d + 3) 39 (.agg [.int .u32 x0, .int .i32 x1, .int .i32 x2, .int .i32 x3, .int .i32 x4, .int .i32 x5, .int .i32 x6, .int .i32 x7, .int .i32 x8, .int .i32 x9].toArray) (.agg [.int .u32 y0, .int .i32 y1, .int .i32 y2, .int .i32 y3, .int .i32 y4, .int .i32 y5, .int .i32 y6, .int .i32 y7, .int .i32 y8, .int .i32 y9].toArray)).run Tryz.prog w = .ok (decide (x0 = y0 ∧ x1 = y1 ∧ x2 = y2 ∧ x3 = y3 ∧ x4 = y4 ∧ x5 = y5 ∧ x6 = y6 ∧ x7 = y7 ∧ x8 = y8 ∧ x9 = y9)) w := fun d w x0 x1 x2 x3 x4 x5 x6 x7 x8 x9 y0 y1 y2 y3 y4 y5 y6 y7 y8 y9 => by
  have h := tR (P := Tryz.prog) (T := 39) (dd := d + 2) (xs := [.int .u32 x0, .int .i32 x1, .int .i32 x2, .int .i32 x3, .int .i32 x4, .int .i32 x5, .int .i32 x6, .int .i32 x7, .int .i32 x8, .int .i32 x9]) (ys := [.int .u32 y0, .int .i32 y1, .int .i32 y2, .int .i32 y3, .int .i32 y4, .int .i32 y5, .int .i32 y6, .int .i32 y7, .int .i32 y8, .int .i32 y9]) (w := w) Tryz.underlying39 (by kernel_rfl) (gU rfl (jJ bY rfl) (jJ bY rfl) (oX (dd := d + 1) Tryz.underlying35) (gU rfl (jJ aW rfl) (jJ aW rfl) (oX (dd := d + 1) Tryz.underlying21) (gU rfl (xI bJ rfl) (xI bJ rfl) (aVx (d + 0) w x2 x3 y2 y3) (gU rfl (jJ aW rfl) (jJ aW rfl) (oX (dd := d + 1) Tryz.underlying21) (gU rfl (jJ aW rfl) (jJ aW rfl) (oX (dd := d + 1) Tryz.underlying21) (gU rfl (xI bJ rfl) (xI bJ rfl) (aVx (d + 0) w x6 x7 y6 y7) (gU rfl (xI bJ rfl) (xI bJ rfl) (aVx (d + 0) w x8 x9 y8 y9) (aEr))))))))
  refine h.trans (congrArg (fun r => Result.ok r w) ?_)
  simp only [Bool.decide_and, Bool.and_true, Bool.and_assoc]
theorem bGz : ∀ (x0 x1 x2 x3 x4 x5 x6 x7 x8 x9 y0 y1 y2 y3 y4 y5 y6 y7 y8 y9 : Int), EqA Tryz.prog 39 [.int .u32 x0, .int .i32 x1, .int .i32 x2, .int .i32 x3, .int .i32 x4, .int .i32 x5, .int .i32 x6, .int .i32 x7, .int .i32 x8, .int .i32 x9] [.int .u32 y0, .int .i32 y1, .int .i32 y2, .int .i32 y3, .int .i32 y4, .int .i32 y5, .int .i32 y6, .int .i32 y7, .int .i32 y8, .int .i32 y9] (decide (x0 = y0 ∧ x1 = y1 ∧ x2 = y2 ∧ x3 = y3 ∧ x4 = y4 ∧ x5 = y5 ∧ x6 = y6 ∧ x7 = y7 ∧ x8 = y8 ∧ x9 = y9)) := fun x0 x1 x2 x3 x4 x5 x6 x7 x8 x9 y0 y1 y2 y3 y4 y5 y6 y7 y8 y9 => ⟨by kernel_rfl, fun w => bGt 9997 w x0 x1 x2 x3 x4 x5 x6 x7 x8 x9 y0 y1 y2 y3 y4 y5 y6 y7 y8 y9⟩
theorem bR : gJ Tryz.prog 39 = some 10 := by kernel_rfl
theorem bEk : aO Tryz.prog 115 = true := by kernel_rfl
theorem bEu : ∀ (d : Nat) (w : World) (x0 x1 y0 y1 : Int), (Op.equalIn (d + 2) 209 (.agg [.int .u32 x0, .int .u32 x1].toArray) (.agg [.int .u32 y0, .int .u32 y1].toArray)).run Tryz.prog w = .ok (decide (x0 = y0 ∧ x1 = y1)) w := fun d w x0 x1 y0 y1 => by
  have h := tR (P := Tryz.prog) (T := 209) (dd := d + 1) (xs := [.int .u32 x0, .int .u32 x1]) (ys := [.int .u32 y0, .int .u32 y1]) (w := w) Tryz.underlying209 (by kernel_rfl) (gU rfl (jJ bY rfl) (jJ bY rfl) (oX (dd := d + 0) Tryz.underlying35) (gU rfl (jJ bY rfl) (jJ bY rfl) (oX (dd := d + 0) Tryz.underlying35) (aEr)))
  refine h.trans (congrArg (fun r => Result.ok r w) ?_)
  simp only [Bool.decide_and, Bool.and_true, Bool.and_assoc]
theorem bEq : ∀ (x0 x1 y0 y1 : Int), EqA Tryz.prog 209 [.int .u32 x0, .int .u32 x1] [.int .u32 y0, .int .u32 y1] (decide (x0 = y0 ∧ x1 = y1)) := fun x0 x1 y0 y1 => ⟨by kernel_rfl, fun w => bEu 9998 w x0 x1 y0 y1⟩
theorem gA : gJ Tryz.prog 209 = some 2 := by kernel_rfl
theorem bCs : aO Tryz.prog 213 = true := by kernel_rfl
theorem bHy : jI Tryz.prog 209 = some (.agg [.int .u32 0, .int .u32 0].toArray) := by kernel_rfl
theorem iM : fO Tryz.prog 3 = true := by kernel_rfl
theorem mW : fO Tryz.prog 4 = true := by kernel_rfl
theorem nQ : dU Tryz.prog 39 1 1 = true := by kernel_rfl
theorem kW : dU Tryz.prog 39 2 2 = true := by kernel_rfl
theorem dT : dU Tryz.prog 37 0 0 = true := by kernel_rfl
theorem dN : dU Tryz.prog 37 1 1 = true := by kernel_rfl
theorem fG : dU Tryz.prog 39 3 4 = true := by kernel_rfl
theorem sV : dU Tryz.prog 39 4 5 = true := by kernel_rfl
theorem gQ : dU Tryz.prog 39 5 6 = true := by kernel_rfl
theorem fM : dU Tryz.prog 39 6 8 = true := by kernel_rfl
theorem fE : eF Tryz.prog 29 39 10 40 = true := by kernel_rfl
theorem eX : dU Tryz.prog 39 0 0 = true := by kernel_rfl
theorem mixed : Tryz.prog.follows .mixedOrders = true := by kernel_rfl
theorem aKi : aO Tryz.prog 139 = true := by kernel_rfl
theorem kX : fH Tryz.prog 194 [.nilFunc, .int .i64 0] [(0, 1), (1, 1)] := dS Tryz.underlying194 (by kernel_rfl) (by kernel_rfl) (by kernel_rfl)
theorem rT : wA Tryz.prog 196 6 194 2 = true := by kernel_rfl
theorem bAj : fI Tryz.prog 196 = some [.nilFunc, .int .i64 0, .nilFunc, .int .i64 0, .nilFunc, .int .i64 0, .nilFunc, .int .i64 0, .nilFunc, .int .i64 0, .nilFunc, .int .i64 0] := by kernel_rfl
theorem kQ : gJ Tryz.prog 194 = some 2 := by kernel_rfl
theorem qC : fI Tryz.prog 194 = some [.nilFunc, .int .i64 0] := by kernel_rfl
theorem mX : dU Tryz.prog 194 0 0 = true := by kernel_rfl
theorem aCr : fO Tryz.prog 23 = true := by kernel_rfl
theorem bDe : aO Tryz.prog 137 = true := by kernel_rfl
theorem nD : dU Tryz.prog 194 1 1 = true := by kernel_rfl
theorem oY : fO Tryz.prog 30 = true := by kernel_rfl
theorem bCe : aO Tryz.prog 138 = true := by kernel_rfl
theorem bCt : aO Tryz.prog 140 = true := by kernel_rfl
theorem bEr : aO Tryz.prog 141 = true := by kernel_rfl
theorem bEh : aO Tryz.prog 142 = true := by kernel_rfl
theorem bDu : aO Tryz.prog 143 = true := by kernel_rfl
theorem aJq : aO Tryz.prog 102 = true := by kernel_rfl
theorem iY : dU Tryz.prog 103 1 1 = true := by kernel_rfl
theorem mN : fO Tryz.prog 101 = true := by kernel_rfl
theorem pR : uJ Tryz.prog 101 35 3 .u32 = true := by kernel_rfl
theorem zv3 : jI Tryz.prog 3 = some (.int .i64 0) := by kernel_rfl
theorem eT : dU Tryz.prog 103 0 0 = true := by kernel_rfl
theorem fB : fO Tryz.prog 29 = true := by kernel_rfl
theorem iD : fI Tryz.prog 39 = some [.int .u32 0, .int .i32 0, .int .i32 0, .int .i32 0, .int .i32 0, .int .i32 0, .int .i32 0, .int .i32 0, .int .i32 0, .int .i32 0] := by kernel_rfl
theorem aGp : fH Tryz.prog 39 [.int .u32 0, .int .i32 0, .int .i32 0, .int .i32 0, .int .i32 0, .int .i32 0, .int .i32 0, .int .i32 0, .int .i32 0, .int .i32 0] [(0, 1), (1, 1), (2, 2), (4, 1), (5, 1), (6, 2), (8, 2)] := dS Tryz.underlying39 (by kernel_rfl) (by kernel_rfl) (by kernel_rfl)
theorem aRs : aO Tryz.prog 151 = true := by kernel_rfl
theorem aEq : aO Tryz.prog 116 = true := by kernel_rfl
theorem bHh : aO Tryz.prog 64 = true := by kernel_rfl
theorem bFt : aO Tryz.prog 114 = true := by kernel_rfl
theorem bDz : aO Tryz.prog 119 = true := by kernel_rfl
theorem us3 : (Tryz.prog.underlying 3).isSome = true := by kernel_rfl
theorem bIg : (Tryz.prog.underlying 178).isSome = true := by kernel_rfl
theorem aVt : aO Tryz.prog 188 = true := by kernel_rfl
theorem bCv : aO Tryz.prog 187 = true := by kernel_rfl
theorem aRe : aO Tryz.prog 253 = true := by kernel_rfl
theorem aEm : fI Tryz.prog 253 = some [.int .i32 0, .int .i32 0, .int .i32 0, .int .i32 0] := by kernel_rfl
theorem bEd : aO Tryz.prog 229 = true := by kernel_rfl
theorem aCs : fH Tryz.prog 253 [.int .i32 0, .int .i32 0, .int .i32 0, .int .i32 0] [(0, 1), (1, 1), (2, 1), (3, 1)] := dS Tryz.underlying253 (by kernel_rfl) (by kernel_rfl) (by kernel_rfl)
theorem iU : gJ Tryz.prog 253 = some 4 := by kernel_rfl
theorem sM : dU Tryz.prog 253 0 0 = true := by kernel_rfl
theorem sZ : dU Tryz.prog 253 2 2 = true := by kernel_rfl
theorem sI : dU Tryz.prog 253 1 1 = true := by kernel_rfl
theorem sO : dU Tryz.prog 253 3 3 = true := by kernel_rfl
theorem aIm : aO Tryz.prog 231 = true := by kernel_rfl
theorem bFf : aO Tryz.prog 232 = true := by kernel_rfl
theorem oE : fI Tryz.prog 283 = some [.int .i32 0, .int .i32 0] := by kernel_rfl
theorem aBs : fH Tryz.prog 283 [.int .i32 0, .int .i32 0] [(0, 1), (1, 1)] := dS Tryz.underlying283 (by kernel_rfl) (by kernel_rfl) (by kernel_rfl)
theorem gO : gJ Tryz.prog 283 = some 2 := by kernel_rfl
theorem fY : fH Tryz.prog 37 [.int .i32 0, .int .i32 0] [(0, 1), (1, 1)] := dS Tryz.underlying37 (by kernel_rfl) (by kernel_rfl) (by kernel_rfl)
theorem aVu : aO Tryz.prog 267 = true := by kernel_rfl
theorem bDr : aO Tryz.prog 254 = true := by kernel_rfl
theorem aMs : fI Tryz.prog 4 = some [.bool false] := by kernel_rfl
theorem xX : dU Tryz.prog 283 1 1 = true := by kernel_rfl
theorem xO : dU Tryz.prog 283 0 0 = true := by kernel_rfl
theorem aZr : fI Tryz.prog 281 = some [.slice none 0 0] := by kernel_rfl
theorem bEl : aO Tryz.prog 230 = true := by kernel_rfl
theorem bEi : aO Tryz.prog 255 = true := by kernel_rfl
theorem aJu : fO Tryz.prog 281 = true := by kernel_rfl
theorem aQy : eF Tryz.prog 281 283 2 8 = true := by kernel_rfl
theorem fR : (Tryz.prog.underlying 21).isSome = true := by kernel_rfl
theorem aWh : wA Tryz.prog 323 2 35 1 = true := by kernel_rfl
theorem rI : (Tryz.prog.underlying 35).isSome = true := by kernel_rfl
theorem bEp : aO Tryz.prog 245 = true := by kernel_rfl
theorem us2 : (Tryz.prog.underlying 2).isSome = true := by kernel_rfl
theorem aBm : (Tryz.prog.underlying 237).isSome = true := by kernel_rfl
theorem pI : aO Tryz.prog 222 = true := by kernel_rfl
theorem aKs : aO Tryz.prog 221 = true := by kernel_rfl
theorem aTg : aO Tryz.prog 223 = true := by kernel_rfl
theorem aDf : aO Tryz.prog 224 = true := by kernel_rfl
theorem aDq : aO Tryz.prog 246 = true := by kernel_rfl
theorem aTh : aO Tryz.prog 240 = true := by kernel_rfl
theorem aLd : aO Tryz.prog 216 = true := by kernel_rfl
theorem bBp : aO Tryz.prog 242 = true := by kernel_rfl
theorem gC : fI Tryz.prog 37 = some [.int .i32 0, .int .i32 0] := by kernel_rfl
theorem aVm : aO Tryz.prog 218 = true := by kernel_rfl
theorem aUr : aO Tryz.prog 241 = true := by kernel_rfl
theorem xK : aO Tryz.prog 239 = true := by kernel_rfl
theorem lC : fO Tryz.prog 2 = true := by kernel_rfl
theorem aDm : aO Tryz.prog 189 = true := by kernel_rfl
theorem bDd : aO Tryz.prog 282 = true := by kernel_rfl
theorem xL : fI Tryz.prog 2 = some [.int .i64 0] := by kernel_rfl
theorem aUp : aO Tryz.prog 283 = true := by kernel_rfl
theorem pO : fO Tryz.prog 237 = true := by kernel_rfl
theorem aWz : fI Tryz.prog 237 = some [.int .u64 0] := by kernel_rfl
theorem uH : wA Tryz.prog 369 2 37 2 = true := by kernel_rfl
theorem aMa : fI Tryz.prog 369 = some [.int .i32 0, .int .i32 0, .int .i32 0, .int .i32 0] := by kernel_rfl
theorem aEa : aO Tryz.prog 277 = true := by kernel_rfl
theorem aDk : aO Tryz.prog 276 = true := by kernel_rfl
theorem bBq : aO Tryz.prog 259 = true := by kernel_rfl
theorem sY : fI Tryz.prog 296 = some [.int .u32 0, .int .i32 0, .int .i32 0, .int .i32 0, .int .i32 0, .int .i32 0, .int .i32 0, .int .i32 0, .int .i32 0, .int .i32 0, .int .i32 0, .int .i32 0, .int .i32 0, .int .i32 0] := by kernel_rfl
theorem bDo : aO Tryz.prog 258 = true := by kernel_rfl
theorem aQx : fH Tryz.prog 296 [.int .u32 0, .int .i32 0, .int .i32 0, .int .i32 0, .int .i32 0, .int .i32 0, .int .i32 0, .int .i32 0, .int .i32 0, .int .i32 0, .int .i32 0, .int .i32 0, .int .i32 0, .int .i32 0] [(0, 10), (10, 2), (12, 2)] := dS Tryz.underlying296 (by kernel_rfl) (by kernel_rfl) (by kernel_rfl)
theorem kM : gJ Tryz.prog 296 = some 14 := by kernel_rfl
theorem aEn : aO Tryz.prog 237 = true := by kernel_rfl
theorem aHm : dU Tryz.prog 296 1 10 = true := by kernel_rfl
theorem aHb : dU Tryz.prog 296 2 12 = true := by kernel_rfl
theorem bDy : aO Tryz.prog 238 = true := by kernel_rfl
theorem sU : dU Tryz.prog 296 0 0 = true := by kernel_rfl
theorem sK : fI Tryz.prog 211 = some [.int .u32 0, .int .u32 0, .int .i32 0, .int .i32 0, .int .i32 0] := by kernel_rfl
theorem bBt : aO Tryz.prog 214 = true := by kernel_rfl
theorem bFj : aO Tryz.prog 215 = true := by kernel_rfl
theorem aCn : fH Tryz.prog 211 [.int .u32 0, .int .u32 0, .int .i32 0, .int .i32 0, .int .i32 0] [(0, 2), (2, 2), (4, 1)] := dS Tryz.underlying211 (by kernel_rfl) (by kernel_rfl) (by kernel_rfl)
theorem gH : gJ Tryz.prog 211 = some 5 := by kernel_rfl
theorem aCj : fH Tryz.prog 209 [.int .u32 0, .int .u32 0] [(0, 1), (1, 1)] := dS Tryz.underlying209 (by kernel_rfl) (by kernel_rfl) (by kernel_rfl)
theorem qD : fI Tryz.prog 209 = some [.int .u32 0, .int .u32 0] := by kernel_rfl
theorem bEe : aO Tryz.prog 217 = true := by kernel_rfl
theorem aFh : dU Tryz.prog 250 1 1024 = true := by kernel_rfl
theorem bDj : aO Tryz.prog 204 = true := by kernel_rfl
theorem bCm : aO Tryz.prog 205 = true := by kernel_rfl
theorem aTw : uJ Tryz.prog 280 3 4 .i64 = true := by kernel_rfl
theorem zv4 : jI Tryz.prog 4 = some (.bool false) := by kernel_rfl
theorem wX : dU Tryz.prog 250 0 0 = true := by kernel_rfl
theorem aJt : wA Tryz.prog 248 1024 247 1 = true := by kernel_rfl
theorem aDg : fO Tryz.prog 247 = true := by kernel_rfl
theorem aFk : eF Tryz.prog 247 35 1 4 = true := by kernel_rfl
theorem aTd : eF Tryz.prog 353 3 1 8 = true := by kernel_rfl
theorem nL : dU Tryz.prog 209 0 0 = true := by kernel_rfl
theorem mT : dU Tryz.prog 209 1 1 = true := by kernel_rfl
theorem bFk : aO Tryz.prog 236 = true := by kernel_rfl
theorem bEv : fO Tryz.prog 287 = true := by kernel_rfl
theorem bDa : aO Tryz.prog 235 = true := by kernel_rfl
theorem aJh : fO Tryz.prog 220 = true := by kernel_rfl
theorem sR : eF Tryz.prog 220 209 2 8 = true := by kernel_rfl
theorem bFr : aO Tryz.prog 256 = true := by kernel_rfl
theorem bFh : aO Tryz.prog 233 = true := by kernel_rfl
theorem bCd : aO Tryz.prog 234 = true := by kernel_rfl
theorem bDg : gJ Tryz.prog 248 = some 1024 := by kernel_rfl
theorem bFx : aO Tryz.prog 210 = true := by kernel_rfl
theorem aPm : fH Tryz.prog 288 [] [] := dS Tryz.underlying288 (by kernel_rfl) (by kernel_rfl) (by kernel_rfl)
theorem bDq : aO Tryz.prog 212 = true := by kernel_rfl
theorem bDp : aO Tryz.prog 211 = true := by kernel_rfl
theorem bBz : aO Tryz.prog 203 = true := by kernel_rfl
theorem aEu : uJ Tryz.prog 245 35 253 .u32 = true := by kernel_rfl
theorem bIb : fI Tryz.prog 3 = some [.int .i64 0] := by kernel_rfl
theorem aRr : fO Tryz.prog 245 = true := by kernel_rfl
theorem aSi : jI Tryz.prog 253 = some (.agg [.int .i32 0, .int .i32 0, .int .i32 0, .int .i32 0].toArray) := by kernel_rfl
theorem bBo : aO Tryz.prog 207 = true := by kernel_rfl
theorem aVy : aO Tryz.prog 206 = true := by kernel_rfl
theorem bEw : aO Tryz.prog 209 = true := by kernel_rfl
theorem bDx : aO Tryz.prog 180 = true := by kernel_rfl
theorem bFi : aO Tryz.prog 181 = true := by kernel_rfl
theorem bCy : aO Tryz.prog 182 = true := by kernel_rfl
theorem bCn : aO Tryz.prog 184 = true := by kernel_rfl
theorem bCo : aO Tryz.prog 183 = true := by kernel_rfl
theorem bFq : aO Tryz.prog 208 = true := by kernel_rfl
theorem yW : dU Tryz.prog 219 0 0 = true := by kernel_rfl
theorem xJ : fO Tryz.prog 217 = true := by kernel_rfl
theorem yA : uJ Tryz.prog 217 35 39 .u32 = true := by kernel_rfl
theorem aYy : jI Tryz.prog 39 = some (.agg [.int .u32 0, .int .i32 0, .int .i32 0, .int .i32 0, .int .i32 0, .int .i32 0, .int .i32 0, .int .i32 0, .int .i32 0, .int .i32 0].toArray) := by kernel_rfl
theorem aVw : aO Tryz.prog 185 = true := by kernel_rfl
theorem pC : dU Tryz.prog 219 1 1 = true := by kernel_rfl
theorem lS : fO Tryz.prog 166 = true := by kernel_rfl
theorem aCe : eF Tryz.prog 166 211 5 20 = true := by kernel_rfl
theorem bFl : aO Tryz.prog 159 = true := by kernel_rfl
theorem aOp : fH Tryz.prog 219 [.map none, .slice none 0 0] [(0, 1), (1, 1)] := dS Tryz.underlying219 (by kernel_rfl) (by kernel_rfl) (by kernel_rfl)
theorem bBn : aO Tryz.prog 157 = true := by kernel_rfl
theorem bBv : aO Tryz.prog 158 = true := by kernel_rfl
theorem bEm : aO Tryz.prog 284 = true := by kernel_rfl
theorem bBr : aO Tryz.prog 278 = true := by kernel_rfl
theorem nI : dU Tryz.prog 211 1 2 = true := by kernel_rfl
theorem bFu : aO Tryz.prog 260 = true := by kernel_rfl
theorem bCa : aO Tryz.prog 261 = true := by kernel_rfl
theorem aVg : aO Tryz.prog 262 = true := by kernel_rfl
theorem aSd : aO Tryz.prog 263 = true := by kernel_rfl
theorem nF : dU Tryz.prog 303 0 0 = true := by kernel_rfl
theorem sN : dU Tryz.prog 211 0 0 = true := by kernel_rfl
theorem aDp : aO Tryz.prog 161 = true := by kernel_rfl
theorem bEs : aO Tryz.prog 243 = true := by kernel_rfl
theorem aTo : aO Tryz.prog 244 = true := by kernel_rfl
theorem nB : dU Tryz.prog 303 1 1 = true := by kernel_rfl
theorem kO : fO Tryz.prog 260 = true := by kernel_rfl
theorem mS : dU Tryz.prog 303 2 2 = true := by kernel_rfl
theorem mI : eF Tryz.prog 260 2 1 8 = true := by kernel_rfl
theorem bDn : aO Tryz.prog 220 = true := by kernel_rfl
theorem aBg : fH Tryz.prog 303 [.slice none 0 0, .slice none 0 0, .slice none 0 0] [(0, 1), (1, 1), (2, 1)] := dS Tryz.underlying303 (by kernel_rfl) (by kernel_rfl) (by kernel_rfl)
theorem aUb : aO Tryz.prog 219 = true := by kernel_rfl
theorem bCl : aO Tryz.prog 186 = true := by kernel_rfl
theorem aKb : aO Tryz.prog 148 = true := by kernel_rfl
theorem bFc : aO Tryz.prog 160 = true := by kernel_rfl
theorem aSp : dU Tryz.prog 211 2 4 = true := by kernel_rfl
theorem aUn : aO Tryz.prog 190 = true := by kernel_rfl
theorem tP : fO Tryz.prog 127 = true := by kernel_rfl
theorem xB : eF Tryz.prog 127 177 2 16 = true := by kernel_rfl
theorem zK : dU Tryz.prog 177 0 0 = true := by kernel_rfl
theorem yT : dU Tryz.prog 177 1 1 = true := by kernel_rfl
theorem aXz : fI Tryz.prog 177 = some [.int .i64 0, .int .i64 0] := by kernel_rfl
theorem aXu : fI Tryz.prog 127 = some [.slice none 0 0] := by kernel_rfl
theorem aUj : aO Tryz.prog 163 = true := by kernel_rfl
theorem aSc : aO Tryz.prog 162 = true := by kernel_rfl
theorem aCf : eF Tryz.prog 201 174 1 8 = true := by kernel_rfl
theorem bBm : fO Tryz.prog 174 = true := by kernel_rfl
theorem bBx : aO Tryz.prog 111 = true := by kernel_rfl
theorem zR : aO Tryz.prog 112 = true := by kernel_rfl
theorem bFp : aO Tryz.prog 110 = true := by kernel_rfl
theorem aRf : aO Tryz.prog 109 = true := by kernel_rfl
theorem bDi : aO Tryz.prog 113 = true := by kernel_rfl
theorem bGh : aO Tryz.prog 66 = true := by kernel_rfl
theorem bHl : aO Tryz.prog 67 = true := by kernel_rfl
theorem tB : dU Tryz.prog 168 1 1 = true := by kernel_rfl
theorem mY : dU Tryz.prog 168 3 3 = true := by kernel_rfl
theorem wR : dU Tryz.prog 58 2 2 = true := by kernel_rfl
theorem xF : dU Tryz.prog 168 0 0 = true := by kernel_rfl
theorem bEz : aO Tryz.prog 144 = true := by kernel_rfl
theorem sP : dU Tryz.prog 168 2 2 = true := by kernel_rfl
theorem aZb : dU Tryz.prog 58 0 0 = true := by kernel_rfl
theorem aLs : dU Tryz.prog 58 1 1 = true := by kernel_rfl
theorem aJx : aO Tryz.prog 145 = true := by kernel_rfl
theorem bCw : aO Tryz.prog 146 = true := by kernel_rfl
theorem bCi : aO Tryz.prog 147 = true := by kernel_rfl
theorem aEj : fI Tryz.prog 58 = some [.int .i64 0, .int .i64 0, .bool false] := by kernel_rfl
theorem aOv : fH Tryz.prog 168 [.slice none 0 0, .slice none 0 0, .slice none 0 0, .int .i64 0, .int .i64 0, .bool false] [(0, 1), (1, 1), (2, 1), (3, 3)] := dS Tryz.underlying168 (by kernel_rfl) (by kernel_rfl) (by kernel_rfl)
theorem zU : wA Tryz.prog 170 4 169 1 = true := by kernel_rfl
theorem bAa : fI Tryz.prog 170 = some [.nilFunc, .nilFunc, .nilFunc, .nilFunc] := by kernel_rfl
theorem aEo : fO Tryz.prog 169 = true := by kernel_rfl
theorem bDb : aO Tryz.prog 105 = true := by kernel_rfl
theorem bDm : aO Tryz.prog 106 = true := by kernel_rfl
theorem bFw : aO Tryz.prog 107 = true := by kernel_rfl
theorem bDk : aO Tryz.prog 108 = true := by kernel_rfl
theorem vK : gJ Tryz.prog 58 = some 3 := by kernel_rfl
theorem bHi : aO Tryz.prog 65 = true := by kernel_rfl
theorem lW : eF Tryz.prog 31 5 1 1 = true := by kernel_rfl
theorem aCy : fI Tryz.prog 139 = some [.int .u32 0, .int .u32 0, .int .u32 0, .int .u32 0, .int .u32 0, .int .u32 0, .int .u32 0, .int .u32 0, .int .u32 0, .int .u32 0] := by kernel_rfl
theorem fJ : wA Tryz.prog 139 10 35 1 = true := by kernel_rfl
theorem oB : aO Tryz.prog 136 = true := by kernel_rfl
theorem aJw : gJ Tryz.prog 139 = some 10 := by kernel_rfl
theorem aPs : fO Tryz.prog 5 = true := by kernel_rfl
theorem us5 : (Tryz.prog.underlying 5).isSome = true := by kernel_rfl
theorem aKa : aO Tryz.prog 118 = true := by kernel_rfl
theorem bAu : aO Tryz.prog 82 = true := by kernel_rfl
theorem aTx : aO Tryz.prog 100 = true := by kernel_rfl
theorem bFg : aO Tryz.prog 101 = true := by kernel_rfl
theorem pH : aO Tryz.prog 79 = true := by kernel_rfl
theorem pE : aO Tryz.prog 80 = true := by kernel_rfl
theorem bHz : aO Tryz.prog 81 = true := by kernel_rfl
theorem pM : dU Tryz.prog 107 0 0 = true := by kernel_rfl
theorem aTp : aO Tryz.prog 60 = true := by kernel_rfl
theorem mV : dU Tryz.prog 105 0 0 = true := by kernel_rfl
theorem bBi : aO Tryz.prog 61 = true := by kernel_rfl
theorem bFd : aO Tryz.prog 122 = true := by kernel_rfl
theorem bCq : aO Tryz.prog 117 = true := by kernel_rfl
theorem bHc : aO Tryz.prog 68 = true := by kernel_rfl
theorem aCc : aO Tryz.prog 38 = true := by kernel_rfl
theorem bIe : aO Tryz.prog 58 = true := by kernel_rfl
theorem bGi : aO Tryz.prog 69 = true := by kernel_rfl
theorem bEb : aO Tryz.prog 124 = true := by kernel_rfl
theorem bCh : aO Tryz.prog 125 = true := by kernel_rfl
theorem aPy : fH Tryz.prog 105 [.slice none 0 0, .map none] [(0, 2)] := dS Tryz.underlying105 (by kernel_rfl) (by kernel_rfl) (by kernel_rfl)
theorem bCg : gJ Tryz.prog 105 = some 2 := by kernel_rfl
theorem bAm : aO Tryz.prog 78 = true := by kernel_rfl
theorem bHk : aO Tryz.prog 54 = true := by kernel_rfl
theorem yM : fO Tryz.prog 31 = true := by kernel_rfl
theorem aZp : dU Tryz.prog 41 1 1 = true := by kernel_rfl
theorem aLx : dU Tryz.prog 41 2 11 = true := by kernel_rfl
theorem aXt : dU Tryz.prog 41 4 14 = true := by kernel_rfl
theorem bIc : aO Tryz.prog 83 = true := by kernel_rfl
theorem jY : uJ Tryz.prog 109 3 34 .i64 = true := by kernel_rfl
theorem bHm : aO Tryz.prog 85 = true := by kernel_rfl
theorem bHo : aO Tryz.prog 88 = true := by kernel_rfl
theorem jW : fI Tryz.prog 33 = some [.int .i64 0, .slice none 0 0, .int .i64 0, .bool false] := by kernel_rfl
theorem aVr : fO Tryz.prog 143 = true := by kernel_rfl
theorem bEf : fO Tryz.prog 144 = true := by kernel_rfl
theorem mH : gJ Tryz.prog 41 = some 15 := by kernel_rfl
theorem lF : fH Tryz.prog 33 [.int .i64 0, .slice none 0 0, .int .i64 0, .bool false] [(0, 1), (1, 1), (2, 1), (3, 1)] := dS Tryz.underlying33 (by kernel_rfl) (by kernel_rfl) (by kernel_rfl)
theorem bHa : aO Tryz.prog 84 = true := by kernel_rfl
theorem bHx : aO Tryz.prog 26 = true := by kernel_rfl
theorem fU : gJ Tryz.prog 33 = some 4 := by kernel_rfl
theorem aUd : fO Tryz.prog 146 = true := by kernel_rfl
theorem bDw : fO Tryz.prog 148 = true := by kernel_rfl
theorem bGn : aO Tryz.prog 87 = true := by kernel_rfl
theorem bHf : aO Tryz.prog 86 = true := by kernel_rfl
theorem aVc : fO Tryz.prog 150 = true := by kernel_rfl
theorem bEx : fO Tryz.prog 151 = true := by kernel_rfl
theorem bHg : aO Tryz.prog 89 = true := by kernel_rfl
theorem bHb : aO Tryz.prog 74 = true := by kernel_rfl
theorem bAk : dU Tryz.prog 41 3 12 = true := by kernel_rfl
theorem bIf : aO Tryz.prog 91 = true := by kernel_rfl
theorem bGp : aO Tryz.prog 53 = true := by kernel_rfl
theorem bGk : aO Tryz.prog 24 = true := by kernel_rfl
theorem oA : dU Tryz.prog 41 0 0 = true := by kernel_rfl
theorem xN : aO Tryz.prog 55 = true := by kernel_rfl
theorem aKe : jI Tryz.prog 34 = some (.nilFunc) := by kernel_rfl
theorem bBw : aO Tryz.prog 120 = true := by kernel_rfl
theorem bCz : aO Tryz.prog 121 = true := by kernel_rfl
theorem bEn : aO Tryz.prog 123 = true := by kernel_rfl
theorem bGy : aO Tryz.prog 90 = true := by kernel_rfl
theorem bIa : aO Tryz.prog 92 = true := by kernel_rfl
theorem bGs : aO Tryz.prog 93 = true := by kernel_rfl
theorem aZy : eF Tryz.prog 27 41 15 88 = true := by kernel_rfl
theorem aRb : fI Tryz.prog 41 = some [.int .i64 0, .int .u32 0, .int .i32 0, .int .i32 0, .int .i32 0, .int .i32 0, .int .i32 0, .int .i32 0, .int .i32 0, .int .i32 0, .int .i32 0, .int .u32 0, .int .i32 0, .int .i32 0, .slice none 0 0] := by kernel_rfl
theorem aTq : aO Tryz.prog 20 = true := by kernel_rfl
theorem aHg : eF Tryz.prog 63 33 4 48 = true := by kernel_rfl
theorem aXb : fI Tryz.prog 107 = some [.slice none 0 0, .map none] := by kernel_rfl
theorem bAr : aO Tryz.prog 33 = true := by kernel_rfl
theorem aYi : eF Tryz.prog 22 46 15 88 = true := by kernel_rfl
theorem aLm : dU Tryz.prog 46 4 14 = true := by kernel_rfl
theorem wM : dU Tryz.prog 46 0 0 = true := by kernel_rfl
theorem sX : fH Tryz.prog 43 [.int .i64 0, .slice none 0 0, .int .i64 0, .bool false] [(0, 1), (1, 1), (2, 1), (3, 1)] := dS Tryz.underlying43 (by kernel_rfl) (by kernel_rfl) (by kernel_rfl)
theorem bGr : gJ Tryz.prog 43 = some 4 := by kernel_rfl
theorem aYl : dU Tryz.prog 46 1 1 = true := by kernel_rfl
theorem aYc : dU Tryz.prog 46 2 11 = true := by kernel_rfl
theorem aZv : dU Tryz.prog 46 3 12 = true := by kernel_rfl
theorem aVi : gJ Tryz.prog 46 = some 15 := by kernel_rfl
theorem aMi : dU Tryz.prog 43 0 0 = true := by kernel_rfl
theorem aNi : dU Tryz.prog 43 1 1 = true := by kernel_rfl
theorem bGo : aO Tryz.prog 23 = true := by kernel_rfl
theorem aNe : dU Tryz.prog 43 2 2 = true := by kernel_rfl
theorem aMe : dU Tryz.prog 43 3 3 = true := by kernel_rfl
theorem rV : dU Tryz.prog 33 0 0 = true := by kernel_rfl
theorem aNd : dU Tryz.prog 33 1 1 = true := by kernel_rfl
theorem aZf : dU Tryz.prog 33 2 2 = true := by kernel_rfl
theorem aWu : dU Tryz.prog 33 3 3 = true := by kernel_rfl
theorem bGw : aO Tryz.prog 57 = true := by kernel_rfl
theorem nM : fH Tryz.prog 41 [.int .i64 0, .int .u32 0, .int .i32 0, .int .i32 0, .int .i32 0, .int .i32 0, .int .i32 0, .int .i32 0, .int .i32 0, .int .i32 0, .int .i32 0, .int .u32 0, .int .i32 0, .int .i32 0, .slice none 0 0] [(0, 1), (1, 10), (11, 1), (12, 2), (14, 1)] := dS Tryz.underlying41 (by kernel_rfl) (by kernel_rfl) (by kernel_rfl)
theorem aUt : aO Tryz.prog 39 = true := by kernel_rfl
theorem aSu : aO Tryz.prog 18 = true := by kernel_rfl
theorem aRt : aO Tryz.prog 36 = true := by kernel_rfl
theorem aTf : aO Tryz.prog 32 = true := by kernel_rfl
theorem bHe : aO Tryz.prog 17 = true := by kernel_rfl
theorem bBe : aO Tryz.prog 34 = true := by kernel_rfl
theorem bAz : aO Tryz.prog 37 = true := by kernel_rfl
end Go.Proofs.YtaoaknafiegfoaaGreatDoor

namespace Go.Proofs.YtaoaknafiegfoaaGreatDoor
open Go.Bil
open Go.RowKit (Below)
open Go.Proofs
theorem bEg (a b : Body) : EqA Tryz.prog 39 (aF a) (aF b) (decide (a = b)) := by
 have h := bGz a.key a.radius a.ax a.ay a.mass a.bounce a.px a.py a.vx a.vy b.key b.radius b.ax b.ay b.mass b.bounce b.px b.py b.vx b.vy
 rw [decide_eq_decide.2 (aSh (a := a) (b := b))]
 exact h
set_option maxHeartbeats 4000000 in
theorem yI (w : World) (A : Option Addr) (n c : Nat) (xs : List Body) (R : Rd w 10 A n (xs.map aF)) (B : Option Addr) (m c' : Nat) (ys : List Body) (R' : Rd w 10 B m (ys.map aF)) :
  Calls Tryz.prog 37 #[.slice A n c, .slice B m c'] w (fun ex w' => ∃ v, ex = .returned v ∧ (fun v w' => v = .bool (decide (xs = ys)) ∧ Below w.heap.size w w') v w') := by
 have hlen : xs.length = n := by simpa using R.len
 have hbd := R.bound
 have hlen' : ys.length = m := by simpa using R'.len
 have hbd' := R'.bound
 refine aH #[.tmp 4] 26 Tryz.func37 rfl Tryz.results37 Tryz.ntmps37 rfl ?_
 have M0 := Mem.refl w
 refine aD (aA (wq (aI (.bool false) rfl) rfl (aB (aC (aD (aD (aA (eC rfl rfl (wq (cR Tryz.underlying29 rfl) rfl (eC rfl rfl ?_))))))))))
 refine wq (cR Tryz.underlying29 rfl) rfl (cY rfl rfl rfl rfl (aB (aC ?_)))
 refine bE rfl (fun h10 => ?_) (fun h10 => ?_)
 ·refine aD (aA (wq (aI (.bool false) rfl) rfl (aB (aC (aN (cJ (cB (.bool false) rfl ?_)))))))
  exact ⟨bF (fun e => h10 (by rw [← hlen, ← hlen', e])), M0.below⟩
 ·have hnm : n = m := by omega
  refine aM (aC (aD (aD (aA (bP rfl rfl (aB (aC (aT (dP (σ := Nat) [0, 1] (fun k => [(5, .int .i64 (k : Int))]) (fun k w' => (k ≤ n ∧ ∀ (j : Nat) (x : Body), j < k → xs[j]? = some x → ys[j]? = some x) ∧ Mem w [] [] w') (fun k => n - k) 0 (bM rfl fD) (⟨⟨by omega, fun j c hj => by omega⟩, M0⟩) ?_)))))))))
  rintro k ρ1 w1 ⟨⟨hk, hne⟩, hM1⟩
  refine aD (aD (aA (aY rfl rfl (eC rfl rfl (wq (cR Tryz.underlying29 rfl) rfl (cY rfl rfl rfl rfl (aB (aC ?_))))))))
  refine bE rfl (fun h14 => ?_) (fun h14 => ?_)
  ·obtain ⟨xb, hxb⟩ := cL (k := k) hlen (by omega)
   obtain ⟨yb, hyb⟩ := cL (k := k) hlen' (by omega)
   refine aM (aC (aD (aT (aD (bO [(0, 0), (1, 0), (2, 1), (3, 1), (4, 0), (5, 0), (6, 1), (7, 1), (8, 0)] mixed rfl (by kernel_rfl) (fun w2 hb2 hh2 => ?_))))))
   have M2 := hM1.drew hb2 hh2
   refine DmS rfl rfl rfl (iG rfl rfl rfl (cA rfl rfl rfl (bV (k) fE rfl rfl rfl ((R.mem M2).below_len (aJ aF hxb)) ((R.mem M2).someK (aJ aF hxb))) (cA rfl rfl rfl (eB _ bR (R.mem M2) (aJ aF hxb) rfl) (DmS rfl rfl rfl (iG rfl rfl rfl ?_)))))
   refine cA rfl rfl rfl (bV (k) fE rfl rfl rfl ((R'.mem M2).below_len (aJ aF hyb)) ((R'.mem M2).someK (aJ aF hyb))) (cA rfl rfl rfl (eB _ bR (R'.mem M2) (aJ aF hyb) rfl) (aX rfl rfl rfl (fun _ => bGx (bEg xb yb) rfl rfl) (cF (aC ?_))))
   refine bE rfl (fun h25 => ?_) (fun h25 => ?_)
   ·refine aD (aA (wq (aI (.bool false) rfl) rfl (aB (aC (aN (jN (cJ (uK ?_))))))))
    refine jN (cJ (cB (.bool false) rfl ?_))
    exact ⟨bF (fun e => h25 (by rw [e] at hxb; rw [hxb] at hyb; injection hyb)), M2.below⟩
   ·refine aM (dJ (aC (aA (aY rfl rfl (wq (bQ rfl rfl (by omega) (by omega)) rfl (bP rfl rfl ?_))))))
    refine aB ?_
    refine cT (k + 1) (bM rfl fD) (cW rfl (cW rfl kK)) ?_ ?_
    ·exact ⟨⟨by omega, qO (p := fun j x => ys[j]? = some x) hne hxb (by rw [hyb, Decidable.not_not.1 h25])⟩, M2⟩
    ·omega
  ·refine cO (dC (dA (eV (aC (aD (aA (wq (aI (.bool true) rfl) rfl ?_)))))))
   refine aB (aC (aN (cB (.bool true) rfl ?_)))
   exact ⟨bT (List.ext_getElem? fun j => by
   by_cases hj : j < xs.length
   ·obtain ⟨x, hx⟩ := cL (k := j) rfl hj
    rw [hx, hne j x (by omega) hx]
   ·rw [List.getElem?_eq_none (by omega), List.getElem?_eq_none (by omega)]), hM1.below⟩
set_option maxHeartbeats 4000000 in
theorem oW (w : World) (x y l : Int) (h0 : 0 ≤ l) (h1 : l ≤ 2147483647) :
  Calls Tryz.prog 139 #[.agg [.int .i32 x, .int .i32 y].toArray, .int .i32 l] w (fun ex w' => ∃ v, ex = .returned v ∧ (fun v w' => v = .bool (decide (-l ≤ x ∧ x ≤ l ∧ -l ≤ y ∧ y ≤ l)) ∧ Below w.heap.size w w') v w') := by
 have hneg : IntKind.i32.wrap (-l) = -l := lU _ (by omega) (by omega)
 refine aH #[.tmp 4] 29 Tryz.func139 rfl Tryz.results139 Tryz.ntmps139 rfl ?_
 have M0 := Mem.refl w
 refine aD (aA (bC (.agg (List.toArray _)) M0 rfl rfl rfl (fun b1 w1 M1 => (wq (aI (.bool false) rfl) rfl (aB (aC (aD (aA (aY rfl rfl (wq (aBf rfl) rfl ?_))))))))))
 refine aS 6 (.int .i32 (-l)) (iE hneg) (wq (aE 0 dT rfl) rfl (wq (aK 0 (.int _ _) aW M1 rfl rfl rfl) rfl (cY rfl rfl rfl rfl (wq (aG (.bool (decide _)) rfl) rfl ?_))))
 refine dK 10 rfl (fun g10 => ?_) (fun g10 => ?_)
 ·refine wq (aE 0 dT rfl) rfl (wq (aK 0 (.int _ _) aW M1 rfl rfl rfl) rfl (aY rfl rfl (cY rfl rfl rfl rfl (wq (bW true (.bool (decide _)) rfl rfl) rfl (wq (aG (.bool (decide _)) rfl) rfl ?_)))))
  refine dK 16 rfl (fun g16 => ?_) (fun g16 => ?_)
  ·refine aY rfl rfl (wq (aBf rfl) rfl (aS 18 (.int .i32 (-l)) (iE hneg) (wq (aE 1 dN rfl) rfl (wq (aK 0 (.int _ _) aW M1 rfl rfl rfl) rfl (cY rfl rfl rfl rfl ?_)))))
   refine wq (bW true (.bool (decide _)) rfl rfl) rfl (wq (aG (.bool (decide _)) rfl) rfl ?_)
   refine dK 23 rfl (fun g23 => ?_) (fun g23 => ?_)
   ·refine wq (aE 1 dN rfl) rfl (wq (aK 0 (.int _ _) aW M1 rfl rfl rfl) rfl (aY rfl rfl (cY rfl rfl rfl rfl (wq (bW true (.bool (decide _)) rfl rfl) rfl (wq (aI (.bool (decide _)) rfl) rfl ?_)))))
    refine aB (aC (aN (cB (.bool (decide _)) rfl ?_)))
    exact ⟨by first | exact bF (by omega) | exact bT (by omega) | exact bD (by omega), M1.below⟩
   ·refine aR rfl rfl (aR rfl rfl (aR rfl rfl (aR rfl rfl (wq (bW false (.bool false) rfl rfl) rfl (wq (aI (.bool false) rfl) rfl ?_)))))
    refine aB (aC (aN (cB (.bool false) rfl ?_)))
    exact ⟨by first | exact bF (by omega) | exact bT (by omega) | exact bD (by omega), M1.below⟩
  ·refine aR rfl rfl (aR rfl rfl (aR rfl rfl (aR rfl rfl (aR rfl rfl (wq (bW false (.bool false) rfl rfl) rfl ?_)))))
   refine wq (aG (.bool false) rfl) rfl (aR rfl rfl (aR rfl rfl (aR rfl rfl (aR rfl rfl (wq (bW false (.bool false) rfl rfl) rfl ?_)))))
   refine wq (aI (.bool false) rfl) rfl (aB (aC (aN (cB (.bool false) rfl ?_))))
   exact ⟨by first | exact bF (by omega) | exact bT (by omega) | exact bD (by omega), M1.below⟩
 ·refine aR rfl rfl (aR rfl rfl (aR rfl rfl (aR rfl rfl (wq (bW false (.bool false) rfl rfl) rfl (wq (aG (.bool false) rfl) rfl ?_)))))
  refine aR rfl rfl (aR rfl rfl (aR rfl rfl (aR rfl rfl (aR rfl rfl (wq (bW false (.bool false) rfl rfl) rfl ?_)))))
  refine wq (aG (.bool false) rfl) rfl (aR rfl rfl (aR rfl rfl (aR rfl rfl (aR rfl rfl (wq (bW false (.bool false) rfl rfl) rfl ?_)))))
  refine wq (aI (.bool false) rfl) rfl (aB (aC (aN (cB (.bool false) rfl ?_))))
  exact ⟨by first | exact bF (by omega) | exact bT (by omega) | exact bD (by omega), M1.below⟩
set_option maxHeartbeats 4000000 in
theorem aGg (w : World) (b : Body) (p : Nat) (R : Rd w 10 (some ⟨p, 0, none⟩) 1 [aF b]) :
  Calls Tryz.prog 137 #[.pointer (some ⟨p, 0, none⟩)] w (fun ex w' => ∃ v, ex = .returned v ∧ (fun v w' => v = .bool (decide (4096 ≤ b.radius ∧ b.radius ≤ 4194304)) ∧ Below w.heap.size w w') v w') := by
 rw [← eM p]
 refine aH #[.tmp 1] 10 Tryz.func137 rfl Tryz.results137 Tryz.ntmps137 rfl ?_
 have M0 := Mem.refl w
 refine aD (aA (wq (aI (.bool false) rfl) rfl (aB (aC (aD (aA (wq (bN 1 nQ R (Nat.lt_of_le_of_lt (Nat.zero_le _) (R.below_len (show [aF b][0]? = some (aF b) from rfl))) rfl) rfl (wq (eI (o := 1) (.int _ _) aW R (show [aF b][0]? = some (aF b) from rfl) rfl rfl) rfl ?_))))))))
 refine cY rfl rfl rfl rfl (wq (aG (.bool (decide _)) rfl) rfl ?_)
 refine dK 5 rfl (fun g5 => ?_) (fun g5 => ?_)
 ·refine wq (bN 1 nQ R (Nat.lt_of_le_of_lt (Nat.zero_le _) (R.below_len (show [aF b][0]? = some (aF b) from rfl))) rfl) rfl (wq (eI (o := 1) (.int _ _) aW R (show [aF b][0]? = some (aF b) from rfl) rfl rfl) rfl (cY rfl rfl rfl rfl (wq (bW true (.bool (decide _)) rfl rfl) rfl ?_)))
  refine wq (aI (.bool (decide _)) rfl) rfl (aB (aC (aN (cB (.bool (decide _)) rfl ?_))))
  exact ⟨by first | exact bF (by omega) | exact bT (by omega) | exact bD (by omega), M0.below⟩
 ·refine aR rfl rfl (aR rfl rfl (aR rfl rfl (wq (bW false (.bool false) rfl rfl) rfl (wq (aI (.bool false) rfl) rfl (aB (aC (aN ?_)))))))
  refine cB (.bool false) rfl ?_
  exact ⟨by first | exact bF (by omega) | exact bT (by omega) | exact bD (by omega), M0.below⟩
set_option maxHeartbeats 4000000 in
theorem aHn (w : World) (b : Body) (p : Nat) (R : Rd w 10 (some ⟨p, 0, none⟩) 1 [aF b]) :
  Calls Tryz.prog 138 #[.pointer (some ⟨p, 0, none⟩)] w (fun ex w' => ∃ v, ex = .returned v ∧ (fun v w' => v = .bool (decide (-4194304 ≤ b.ax ∧ b.ax ≤ 4194304 ∧ -4194304 ≤ b.ay ∧ b.ay ≤ 4194304)) ∧ Below w.heap.size w w') v w') := by
 rw [← eM p]
 refine aH #[.tmp 1] 5 Tryz.func138 rfl Tryz.results138 Tryz.ntmps138 rfl ?_
 have M0 := Mem.refl w
 refine aD (aA (wq (aI (.bool false) rfl) rfl (aB (aC (aD (aA (wq (bN 2 kW R (Nat.lt_of_le_of_lt (Nat.zero_le _) (R.below_len (show [aF b][0]? = some (aF b) from rfl))) rfl) rfl (wq (zJ (o := 2) _ bJ R (show [aF b][0]? = some (aF b) from rfl) rfl rfl rfl) rfl ?_))))))))
 refine bX aKi rfl rfl (oW _ _ _ _ (by omega) (by omega)) ?_
 rintro v1 w1 ⟨rfl, hb1⟩
 have M1 := M0.callB hb1
 refine wq (aI (.bool (decide _)) rfl) rfl (aB (aC (aN (cB (.bool (decide _)) rfl ?_))))
 exact ⟨by first | exact bF (by omega) | exact bT (by omega) | exact bD (by omega), M1.below⟩
set_option maxHeartbeats 4000000 in
theorem aGz (w : World) (b : Body) (p : Nat) (R : Rd w 10 (some ⟨p, 0, none⟩) 1 [aF b]) :
  Calls Tryz.prog 140 #[.pointer (some ⟨p, 0, none⟩)] w (fun ex w' => ∃ v, ex = .returned v ∧ (fun v w' => v = .bool (decide (0 ≤ b.mass ∧ b.mass ≤ 1048576)) ∧ Below w.heap.size w w') v w') := by
 rw [← eM p]
 refine aH #[.tmp 1] 10 Tryz.func140 rfl Tryz.results140 Tryz.ntmps140 rfl ?_
 have M0 := Mem.refl w
 refine aD (aA (wq (aI (.bool false) rfl) rfl (aB (aC (aD (aA (wq (bN 4 fG R (Nat.lt_of_le_of_lt (Nat.zero_le _) (R.below_len (show [aF b][0]? = some (aF b) from rfl))) rfl) rfl (wq (eI (o := 4) (.int _ _) aW R (show [aF b][0]? = some (aF b) from rfl) rfl rfl) rfl ?_))))))))
 refine cY rfl rfl rfl rfl (wq (aG (.bool (decide _)) rfl) rfl ?_)
 refine dK 5 rfl (fun g5 => ?_) (fun g5 => ?_)
 ·refine wq (bN 4 fG R (Nat.lt_of_le_of_lt (Nat.zero_le _) (R.below_len (show [aF b][0]? = some (aF b) from rfl))) rfl) rfl (wq (eI (o := 4) (.int _ _) aW R (show [aF b][0]? = some (aF b) from rfl) rfl rfl) rfl (cY rfl rfl rfl rfl (wq (bW true (.bool (decide _)) rfl rfl) rfl ?_)))
  refine wq (aI (.bool (decide _)) rfl) rfl (aB (aC (aN (cB (.bool (decide _)) rfl ?_))))
  exact ⟨by first | exact bF (by omega) | exact bT (by omega) | exact bD (by omega), M0.below⟩
 ·refine aR rfl rfl (aR rfl rfl (aR rfl rfl (wq (bW false (.bool false) rfl rfl) rfl (wq (aI (.bool false) rfl) rfl (aB (aC (aN ?_)))))))
  refine cB (.bool false) rfl ?_
  exact ⟨by first | exact bF (by omega) | exact bT (by omega) | exact bD (by omega), M0.below⟩
set_option maxHeartbeats 4000000 in
theorem aGm (w : World) (b : Body) (p : Nat) (R : Rd w 10 (some ⟨p, 0, none⟩) 1 [aF b]) :
  Calls Tryz.prog 141 #[.pointer (some ⟨p, 0, none⟩)] w (fun ex w' => ∃ v, ex = .returned v ∧ (fun v w' => v = .bool (decide (0 ≤ b.bounce ∧ b.bounce ≤ 65536)) ∧ Below w.heap.size w w') v w') := by
 rw [← eM p]
 refine aH #[.tmp 1] 10 Tryz.func141 rfl Tryz.results141 Tryz.ntmps141 rfl ?_
 have M0 := Mem.refl w
 refine aD (aA (wq (aI (.bool false) rfl) rfl (aB (aC (aD (aA (wq (bN 5 sV R (Nat.lt_of_le_of_lt (Nat.zero_le _) (R.below_len (show [aF b][0]? = some (aF b) from rfl))) rfl) rfl (wq (eI (o := 5) (.int _ _) aW R (show [aF b][0]? = some (aF b) from rfl) rfl rfl) rfl ?_))))))))
 refine cY rfl rfl rfl rfl (wq (aG (.bool (decide _)) rfl) rfl ?_)
 refine dK 5 rfl (fun g5 => ?_) (fun g5 => ?_)
 ·refine wq (bN 5 sV R (Nat.lt_of_le_of_lt (Nat.zero_le _) (R.below_len (show [aF b][0]? = some (aF b) from rfl))) rfl) rfl (wq (eI (o := 5) (.int _ _) aW R (show [aF b][0]? = some (aF b) from rfl) rfl rfl) rfl (cY rfl rfl rfl rfl (wq (bW true (.bool (decide _)) rfl rfl) rfl ?_)))
  refine wq (aI (.bool (decide _)) rfl) rfl (aB (aC (aN (cB (.bool (decide _)) rfl ?_))))
  exact ⟨by first | exact bF (by omega) | exact bT (by omega) | exact bD (by omega), M0.below⟩
 ·refine aR rfl rfl (aR rfl rfl (aR rfl rfl (wq (bW false (.bool false) rfl rfl) rfl (wq (aI (.bool false) rfl) rfl (aB (aC (aN ?_)))))))
  refine cB (.bool false) rfl ?_
  exact ⟨by first | exact bF (by omega) | exact bT (by omega) | exact bD (by omega), M0.below⟩
set_option maxHeartbeats 4000000 in
theorem aFb (w : World) (b : Body) (p : Nat) (R : Rd w 10 (some ⟨p, 0, none⟩) 1 [aF b]) :
  Calls Tryz.prog 142 #[.pointer (some ⟨p, 0, none⟩)] w (fun ex w' => ∃ v, ex = .returned v ∧ (fun v w' => v = .bool (decide (-1073741824 ≤ b.px ∧ b.px ≤ 1073741824 ∧ -1073741824 ≤ b.py ∧ b.py ≤ 1073741824)) ∧ Below w.heap.size w w') v w') := by
 rw [← eM p]
 refine aH #[.tmp 1] 5 Tryz.func142 rfl Tryz.results142 Tryz.ntmps142 rfl ?_
 have M0 := Mem.refl w
 refine aD (aA (wq (aI (.bool false) rfl) rfl (aB (aC (aD (aA (wq (bN 6 gQ R (Nat.lt_of_le_of_lt (Nat.zero_le _) (R.below_len (show [aF b][0]? = some (aF b) from rfl))) rfl) rfl (wq (zJ (o := 6) _ bJ R (show [aF b][0]? = some (aF b) from rfl) rfl rfl rfl) rfl ?_))))))))
 refine bX aKi rfl rfl (oW _ _ _ _ (by omega) (by omega)) ?_
 rintro v1 w1 ⟨rfl, hb1⟩
 have M1 := M0.callB hb1
 refine wq (aI (.bool (decide _)) rfl) rfl (aB (aC (aN (cB (.bool (decide _)) rfl ?_))))
 exact ⟨by first | exact bF (by omega) | exact bT (by omega) | exact bD (by omega), M1.below⟩
set_option maxHeartbeats 4000000 in
theorem aFi (w : World) (b : Body) (p : Nat) (R : Rd w 10 (some ⟨p, 0, none⟩) 1 [aF b]) :
  Calls Tryz.prog 143 #[.pointer (some ⟨p, 0, none⟩)] w (fun ex w' => ∃ v, ex = .returned v ∧ (fun v w' => v = .bool (decide (-16777216 ≤ b.vx ∧ b.vx ≤ 16777216 ∧ -16777216 ≤ b.vy ∧ b.vy ≤ 16777216)) ∧ Below w.heap.size w w') v w') := by
 rw [← eM p]
 refine aH #[.tmp 1] 5 Tryz.func143 rfl Tryz.results143 Tryz.ntmps143 rfl ?_
 have M0 := Mem.refl w
 refine aD (aA (wq (aI (.bool false) rfl) rfl (aB (aC (aD (aA (wq (bN 8 fM R (Nat.lt_of_le_of_lt (Nat.zero_le _) (R.below_len (show [aF b][0]? = some (aF b) from rfl))) rfl) rfl (wq (zJ (o := 8) _ bJ R (show [aF b][0]? = some (aF b) from rfl) rfl rfl rfl) rfl ?_))))))))
 refine bX aKi rfl rfl (oW _ _ _ _ (by omega) (by omega)) ?_
 rintro v1 w1 ⟨rfl, hb1⟩
 have M1 := M0.callB hb1
 refine wq (aI (.bool (decide _)) rfl) rfl (aB (aC (aN (cB (.bool (decide _)) rfl ?_))))
 exact ⟨by first | exact bF (by omega) | exact bT (by omega) | exact bD (by omega), M1.below⟩
set_option maxHeartbeats 4000000 in
theorem rR (w : World) (b : Body) :
  Calls Tryz.prog 102 #[(.agg (aF b).toArray)] w (fun ex w' => ∃ v, ex = .returned v ∧ (fun v w' => v = .int .i64 (check b) ∧ Below w.heap.size w w') v w') := by
 refine aH #[.tmp 2] 28 Tryz.func102 rfl Tryz.results102 Tryz.ntmps102 rfl ?_
 have M0 := Mem.refl w
 refine aD (aA (bC (.agg (List.toArray _)) M0 rfl rfl rfl (fun b1 w1 M1 => (bP rfl rfl (aB (aC (aD (aD (aA (wq (cM [] [.pointer _] rfl rfl) rfl (wq (cD [(0, .func _ _ _), (1, .int _ _)] _ kX rfl rfl) rfl ?_)))))))))))
 refine wq (cM [] [.pointer _] rfl rfl) rfl (wq (cD [(0, .func _ _ _), (1, .int _ _)] _ kX rfl rfl) rfl (wq (cM [] [.pointer _] rfl rfl) rfl (wq (cD [(0, .func _ _ _), (1, .int _ _)] _ kX rfl rfl) rfl (wq (cM [] [.pointer _] rfl rfl) rfl (wq (cD [(0, .func _ _ _), (1, .int _ _)] _ kX rfl rfl) rfl ?_)))))
 refine wq (cM [] [.pointer _] rfl rfl) rfl (wq (cD [(0, .func _ _ _), (1, .int _ _)] _ kX rfl rfl) rfl (wq (cM [] [.pointer _] rfl rfl) rfl (wq (cD [(0, .func _ _ _), (1, .int _ _)] _ kX rfl rfl) rfl (wq (oT [.agg (List.toArray _), .agg (List.toArray _), .agg (List.toArray _), .agg (List.toArray _), .agg (List.toArray _), .agg (List.toArray _)] rT bAj rfl rfl (dD rfl)) rfl ?_))))
 refine aY rfl rfl (aB (aC (aT (lO 7 (iC (aD (aA (cY rfl rfl rfl rfl (oG 19 rfl (by first | decide | omega) ?_)))))))))
 refine aB (aC (aD (cQ rfl (aM (aC (aD (aT (aD (aA (wq (mO 0 _ rT kQ rfl rfl (by decide) (by decide) rfl rfl) rfl (aP qC M1 rfl rfl (fun b2 w2 M2 => (bB 1 _ kQ M2 rfl rfl rfl rfl rfl (aQ rfl) rfl (fun w3 M3 => ?_))))))))))))))
 refine aB (aC (aD (aA (wq (aE 0 mX rfl) rfl (wq (aK 1 (.func _ _ _) aCr M3 rfl rfl rfl) rfl (bX bDe rfl rfl (aGg _ b _ (lX 0 M3 rfl rfl)) ?_))))))
 rintro v4 w4 ⟨rfl, hb4⟩
 have M4 := M3.callB hb4
 refine wq (tE rfl) rfl (aB (aC ?_))
 refine bE rfl (fun h24 => ?_) (fun h24 => ?_)
 ·refine aD (aA (wq (aE 1 nD rfl) rfl (wq (aK 1 (.int _ _) oY M4 rfl rfl rfl) rfl (bP rfl rfl (aB (aC (aN (jN ?_))))))))
  refine cJ (cJ (jN (cJ (cB (.int _ _) rfl ?_))))
  exact ⟨iE (aLu b (by omega)).symm, M4.below⟩
 ·refine aM (dJ (aC (aA (wq (bQ rfl rfl (by first | decide | omega) (by first | decide | omega)) rfl (aS 27 (.int .i64 1) (iE (by first | decide | omega)) (aY rfl rfl ?_))))))
  refine aB (aC (iC (aD (aA (cY rfl rfl rfl rfl (oG 19 rfl (by first | decide | omega) (aB (aC (aD ?_)))))))))
  refine cQ rfl (aM (aC (aD (aT (aD (aA (wq (mO 1 _ rT kQ rfl rfl (by decide) (by decide) rfl rfl) rfl (aP qC M4 rfl rfl (fun b5 w5 M5 => (bB 2 _ kQ M5 rfl rfl rfl rfl rfl (aQ rfl) rfl (fun w6 M6 => (aB (aC (aD (aA ?_)))))))))))))))
  refine wq (aE 0 mX rfl) rfl (wq (aK 2 (.func _ _ _) aCr M6 rfl rfl rfl) rfl (bX bCe rfl rfl (aHn _ b _ (lX 0 M6 rfl rfl)) ?_))
  rintro v7 w7 ⟨rfl, hb7⟩
  have M7 := M6.callB hb7
  refine wq (tE rfl) rfl (aB (aC ?_))
  refine bE rfl (fun h24 => ?_) (fun h24 => ?_)
  ·refine aD (aA (wq (aE 1 nD rfl) rfl (wq (aK 2 (.int _ _) oY M7 rfl rfl rfl) rfl (bP rfl rfl (aB (aC (aN (jN ?_))))))))
   refine cJ (cJ (jN (cJ (cB (.int _ _) rfl ?_))))
   exact ⟨iE (aLw b (by omega) (by omega)).symm, M7.below⟩
  ·refine aM (dJ (aC (aA (wq (bQ rfl rfl (by first | decide | omega) (by first | decide | omega)) rfl (aS 27 (.int .i64 2) (iE (by first | decide | omega)) (aY rfl rfl ?_))))))
   refine aB (aC (iC (aD (aA (cY rfl rfl rfl rfl (oG 19 rfl (by first | decide | omega) (aB (aC (aD ?_)))))))))
   refine cQ rfl (aM (aC (aD (aT (aD (aA (wq (mO 2 _ rT kQ rfl rfl (by decide) (by decide) rfl rfl) rfl (aP qC M7 rfl rfl (fun b8 w8 M8 => (bB 3 _ kQ M8 rfl rfl rfl rfl rfl (aQ rfl) rfl (fun w9 M9 => (aB (aC (aD (aA ?_)))))))))))))))
   refine wq (aE 0 mX rfl) rfl (wq (aK 3 (.func _ _ _) aCr M9 rfl rfl rfl) rfl (bX bCt rfl rfl (aGz _ b _ (lX 0 M9 rfl rfl)) ?_))
   rintro v10 w10 ⟨rfl, hb10⟩
   have M10 := M9.callB hb10
   refine wq (tE rfl) rfl (aB (aC ?_))
   refine bE rfl (fun h24 => ?_) (fun h24 => ?_)
   ·refine aD (aA (wq (aE 1 nD rfl) rfl (wq (aK 3 (.int _ _) oY M10 rfl rfl rfl) rfl (bP rfl rfl (aB (aC (aN (jN ?_))))))))
    refine cJ (cJ (jN (cJ (cB (.int _ _) rfl ?_))))
    exact ⟨iE (aLz b (by omega) (by omega) (by omega)).symm, M10.below⟩
   ·refine aM (dJ (aC (aA (wq (bQ rfl rfl (by first | decide | omega) (by first | decide | omega)) rfl (aS 27 (.int .i64 3) (iE (by first | decide | omega)) (aY rfl rfl ?_))))))
    refine aB (aC (iC (aD (aA (cY rfl rfl rfl rfl (oG 19 rfl (by first | decide | omega) (aB (aC (aD ?_)))))))))
    refine cQ rfl (aM (aC (aD (aT (aD (aA (wq (mO 3 _ rT kQ rfl rfl (by decide) (by decide) rfl rfl) rfl (aP qC M10 rfl rfl (fun b11 w11 M11 => (bB 4 _ kQ M11 rfl rfl rfl rfl rfl (aQ rfl) rfl (fun w12 M12 => (aB (aC (aD (aA ?_)))))))))))))))
    refine wq (aE 0 mX rfl) rfl (wq (aK 4 (.func _ _ _) aCr M12 rfl rfl rfl) rfl (bX bEr rfl rfl (aGm _ b _ (lX 0 M12 rfl rfl)) ?_))
    rintro v13 w13 ⟨rfl, hb13⟩
    have M13 := M12.callB hb13
    refine wq (tE rfl) rfl (aB (aC ?_))
    refine bE rfl (fun h24 => ?_) (fun h24 => ?_)
    ·refine aD (aA (wq (aE 1 nD rfl) rfl (wq (aK 4 (.int _ _) oY M13 rfl rfl rfl) rfl (bP rfl rfl (aB (aC (aN (jN ?_))))))))
     refine cJ (cJ (jN (cJ (cB (.int _ _) rfl ?_))))
     exact ⟨iE (aMl b (by omega) (by omega) (by omega) (by omega)).symm, M13.below⟩
    ·refine aM (dJ (aC (aA (wq (bQ rfl rfl (by first | decide | omega) (by first | decide | omega)) rfl (aS 27 (.int .i64 4) (iE (by first | decide | omega)) (aY rfl rfl ?_))))))
     refine aB (aC (iC (aD (aA (cY rfl rfl rfl rfl (oG 19 rfl (by first | decide | omega) (aB (aC (aD ?_)))))))))
     refine cQ rfl (aM (aC (aD (aT (aD (aA (wq (mO 4 _ rT kQ rfl rfl (by decide) (by decide) rfl rfl) rfl (aP qC M13 rfl rfl (fun b14 w14 M14 => (bB 5 _ kQ M14 rfl rfl rfl rfl rfl (aQ rfl) rfl (fun w15 M15 => (aB (aC (aD (aA ?_)))))))))))))))
     refine wq (aE 0 mX rfl) rfl (wq (aK 5 (.func _ _ _) aCr M15 rfl rfl rfl) rfl (bX bEh rfl rfl (aFb _ b _ (lX 0 M15 rfl rfl)) ?_))
     rintro v16 w16 ⟨rfl, hb16⟩
     have M16 := M15.callB hb16
     refine wq (tE rfl) rfl (aB (aC ?_))
     refine bE rfl (fun h24 => ?_) (fun h24 => ?_)
     ·refine aD (aA (wq (aE 1 nD rfl) rfl (wq (aK 5 (.int _ _) oY M16 rfl rfl rfl) rfl (bP rfl rfl (aB (aC (aN (jN ?_))))))))
      refine cJ (cJ (jN (cJ (cB (.int _ _) rfl ?_))))
      exact ⟨iE (aMn b (by omega) (by omega) (by omega) (by omega) (by omega)).symm, M16.below⟩
     ·refine aM (dJ (aC (aA (wq (bQ rfl rfl (by first | decide | omega) (by first | decide | omega)) rfl (aS 27 (.int .i64 5) (iE (by first | decide | omega)) (aY rfl rfl ?_))))))
      refine aB (aC (iC (aD (aA (cY rfl rfl rfl rfl (oG 19 rfl (by first | decide | omega) (aB (aC (aD ?_)))))))))
      refine cQ rfl (aM (aC (aD (aT (aD (aA (wq (mO 5 _ rT kQ rfl rfl (by decide) (by decide) rfl rfl) rfl (aP qC M16 rfl rfl (fun b17 w17 M17 => (bB 6 _ kQ M17 rfl rfl rfl rfl rfl (aQ rfl) rfl (fun w18 M18 => (aB (aC (aD (aA ?_)))))))))))))))
      refine wq (aE 0 mX rfl) rfl (wq (aK 6 (.func _ _ _) aCr M18 rfl rfl rfl) rfl (bX bDu rfl rfl (aFi _ b _ (lX 0 M18 rfl rfl)) ?_))
      rintro v19 w19 ⟨rfl, hb19⟩
      have M19 := M18.callB hb19
      refine wq (tE rfl) rfl (aB (aC ?_))
      refine bE rfl (fun h24 => ?_) (fun h24 => ?_)
      ·refine aD (aA (wq (aE 1 nD rfl) rfl (wq (aK 6 (.int _ _) oY M19 rfl rfl rfl) rfl (bP rfl rfl (aB (aC (aN (jN ?_))))))))
       refine cJ (cJ (jN (cJ (cB (.int _ _) rfl ?_))))
       exact ⟨iE (aMu b (by omega) (by omega) (by omega) (by omega) (by omega) (by omega)).symm, M19.below⟩
      ·refine aM (dJ (aC (aA (wq (bQ rfl rfl (by first | decide | omega) (by first | decide | omega)) rfl (aS 27 (.int .i64 6) (iE (by first | decide | omega)) (aY rfl rfl ?_))))))
       refine aB (aC (iC (aD (aA (cY rfl rfl rfl rfl (tW 19 rfl (by first | decide | omega) (aB (aC (aD ?_)))))))))
       refine cC rfl (cO (dC (dC (eV (aC (aD (aA (bP rfl rfl ?_))))))))
       refine aB (aC (aN (cB (.int _ _) rfl ?_)))
       exact ⟨iE (aWq b (by omega) (by omega) (by omega) (by omega) (by omega) (by omega)).symm, M19.below⟩
set_option maxHeartbeats 4000000 in
theorem vU (w : World) (x : Int) :
  Calls Tryz.prog 151 #[.int .u32 x] w (fun ex w' => ∃ v, ex = .returned v ∧ (fun v w' => v = .bool false ∧ w' = w) v w') := by
 refine aH #[.tmp 2] 6 Tryz.func151 rfl Tryz.results151 Tryz.ntmps151 rfl ?_
 have M0 := Mem.refl w
 refine aD (aA (wq (aI (.bool false) rfl) rfl (aB (aC (aD (aA (aY rfl rfl (aY rfl rfl (cY rfl rfl rfl rfl ?_)))))))))
 refine wq (aI (.bool (decide _)) rfl) rfl (aB (aC (aN (cB (.bool (decide _)) rfl ?_))))
 exact ⟨(bF (by omega)).symm, rfl⟩
set_option maxHeartbeats 4000000 in
theorem kD (w : World) (x y : Int) :
  Calls Tryz.prog 116 #[.int .u32 x, .int .u32 y] w (fun ex w' => ∃ v, ex = .returned v ∧ (fun v w' => v = .int .i64 (lB x y) ∧ w' = w) v w') := by
 refine aH #[.tmp 4] 20 Tryz.func116 rfl Tryz.results116 Tryz.ntmps116 rfl ?_
 have M0 := Mem.refl w
 refine aD (aA (bP rfl rfl (aB (aC (aD (aA (aY rfl rfl (bX aRs rfl rfl (vU _ _) ?_))))))))
 rintro v1 w1 ⟨rfl, rfl⟩
 have M1 : Mem _ _ [] _ := M0
 refine wq (aI (.bool false) rfl) rfl (aB (aC (aD (aA (aY rfl rfl (bX aRs rfl rfl (vU _ _) ?_))))))
 rintro v2 w2 ⟨rfl, rfl⟩
 have M2 : Mem _ _ [] _ := M1
 refine wq (aI (.bool false) rfl) rfl (aB (aC (aD (aD (aA (wq (aG (.bool false) rfl) rfl (aB (aC (cC rfl (aM (aC (aD (aD (aA ?_))))))))))))))
 refine wq (aG (.bool false) rfl) rfl (aB (aC (cC rfl (aM (aC (aD (aD (aA (aY rfl rfl (aY rfl rfl ?_))))))))))
 refine cY rfl rfl rfl rfl (aB (aC ?_))
 refine bE rfl (fun h16 => ?_) (fun h16 => ?_)
 ·refine aD (aA (bP rfl rfl (aB (aC (aN (cJ (cB (.int _ _) rfl ?_)))))))
  exact ⟨iE (by unfold lB; (repeat' split) <;> omega), rfl⟩
 ·refine aM (aC (aD (aD (aA (aY rfl rfl (aY rfl rfl (cY rfl rfl rfl rfl (aB (aC ?_)))))))))
  refine bE rfl (fun h19 => ?_) (fun h19 => ?_)
  ·refine aD (aA (bP rfl rfl (aB (aC (aN (cJ (cB (.int _ _) rfl ?_)))))))
   exact ⟨iE (by unfold lB; (repeat' split) <;> omega), rfl⟩
  ·refine aM (aC (aD (aA (bP rfl rfl (aB (aC (aN (cB (.int _ _) rfl ?_))))))))
   exact ⟨iE (by unfold lB; (repeat' split) <;> omega), rfl⟩
set_option maxHeartbeats 4000000 in
theorem aAp (a b : Body) (w : World) :
  Calls Tryz.prog 115 #[(.agg (aF a).toArray), (.agg (aF b).toArray)] w (fun ex w' => ∃ v, ex = .returned v ∧ (fun v w' => v = .int .i64 (lB a.key b.key) ∧ ∃ q os, w' = Go.Sort.grow (w.drewN q) os) v w') := by
 refine aH #[.tmp 4] 10 Tryz.func115 rfl Tryz.results115 Tryz.ntmps115 rfl ?_
 have M0 := Mem.refl w
 refine aD (aA (wV (.agg (List.toArray _)) M0 rfl rfl rfl (fun M1 => (wV (.agg (List.toArray _)) M1 rfl rfl rfl (fun M2 => (bP rfl rfl (aB (aC (aD (aA (wq (aE 0 eX rfl) rfl ?_)))))))))))
 refine wq (aK 0 (.int _ _) bY M2 rfl rfl rfl) rfl (wq (aE 0 eX rfl) rfl (wq (aK 1 (.int _ _) bY M2 rfl rfl rfl) rfl (bX aEq rfl rfl (kD _ _ _) ?_)))
 rintro v3 w3 ⟨rfl, rfl⟩
 have M3 : Mem _ _ [_, _] _ := M2
 refine bP rfl rfl (aB (aC (aN (cB (.int _ _) rfl ?_))))
 exact ⟨rfl, bHv _ _ _⟩
set_option maxHeartbeats 4000000 in
theorem aAu (w : World) (A : Option Addr) (n c : Nat) (ls : List (List Value)) (R : Rd w 10 A n ls) (h1 : ∀ y ∈ ls, ∀ u ∈ y, one u = true) (hn : n ≤ 1048576) :
  Calls Tryz.prog 64 #[.slice A n c] w (fun ex w' => ∃ v, ex = .returned v ∧ (fun v w' => ∃ A' n' c' e, v = .slice A' n' c' ∧ aU 39 10 A' n' c' ls e ∧ Mem w [] [e] w' ∧ A'.isSome = A.isSome) v w') := by
 refine aH #[.tmp 2] 8 Tryz.func64 rfl Tryz.results64 Tryz.ntmps64 rfl ?_
 have M0 := Mem.refl w
 refine aD (aA (fL rfl rfl (aB (aC (aD (aD (aA (eC rfl rfl (wq (aDi _ Tryz.underlying29 rfl rfl) rfl (aB (aC ?_)))))))))))
 refine iS _ rfl (fun h4 => ?_) (fun h4 => ?_)
 ·refine aD (aA (fL rfl rfl (aB (aC (aN (cJ (cB (.slice _ _ _) rfl ?_)))))))
  have hA : A = none := by cases A <;> simp_all
  have hl : ls = [] := by
   rcases Nat.eq_zero_or_pos n with h | h
   ·subst h; exact List.eq_nil_of_length_eq_zero R.len
   ·have := R.some h; rw [hA] at this; cases this
  subst hA; subst hl
  exact ⟨_, _, _, _, rfl, aU.nil 39 10 default, M0.dummy default, rfl⟩
 ·refine aM (aC (aD (aA (cV [] [] rfl fE M0 rfl rfl rfl rfl (dD rfl) (by decide) (fun b1 w1 M1 => (eC rfl rfl (aKu 0 ls fE M1 rfl rfl rfl rfl rfl (aU.empty b1) (R.mem M1) h1 (by omega) (fun A2 c2 e2 w2 M2 hR2 hA2 => ?_))))))))
  have hAA := hA2
  refine fL rfl rfl (aB (aC (aN (cB (.slice _ _ _) rfl ?_))))
  refine ⟨_, _, _, _, rfl, by simpa using hR2, M2, ?_⟩
  rw [hAA rfl]; cases A <;> simp_all
end Go.Proofs.YtaoaknafiegfoaaGreatDoor
