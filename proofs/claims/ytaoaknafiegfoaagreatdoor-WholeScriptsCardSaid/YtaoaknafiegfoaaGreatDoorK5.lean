/- Part of the proof of the laws of this seat: Ty, T26, T25, T20, T20r, T20l, T21, T22, T23, T23l, T24, R5, R6, Bd, Lib, St. No conditions. -/
import Derived.Test.YtaoaknafiegfoaaGreatDoorProg
import Derived.Test.YtaoaknafiegfoaaGreatDoorK2
import Derived.Test.YtaoaknafiegfoaaGreatDoorK3
import Derived.Test.YtaoaknafiegfoaaGreatDoorK4
import Derived.KernelRfl
set_option linter.unusedVariables false
set_option linter.unusedSimpArgs false
set_option linter.unnecessarySimpa false
namespace Go.Proofs.YtaoaknafiegfoaaGreatDoor
open Go.Bil
open Go.Proofs
theorem bW : iZ Tryz.prog 35 = true := by kernel_rfl
theorem aT : iZ Tryz.prog 21 = true := by kernel_rfl
theorem aUx : ∀ (d : Nat) (w : World) (x0 x1 y0 y1 : Int), (Op.equalIn (d + 2) 37 (.agg [.int .i32 x0, .int .i32 x1].toArray) (.agg [.int .i32 y0, .int .i32 y1].toArray)).run Tryz.prog w = .ok (decide (x0 = y0 ∧ x1 = y1)) w := fun d w x0 x1 y0 y1 => by
  have h := zG (P := Tryz.prog) (T := 37) (dd := d + 1) (xs := [.int .i32 x0, .int .i32 x1]) (ys := [.int .i32 y0, .int .i32 y1]) (w := w) Tryz.underlying37 (by kernel_rfl) (kD rfl (mJ aT rfl) (mJ aT rfl) (sW (dd := d + 0) Tryz.underlying21) (kD rfl (mJ aT rfl) (mJ aT rfl) (sW (dd := d + 0) Tryz.underlying21) (aKi)))
  refine h.trans (congrArg (fun r => Result.ok r w) ?_)
  simp only [Bool.decide_and, Bool.and_true, Bool.and_assoc]
theorem bL : jB Tryz.prog 37 = some 2 := by kernel_rfl
theorem bQm : ∀ (d : Nat) (w : World) (x0 x1 x2 x3 x4 x5 x6 x7 x8 x9 y0 y1 y2 y3 y4 y5 y6 y7 y8 y9 : Int), (Op.equalIn (d + 3) 39 (.agg [.int .u32 x0, .int .i32 x1, .int .i32 x2, .int .i32 x3, .int .i32 x4, .int .i32 x5, .int .i32 x6, .int .i32 x7, .int .i32 x8, .int .i32 x9].toArray) (.agg [.int .u32 y0, .int .i32 y1, .int .i32 y2, .int .i32 y3, .int .i32 y4, .int .i32 y5, .int .i32 y6, .int .i32 y7, .int .i32 y8, .int .i32 y9].toArray)).run Tryz.prog w = .ok (decide (x0 = y0 ∧ x1 = y1 ∧ x2 = y2 ∧ x3 = y3 ∧ x4 = y4 ∧ x5 = y5 ∧ x6 = y6 ∧ x7 = y7 ∧ x8 = y8 ∧ x9 = y9)) w := fun d w x0 x1 x2 x3 x4 x5 x6 x7 x8 x9 y0 y1 y2 y3 y4 y5 y6 y7 y8 y9 => by
  have h := zG (P := Tryz.prog) (T := 39) (dd := d + 2) (xs := [.int .u32 x0, .int .i32 x1, .int .i32 x2, .int .i32 x3, .int .i32 x4, .int .i32 x5, .int .i32 x6, .int .i32 x7, .int .i32 x8, .int .i32 x9]) (ys := [.int .u32 y0, .int .i32 y1, .int .i32 y2, .int .i32 y3, .int .i32 y4, .int .i32 y5, .int .i32 y6, .int .i32 y7, .int .i32 y8, .int .i32 y9]) (w := w) Tryz.underlying39 (by kernel_rfl) (kD rfl (mJ bW rfl) (mJ bW rfl) (sW (dd := d + 1) Tryz.underlying35) (kD rfl (mJ aT rfl) (mJ aT rfl) (sW (dd := d + 1) Tryz.underlying21) (kD rfl (aFm bL rfl) (aFm bL rfl) (aUx (d + 0) w x2 x3 y2 y3) (kD rfl (mJ aT rfl) (mJ aT rfl) (sW (dd := d + 1) Tryz.underlying21) (kD rfl (mJ aT rfl) (mJ aT rfl) (sW (dd := d + 1) Tryz.underlying21) (kD rfl (aFm bL rfl) (aFm bL rfl) (aUx (d + 0) w x6 x7 y6 y7) (kD rfl (aFm bL rfl) (aFm bL rfl) (aUx (d + 0) w x8 x9 y8 y9) (aKi))))))))
  refine h.trans (congrArg (fun r => Result.ok r w) ?_)
  simp only [Bool.decide_and, Bool.and_true, Bool.and_assoc]
theorem bSg : ∀ (x0 x1 x2 x3 x4 x5 x6 x7 x8 x9 y0 y1 y2 y3 y4 y5 y6 y7 y8 y9 : Int), EqA Tryz.prog 39 [.int .u32 x0, .int .i32 x1, .int .i32 x2, .int .i32 x3, .int .i32 x4, .int .i32 x5, .int .i32 x6, .int .i32 x7, .int .i32 x8, .int .i32 x9] [.int .u32 y0, .int .i32 y1, .int .i32 y2, .int .i32 y3, .int .i32 y4, .int .i32 y5, .int .i32 y6, .int .i32 y7, .int .i32 y8, .int .i32 y9] (decide (x0 = y0 ∧ x1 = y1 ∧ x2 = y2 ∧ x3 = y3 ∧ x4 = y4 ∧ x5 = y5 ∧ x6 = y6 ∧ x7 = y7 ∧ x8 = y8 ∧ x9 = y9)) := fun x0 x1 x2 x3 x4 x5 x6 x7 x8 x9 y0 y1 y2 y3 y4 y5 y6 y7 y8 y9 => ⟨by kernel_rfl, fun w => bQm 9997 w x0 x1 x2 x3 x4 x5 x6 x7 x8 x9 y0 y1 y2 y3 y4 y5 y6 y7 y8 y9⟩
theorem bO : jB Tryz.prog 39 = some 10 := by kernel_rfl
theorem bPd : aU Tryz.prog 115 = true := by kernel_rfl
theorem bMg : ∀ (d : Nat) (w : World) (x0 x1 y0 y1 : Int), (Op.equalIn (d + 2) 209 (.agg [.int .u32 x0, .int .u32 x1].toArray) (.agg [.int .u32 y0, .int .u32 y1].toArray)).run Tryz.prog w = .ok (decide (x0 = y0 ∧ x1 = y1)) w := fun d w x0 x1 y0 y1 => by
  have h := zG (P := Tryz.prog) (T := 209) (dd := d + 1) (xs := [.int .u32 x0, .int .u32 x1]) (ys := [.int .u32 y0, .int .u32 y1]) (w := w) Tryz.underlying209 (by kernel_rfl) (kD rfl (mJ bW rfl) (mJ bW rfl) (sW (dd := d + 0) Tryz.underlying35) (kD rfl (mJ bW rfl) (mJ bW rfl) (sW (dd := d + 0) Tryz.underlying35) (aKi)))
  refine h.trans (congrArg (fun r => Result.ok r w) ?_)
  simp only [Bool.decide_and, Bool.and_true, Bool.and_assoc]
theorem bOl : ∀ (x0 x1 y0 y1 : Int), EqA Tryz.prog 209 [.int .u32 x0, .int .u32 x1] [.int .u32 y0, .int .u32 y1] (decide (x0 = y0 ∧ x1 = y1)) := fun x0 x1 y0 y1 => ⟨by kernel_rfl, fun w => bMg 9998 w x0 x1 y0 y1⟩
theorem jG : jB Tryz.prog 209 = some 2 := by kernel_rfl
theorem bLh : aU Tryz.prog 213 = true := by kernel_rfl
theorem bRv : mH Tryz.prog 209 = some (.agg [.int .u32 0, .int .u32 0].toArray) := by kernel_rfl
theorem iJ : iZ Tryz.prog 3 = true := by kernel_rfl
theorem pC : iZ Tryz.prog 4 = true := by kernel_rfl
theorem lH : eN Tryz.prog 39 1 1 = true := by kernel_rfl
theorem iP : eN Tryz.prog 39 2 2 = true := by kernel_rfl
theorem cR : eN Tryz.prog 37 0 0 = true := by kernel_rfl
theorem aIo : aU Tryz.prog 62 = true := by kernel_rfl
theorem cO : eN Tryz.prog 37 1 1 = true := by kernel_rfl
theorem eH : eN Tryz.prog 39 3 4 = true := by kernel_rfl
theorem mY : eN Tryz.prog 39 4 5 = true := by kernel_rfl
theorem fI : eN Tryz.prog 39 5 6 = true := by kernel_rfl
theorem dV : eN Tryz.prog 39 6 8 = true := by kernel_rfl
theorem dH : fR Tryz.prog 29 39 10 40 = true := by kernel_rfl
theorem dL : eN Tryz.prog 39 0 0 = true := by kernel_rfl
theorem mixed : Tryz.prog.follows .mixedOrders = true := by kernel_rfl
theorem aQd : aU Tryz.prog 139 = true := by kernel_rfl
theorem oM : gH Tryz.prog 194 [.nilFunc, .int .i64 0] [(0, 1), (1, 1)] := eT Tryz.underlying194 (by kernel_rfl) (by kernel_rfl) (by kernel_rfl)
theorem wG : zR Tryz.prog 196 6 194 2 = true := by kernel_rfl
theorem bFk : gO Tryz.prog 196 = some [.nilFunc, .int .i64 0, .nilFunc, .int .i64 0, .nilFunc, .int .i64 0, .nilFunc, .int .i64 0, .nilFunc, .int .i64 0, .nilFunc, .int .i64 0] := by kernel_rfl
theorem nV : jB Tryz.prog 194 = some 2 := by kernel_rfl
theorem uU : gO Tryz.prog 194 = some [.nilFunc, .int .i64 0] := by kernel_rfl
theorem qY : eN Tryz.prog 194 0 0 = true := by kernel_rfl
theorem aGx : iZ Tryz.prog 23 = true := by kernel_rfl
theorem bNs : aU Tryz.prog 137 = true := by kernel_rfl
theorem rA : eN Tryz.prog 194 1 1 = true := by kernel_rfl
theorem aCo : iZ Tryz.prog 30 = true := by kernel_rfl
theorem bOa : aU Tryz.prog 138 = true := by kernel_rfl
theorem bKl : aU Tryz.prog 140 = true := by kernel_rfl
theorem bMm : aU Tryz.prog 141 = true := by kernel_rfl
theorem bLc : aU Tryz.prog 142 = true := by kernel_rfl
theorem bKt : aU Tryz.prog 143 = true := by kernel_rfl
theorem aQq : aU Tryz.prog 102 = true := by kernel_rfl
theorem lE : eN Tryz.prog 103 1 1 = true := by kernel_rfl
theorem qE : iZ Tryz.prog 101 = true := by kernel_rfl
theorem sQ : zA Tryz.prog 101 35 3 .u32 = true := by kernel_rfl
theorem zv3 : mH Tryz.prog 3 = some (.int .i64 0) := by kernel_rfl
theorem gY : eN Tryz.prog 103 0 0 = true := by kernel_rfl
theorem fX : iZ Tryz.prog 29 = true := by kernel_rfl
theorem fN : gO Tryz.prog 39 = some [.int .u32 0, .int .i32 0, .int .i32 0, .int .i32 0, .int .i32 0, .int .i32 0, .int .i32 0, .int .i32 0, .int .i32 0, .int .i32 0] := by kernel_rfl
theorem sT : gH Tryz.prog 39 [.int .u32 0, .int .i32 0, .int .i32 0, .int .i32 0, .int .i32 0, .int .i32 0, .int .i32 0, .int .i32 0, .int .i32 0, .int .i32 0] [(0, 1), (1, 1), (2, 2), (4, 1), (5, 1), (6, 2), (8, 2)] := eT Tryz.underlying39 (by kernel_rfl) (by kernel_rfl) (by kernel_rfl)
theorem bEy : aU Tryz.prog 151 = true := by kernel_rfl
theorem aJb : aU Tryz.prog 116 = true := by kernel_rfl
theorem bQh : aU Tryz.prog 64 = true := by kernel_rfl
theorem bOj : aU Tryz.prog 114 = true := by kernel_rfl
theorem bKi : aU Tryz.prog 27 = true := by kernel_rfl
theorem sI : aU Tryz.prog 99 = true := by kernel_rfl
theorem aJi : aU Tryz.prog 126 = true := by kernel_rfl
theorem bQf : aU Tryz.prog 94 = true := by kernel_rfl
theorem bKr : aU Tryz.prog 119 = true := by kernel_rfl
theorem bLj : aU Tryz.prog 103 = true := by kernel_rfl
theorem us3 : (Tryz.prog.underlying 3).isSome = true := by kernel_rfl
theorem bQy : (Tryz.prog.underlying 178).isSome = true := by kernel_rfl
theorem bEt : aU Tryz.prog 188 = true := by kernel_rfl
theorem bMs : aU Tryz.prog 187 = true := by kernel_rfl
theorem bCt : aU Tryz.prog 253 = true := by kernel_rfl
theorem aKu : gO Tryz.prog 253 = some [.int .i32 0, .int .i32 0, .int .i32 0, .int .i32 0] := by kernel_rfl
theorem bOg : aU Tryz.prog 229 = true := by kernel_rfl
theorem aId : gH Tryz.prog 253 [.int .i32 0, .int .i32 0, .int .i32 0, .int .i32 0] [(0, 1), (1, 1), (2, 1), (3, 1)] := eT Tryz.underlying253 (by kernel_rfl) (by kernel_rfl) (by kernel_rfl)
theorem kV : jB Tryz.prog 253 = some 4 := by kernel_rfl
theorem xO : eN Tryz.prog 253 0 0 = true := by kernel_rfl
theorem xV : eN Tryz.prog 253 2 2 = true := by kernel_rfl
theorem yA : eN Tryz.prog 253 1 1 = true := by kernel_rfl
theorem wO : eN Tryz.prog 253 3 3 = true := by kernel_rfl
theorem aRz : aU Tryz.prog 231 = true := by kernel_rfl
theorem bOq : aU Tryz.prog 232 = true := by kernel_rfl
theorem rI : gO Tryz.prog 283 = some [.int .i32 0, .int .i32 0] := by kernel_rfl
theorem aHn : gH Tryz.prog 283 [.int .i32 0, .int .i32 0] [(0, 1), (1, 1)] := eT Tryz.underlying283 (by kernel_rfl) (by kernel_rfl) (by kernel_rfl)
theorem jX : jB Tryz.prog 283 = some 2 := by kernel_rfl
theorem eK : gH Tryz.prog 37 [.int .i32 0, .int .i32 0] [(0, 1), (1, 1)] := eT Tryz.underlying37 (by kernel_rfl) (by kernel_rfl) (by kernel_rfl)
theorem bEh : aU Tryz.prog 267 = true := by kernel_rfl
theorem bNu : aU Tryz.prog 254 = true := by kernel_rfl
theorem aUj : gO Tryz.prog 4 = some [.bool false] := by kernel_rfl
theorem aEo : eN Tryz.prog 283 1 1 = true := by kernel_rfl
theorem aDx : eN Tryz.prog 283 0 0 = true := by kernel_rfl
theorem bHu : gO Tryz.prog 281 = some [.slice none 0 0] := by kernel_rfl
theorem bOh : aU Tryz.prog 230 = true := by kernel_rfl
theorem bNc : aU Tryz.prog 255 = true := by kernel_rfl
theorem aQm : iZ Tryz.prog 281 = true := by kernel_rfl
theorem aZm : fR Tryz.prog 281 283 2 8 = true := by kernel_rfl
theorem dQ : (Tryz.prog.underlying 21).isSome = true := by kernel_rfl
theorem bAy : zR Tryz.prog 323 2 35 1 = true := by kernel_rfl
theorem uV : (Tryz.prog.underlying 35).isSome = true := by kernel_rfl
theorem bLn : aU Tryz.prog 245 = true := by kernel_rfl
theorem lW : (Tryz.prog.underlying 2).isSome = true := by kernel_rfl
theorem vF : (Tryz.prog.underlying 237).isSome = true := by kernel_rfl
theorem tI : aU Tryz.prog 222 = true := by kernel_rfl
theorem aQf : aU Tryz.prog 221 = true := by kernel_rfl
theorem aZy : aU Tryz.prog 223 = true := by kernel_rfl
theorem aIr : aU Tryz.prog 224 = true := by kernel_rfl
theorem aJr : aU Tryz.prog 246 = true := by kernel_rfl
theorem bBq : aU Tryz.prog 240 = true := by kernel_rfl
theorem aOz : aU Tryz.prog 216 = true := by kernel_rfl
theorem bPe : aU Tryz.prog 242 = true := by kernel_rfl
theorem iD : gO Tryz.prog 37 = some [.int .i32 0, .int .i32 0] := by kernel_rfl
theorem bCr : aU Tryz.prog 218 = true := by kernel_rfl
theorem bEn : aU Tryz.prog 241 = true := by kernel_rfl
theorem aFh : aU Tryz.prog 239 = true := by kernel_rfl
theorem iX : iZ Tryz.prog 2 = true := by kernel_rfl
theorem aJo : aU Tryz.prog 189 = true := by kernel_rfl
theorem bMh : aU Tryz.prog 282 = true := by kernel_rfl
theorem aDl : gO Tryz.prog 2 = some [.int .i64 0] := by kernel_rfl
theorem aZg : aU Tryz.prog 283 = true := by kernel_rfl
theorem cQ : iZ Tryz.prog 237 = true := by kernel_rfl
theorem bFv : gO Tryz.prog 237 = some [.int .u64 0] := by kernel_rfl
theorem yW : zR Tryz.prog 369 2 37 2 = true := by kernel_rfl
theorem aTy : gO Tryz.prog 369 = some [.int .i32 0, .int .i32 0, .int .i32 0, .int .i32 0] := by kernel_rfl
theorem aJc : aU Tryz.prog 277 = true := by kernel_rfl
theorem aKn : aU Tryz.prog 276 = true := by kernel_rfl
theorem bOb : aU Tryz.prog 259 = true := by kernel_rfl
theorem xP : gO Tryz.prog 296 = some [.int .u32 0, .int .i32 0, .int .i32 0, .int .i32 0, .int .i32 0, .int .i32 0, .int .i32 0, .int .i32 0, .int .i32 0, .int .i32 0, .int .i32 0, .int .i32 0, .int .i32 0, .int .i32 0] := by kernel_rfl
theorem bPh : aU Tryz.prog 258 = true := by kernel_rfl
theorem aVd : gH Tryz.prog 296 [.int .u32 0, .int .i32 0, .int .i32 0, .int .i32 0, .int .i32 0, .int .i32 0, .int .i32 0, .int .i32 0, .int .i32 0, .int .i32 0, .int .i32 0, .int .i32 0, .int .i32 0, .int .i32 0] [(0, 10), (10, 2), (12, 2)] := eT Tryz.underlying296 (by kernel_rfl) (by kernel_rfl) (by kernel_rfl)
theorem nU : jB Tryz.prog 296 = some 14 := by kernel_rfl
theorem aKc : aU Tryz.prog 237 = true := by kernel_rfl
theorem aNe : eN Tryz.prog 296 1 10 = true := by kernel_rfl
theorem aNn : eN Tryz.prog 296 2 12 = true := by kernel_rfl
theorem bMn : aU Tryz.prog 238 = true := by kernel_rfl
theorem wU : eN Tryz.prog 296 0 0 = true := by kernel_rfl
theorem lZ : gO Tryz.prog 211 = some [.int .u32 0, .int .u32 0, .int .i32 0, .int .i32 0, .int .i32 0] := by kernel_rfl
theorem bKx : aU Tryz.prog 214 = true := by kernel_rfl
theorem bNj : aU Tryz.prog 215 = true := by kernel_rfl
theorem uG : gH Tryz.prog 211 [.int .u32 0, .int .u32 0, .int .i32 0, .int .i32 0, .int .i32 0] [(0, 2), (2, 2), (4, 1)] := eT Tryz.underlying211 (by kernel_rfl) (by kernel_rfl) (by kernel_rfl)
theorem eQ : jB Tryz.prog 211 = some 5 := by kernel_rfl
theorem yU : gH Tryz.prog 209 [.int .u32 0, .int .u32 0] [(0, 1), (1, 1)] := eT Tryz.underlying209 (by kernel_rfl) (by kernel_rfl) (by kernel_rfl)
theorem uK : gO Tryz.prog 209 = some [.int .u32 0, .int .u32 0] := by kernel_rfl
theorem bNg : aU Tryz.prog 217 = true := by kernel_rfl
theorem aLq : eN Tryz.prog 250 1 1024 = true := by kernel_rfl
theorem bPo : aU Tryz.prog 204 = true := by kernel_rfl
theorem bOu : aU Tryz.prog 205 = true := by kernel_rfl
theorem bCc : zA Tryz.prog 280 3 4 .i64 = true := by kernel_rfl
theorem zv4 : mH Tryz.prog 4 = some (.bool false) := by kernel_rfl
theorem aEz : eN Tryz.prog 250 0 0 = true := by kernel_rfl
theorem aQz : zR Tryz.prog 248 1024 247 1 = true := by kernel_rfl
theorem aIt : iZ Tryz.prog 247 = true := by kernel_rfl
theorem aMd : fR Tryz.prog 247 35 1 4 = true := by kernel_rfl
theorem aYz : fR Tryz.prog 353 3 1 8 = true := by kernel_rfl
theorem gC : eN Tryz.prog 209 0 0 = true := by kernel_rfl
theorem jS : eN Tryz.prog 209 1 1 = true := by kernel_rfl
theorem bMf : aU Tryz.prog 236 = true := by kernel_rfl
theorem bNz : iZ Tryz.prog 287 = true := by kernel_rfl
theorem bLe : aU Tryz.prog 235 = true := by kernel_rfl
theorem aSb : iZ Tryz.prog 220 = true := by kernel_rfl
theorem xM : fR Tryz.prog 220 209 2 8 = true := by kernel_rfl
theorem bKu : aU Tryz.prog 256 = true := by kernel_rfl
theorem bMt : aU Tryz.prog 233 = true := by kernel_rfl
theorem bLq : aU Tryz.prog 234 = true := by kernel_rfl
theorem bMp : jB Tryz.prog 248 = some 1024 := by kernel_rfl
theorem bLl : aU Tryz.prog 210 = true := by kernel_rfl
theorem aWa : gH Tryz.prog 288 [] [] := eT Tryz.underlying288 (by kernel_rfl) (by kernel_rfl) (by kernel_rfl)
theorem bNy : aU Tryz.prog 212 = true := by kernel_rfl
theorem bMe : aU Tryz.prog 211 = true := by kernel_rfl
theorem bMz : aU Tryz.prog 203 = true := by kernel_rfl
theorem aKb : zA Tryz.prog 245 35 253 .u32 = true := by kernel_rfl
theorem bRn : gO Tryz.prog 3 = some [.int .i64 0] := by kernel_rfl
theorem bCx : iZ Tryz.prog 245 = true := by kernel_rfl
theorem bAw : mH Tryz.prog 253 = some (.agg [.int .i32 0, .int .i32 0, .int .i32 0, .int .i32 0].toArray) := by kernel_rfl
theorem bLg : aU Tryz.prog 207 = true := by kernel_rfl
theorem bAd : aU Tryz.prog 206 = true := by kernel_rfl
theorem bMo : aU Tryz.prog 209 = true := by kernel_rfl
theorem bNv : aU Tryz.prog 180 = true := by kernel_rfl
theorem bLz : aU Tryz.prog 181 = true := by kernel_rfl
theorem bOe : aU Tryz.prog 182 = true := by kernel_rfl
theorem bMk : aU Tryz.prog 184 = true := by kernel_rfl
theorem bMx : aU Tryz.prog 183 = true := by kernel_rfl
theorem bMu : aU Tryz.prog 208 = true := by kernel_rfl
theorem aEv : eN Tryz.prog 219 0 0 = true := by kernel_rfl
theorem aFk : iZ Tryz.prog 217 = true := by kernel_rfl
theorem aEy : zA Tryz.prog 217 35 39 .u32 = true := by kernel_rfl
theorem bHs : mH Tryz.prog 39 = some (.agg [.int .u32 0, .int .i32 0, .int .i32 0, .int .i32 0, .int .i32 0, .int .i32 0, .int .i32 0, .int .i32 0, .int .i32 0, .int .i32 0].toArray) := by kernel_rfl
theorem bAk : aU Tryz.prog 185 = true := by kernel_rfl
theorem sZ : eN Tryz.prog 219 1 1 = true := by kernel_rfl
theorem oQ : iZ Tryz.prog 166 = true := by kernel_rfl
theorem sK : fR Tryz.prog 166 211 5 20 = true := by kernel_rfl
theorem bNe : aU Tryz.prog 159 = true := by kernel_rfl
theorem aXn : gH Tryz.prog 219 [.map none, .slice none 0 0] [(0, 1), (1, 1)] := eT Tryz.underlying219 (by kernel_rfl) (by kernel_rfl) (by kernel_rfl)
theorem bNq : aU Tryz.prog 157 = true := by kernel_rfl
theorem bMw : aU Tryz.prog 158 = true := by kernel_rfl
theorem uB : gO Tryz.prog 344 = some [.int .u64 0, .int .u64 0, .int .u64 0, .int .u64 0, .int .u64 0, .int .u64 0, .int .u64 0, .int .u64 0] := by kernel_rfl
theorem bU : eN Tryz.prog 344 0 0 = true := by kernel_rfl
theorem cY : zR Tryz.prog 342 8 237 1 = true := by kernel_rfl
theorem nW : jB Tryz.prog 344 = some 8 := by kernel_rfl
theorem bDb : aU Tryz.prog 266 = true := by kernel_rfl
theorem bNa : aU Tryz.prog 265 = true := by kernel_rfl
theorem bAe : aU Tryz.prog 251 = true := by kernel_rfl
theorem bCd : aU Tryz.prog 250 = true := by kernel_rfl
theorem bBy : aU Tryz.prog 252 = true := by kernel_rfl
theorem aZu : aU Tryz.prog 199 = true := by kernel_rfl
theorem bNb : aU Tryz.prog 200 = true := by kernel_rfl
theorem aPm : aU Tryz.prog 177 = true := by kernel_rfl
theorem kW : aU Tryz.prog 152 = true := by kernel_rfl
theorem bCq : aU Tryz.prog 247 = true := by kernel_rfl
theorem bOp : aU Tryz.prog 264 = true := by kernel_rfl
theorem bLx : aU Tryz.prog 248 = true := by kernel_rfl
theorem bBj : aU Tryz.prog 249 = true := by kernel_rfl
theorem wJ : eN Tryz.prog 239 1 2 = true := by kernel_rfl
theorem xC : eN Tryz.prog 239 0 0 = true := by kernel_rfl
theorem aBr : gO Tryz.prog 239 = some [.int .i32 0, .int .i32 0, .int .i32 0, .int .i32 0] := by kernel_rfl
theorem uT : gH Tryz.prog 239 [.int .i32 0, .int .i32 0, .int .i32 0, .int .i32 0] [(0, 2), (2, 2)] := eT Tryz.underlying239 (by kernel_rfl) (by kernel_rfl) (by kernel_rfl)
theorem aKt : aU Tryz.prog 226 = true := by kernel_rfl
theorem aTf : fR Tryz.prog 315 239 4 16 = true := by kernel_rfl
theorem lX : jB Tryz.prog 239 = some 4 := by kernel_rfl
theorem aRn : aU Tryz.prog 175 = true := by kernel_rfl
theorem aZc : aU Tryz.prog 197 = true := by kernel_rfl
theorem bDg : aU Tryz.prog 198 = true := by kernel_rfl
theorem bNp : aU Tryz.prog 196 = true := by kernel_rfl
theorem bMb : aU Tryz.prog 174 = true := by kernel_rfl
theorem bNo : aU Tryz.prog 176 = true := by kernel_rfl
theorem aRy : aU Tryz.prog 154 = true := by kernel_rfl
theorem bPb : aU Tryz.prog 284 = true := by kernel_rfl
theorem bMq : aU Tryz.prog 278 = true := by kernel_rfl
theorem gX : eN Tryz.prog 211 1 2 = true := by kernel_rfl
theorem bOt : aU Tryz.prog 260 = true := by kernel_rfl
theorem bPk : aU Tryz.prog 261 = true := by kernel_rfl
theorem bCm : aU Tryz.prog 262 = true := by kernel_rfl
theorem bDs : aU Tryz.prog 263 = true := by kernel_rfl
theorem qU : eN Tryz.prog 303 0 0 = true := by kernel_rfl
theorem fL : eN Tryz.prog 211 0 0 = true := by kernel_rfl
theorem aKk : aU Tryz.prog 161 = true := by kernel_rfl
theorem bOo : aU Tryz.prog 243 = true := by kernel_rfl
theorem aZr : aU Tryz.prog 244 = true := by kernel_rfl
theorem qJ : eN Tryz.prog 303 1 1 = true := by kernel_rfl
theorem nS : iZ Tryz.prog 260 = true := by kernel_rfl
theorem qP : eN Tryz.prog 303 2 2 = true := by kernel_rfl
theorem pO : fR Tryz.prog 260 2 1 8 = true := by kernel_rfl
theorem bLs : aU Tryz.prog 220 = true := by kernel_rfl
theorem aGu : gH Tryz.prog 303 [.slice none 0 0, .slice none 0 0, .slice none 0 0] [(0, 1), (1, 1), (2, 1)] := eT Tryz.underlying303 (by kernel_rfl) (by kernel_rfl) (by kernel_rfl)
theorem bEb : aU Tryz.prog 219 = true := by kernel_rfl
theorem bKk : aU Tryz.prog 186 = true := by kernel_rfl
theorem aPq : aU Tryz.prog 148 = true := by kernel_rfl
theorem bOz : aU Tryz.prog 160 = true := by kernel_rfl
theorem aDh : eN Tryz.prog 211 2 4 = true := by kernel_rfl
theorem aYv : aU Tryz.prog 190 = true := by kernel_rfl
theorem yN : iZ Tryz.prog 127 = true := by kernel_rfl
theorem aCm : fR Tryz.prog 127 177 2 16 = true := by kernel_rfl
theorem aEm : eN Tryz.prog 177 0 0 = true := by kernel_rfl
theorem aCs : eN Tryz.prog 177 1 1 = true := by kernel_rfl
theorem bIi : gO Tryz.prog 177 = some [.int .i64 0, .int .i64 0] := by kernel_rfl
theorem bIu : gO Tryz.prog 127 = some [.slice none 0 0] := by kernel_rfl
theorem bCp : aU Tryz.prog 163 = true := by kernel_rfl
theorem bCg : aU Tryz.prog 162 = true := by kernel_rfl
theorem aHb : fR Tryz.prog 201 174 1 8 = true := by kernel_rfl
theorem bKm : iZ Tryz.prog 174 = true := by kernel_rfl
theorem bKo : aU Tryz.prog 111 = true := by kernel_rfl
theorem aFc : aU Tryz.prog 112 = true := by kernel_rfl
theorem bMl : aU Tryz.prog 110 = true := by kernel_rfl
theorem bBd : aU Tryz.prog 109 = true := by kernel_rfl
theorem bOy : aU Tryz.prog 113 = true := by kernel_rfl
theorem bQj : aU Tryz.prog 66 = true := by kernel_rfl
theorem bPy : aU Tryz.prog 67 = true := by kernel_rfl
theorem xS : eN Tryz.prog 168 1 1 = true := by kernel_rfl
theorem qT : eN Tryz.prog 168 3 3 = true := by kernel_rfl
theorem wW : eN Tryz.prog 58 2 2 = true := by kernel_rfl
theorem aCk : eN Tryz.prog 168 0 0 = true := by kernel_rfl
theorem bOk : aU Tryz.prog 144 = true := by kernel_rfl
theorem wZ : eN Tryz.prog 168 2 2 = true := by kernel_rfl
theorem aUn : eN Tryz.prog 58 0 0 = true := by kernel_rfl
theorem aKl : eN Tryz.prog 58 1 1 = true := by kernel_rfl
theorem aPk : aU Tryz.prog 145 = true := by kernel_rfl
theorem bMv : aU Tryz.prog 146 = true := by kernel_rfl
theorem bOx : aU Tryz.prog 147 = true := by kernel_rfl
theorem wA : gO Tryz.prog 58 = some [.int .i64 0, .int .i64 0, .bool false] := by kernel_rfl
theorem aXa : gH Tryz.prog 168 [.slice none 0 0, .slice none 0 0, .slice none 0 0, .int .i64 0, .int .i64 0, .bool false] [(0, 1), (1, 1), (2, 1), (3, 3)] := eT Tryz.underlying168 (by kernel_rfl) (by kernel_rfl) (by kernel_rfl)
theorem aEh : zR Tryz.prog 170 4 169 1 = true := by kernel_rfl
theorem bFn : gO Tryz.prog 170 = some [.nilFunc, .nilFunc, .nilFunc, .nilFunc] := by kernel_rfl
theorem aKh : iZ Tryz.prog 169 = true := by kernel_rfl
theorem bLk : aU Tryz.prog 105 = true := by kernel_rfl
theorem bLw : aU Tryz.prog 106 = true := by kernel_rfl
theorem bOr : aU Tryz.prog 107 = true := by kernel_rfl
theorem bOv : aU Tryz.prog 108 = true := by kernel_rfl
theorem qK : jB Tryz.prog 58 = some 3 := by kernel_rfl
theorem bJa : aU Tryz.prog 65 = true := by kernel_rfl
theorem bMr : aU Tryz.prog 227 = true := by kernel_rfl
theorem bBb : aU Tryz.prog 228 = true := by kernel_rfl
theorem bAs : aU Tryz.prog 201 = true := by kernel_rfl
theorem aJt : aU Tryz.prog 202 = true := by kernel_rfl
theorem aYs : aU Tryz.prog 178 = true := by kernel_rfl
theorem wF : aU Tryz.prog 153 = true := by kernel_rfl
theorem bKp : aU Tryz.prog 155 = true := by kernel_rfl
theorem bKw : aU Tryz.prog 179 = true := by kernel_rfl
theorem bGb : gO Tryz.prog 214 = some [.int .i64 0, .int .i64 0] := by kernel_rfl
theorem bEz : aU Tryz.prog 156 = true := by kernel_rfl
theorem kY : eN Tryz.prog 214 0 0 = true := by kernel_rfl
theorem kX : eN Tryz.prog 214 1 1 = true := by kernel_rfl
theorem bOn : jB Tryz.prog 214 = some 2 := by kernel_rfl
theorem aIb : fR Tryz.prog 189 214 2 16 = true := by kernel_rfl
theorem bNf : aU Tryz.prog 128 = true := by kernel_rfl
theorem bLp : aU Tryz.prog 129 = true := by kernel_rfl
theorem bNn : aU Tryz.prog 130 = true := by kernel_rfl
theorem bNt : aU Tryz.prog 132 = true := by kernel_rfl
theorem bKz : aU Tryz.prog 131 = true := by kernel_rfl
theorem gL : fR Tryz.prog 31 5 1 1 = true := by kernel_rfl
theorem aJf : gO Tryz.prog 139 = some [.int .u32 0, .int .u32 0, .int .u32 0, .int .u32 0, .int .u32 0, .int .u32 0, .int .u32 0, .int .u32 0, .int .u32 0, .int .u32 0] := by kernel_rfl
theorem iL : zR Tryz.prog 139 10 35 1 = true := by kernel_rfl
theorem rY : aU Tryz.prog 136 = true := by kernel_rfl
theorem aQc : jB Tryz.prog 139 = some 10 := by kernel_rfl
theorem aGg : iZ Tryz.prog 5 = true := by kernel_rfl
theorem us5 : (Tryz.prog.underlying 5).isSome = true := by kernel_rfl
theorem aPd : aU Tryz.prog 118 = true := by kernel_rfl
theorem bJi : aU Tryz.prog 82 = true := by kernel_rfl
theorem aZk : aU Tryz.prog 100 = true := by kernel_rfl
theorem bLo : aU Tryz.prog 101 = true := by kernel_rfl
theorem tH : aU Tryz.prog 79 = true := by kernel_rfl
theorem sN : aU Tryz.prog 80 = true := by kernel_rfl
theorem bRx : aU Tryz.prog 81 = true := by kernel_rfl
theorem aQo : aU Tryz.prog 133 = true := by kernel_rfl
theorem tW : aU Tryz.prog 59 = true := by kernel_rfl
theorem rK : aU Tryz.prog 134 = true := by kernel_rfl
theorem bKn : aU Tryz.prog 135 = true := by kernel_rfl
theorem tL : eN Tryz.prog 107 0 0 = true := by kernel_rfl
theorem bEs : aU Tryz.prog 60 = true := by kernel_rfl
theorem qN : eN Tryz.prog 105 0 0 = true := by kernel_rfl
theorem bJn : aU Tryz.prog 61 = true := by kernel_rfl
theorem bPg : aU Tryz.prog 122 = true := by kernel_rfl
theorem bOc : aU Tryz.prog 117 = true := by kernel_rfl
theorem bRw : aU Tryz.prog 68 = true := by kernel_rfl
theorem aUp : aU Tryz.prog 38 = true := by kernel_rfl
theorem bRu : aU Tryz.prog 58 = true := by kernel_rfl
theorem bQk : aU Tryz.prog 69 = true := by kernel_rfl
theorem bNw : aU Tryz.prog 124 = true := by kernel_rfl
theorem bNh : aU Tryz.prog 125 = true := by kernel_rfl
theorem aXt : gH Tryz.prog 105 [.slice none 0 0, .map none] [(0, 2)] := eT Tryz.underlying105 (by kernel_rfl) (by kernel_rfl) (by kernel_rfl)
theorem bPi : jB Tryz.prog 105 = some 2 := by kernel_rfl
theorem bCo : aU Tryz.prog 78 = true := by kernel_rfl
theorem bJy : aU Tryz.prog 54 = true := by kernel_rfl
theorem bEe : aU Tryz.prog 127 = true := by kernel_rfl
theorem aIu : gO Tryz.prog 112 = some [.slice none 0 0, .int .i64 0, .int .u32 0, .int .i32 0, .int .i32 0, .int .i32 0, .int .i32 0, .int .i32 0, .int .i32 0, .int .i32 0, .int .i32 0, .int .i32 0, .slice none 0 0, .int .i64 0, .bool false] := by kernel_rfl
theorem aYf : gH Tryz.prog 112 [.slice none 0 0, .int .i64 0, .int .u32 0, .int .i32 0, .int .i32 0, .int .i32 0, .int .i32 0, .int .i32 0, .int .i32 0, .int .i32 0, .int .i32 0, .int .i32 0, .slice none 0 0, .int .i64 0, .bool false] [(0, 1), (1, 1), (2, 10), (12, 1), (13, 1), (14, 1)] := eT Tryz.underlying112 (by kernel_rfl) (by kernel_rfl) (by kernel_rfl)
theorem fO : jB Tryz.prog 112 = some 15 := by kernel_rfl
theorem aZd : eN Tryz.prog 114 0 0 = true := by kernel_rfl
theorem bBc : eN Tryz.prog 114 1 1 = true := by kernel_rfl
theorem rC : eN Tryz.prog 112 0 0 = true := by kernel_rfl
theorem qZ : eN Tryz.prog 112 1 1 = true := by kernel_rfl
theorem aDq : eN Tryz.prog 114 2 11 = true := by kernel_rfl
theorem bQe : aU Tryz.prog 95 = true := by kernel_rfl
theorem bAo : eN Tryz.prog 114 3 12 = true := by kernel_rfl
theorem bRt : aU Tryz.prog 96 = true := by kernel_rfl
theorem bRm : aU Tryz.prog 97 = true := by kernel_rfl
theorem aLe : eN Tryz.prog 112 4 13 = true := by kernel_rfl
theorem aNj : eN Tryz.prog 112 5 14 = true := by kernel_rfl
theorem bJj : aU Tryz.prog 25 = true := by kernel_rfl
theorem aMc : eN Tryz.prog 112 3 12 = true := by kernel_rfl
theorem vJ : iZ Tryz.prog 31 = true := by kernel_rfl
theorem bCf : eN Tryz.prog 114 4 14 = true := by kernel_rfl
theorem bQw : aU Tryz.prog 98 = true := by kernel_rfl
theorem bAu : eN Tryz.prog 112 2 2 = true := by kernel_rfl
theorem bGq : eN Tryz.prog 41 1 1 = true := by kernel_rfl
theorem aUo : eN Tryz.prog 41 2 11 = true := by kernel_rfl
theorem bIq : eN Tryz.prog 41 4 14 = true := by kernel_rfl
theorem bRl : aU Tryz.prog 83 = true := by kernel_rfl
theorem mR : zA Tryz.prog 109 3 34 .i64 = true := by kernel_rfl
theorem bSc : aU Tryz.prog 85 = true := by kernel_rfl
theorem bPx : aU Tryz.prog 88 = true := by kernel_rfl
theorem mC : gO Tryz.prog 33 = some [.int .i64 0, .slice none 0 0, .int .i64 0, .bool false] := by kernel_rfl
theorem aZe : iZ Tryz.prog 143 = true := by kernel_rfl
theorem bLd : iZ Tryz.prog 144 = true := by kernel_rfl
theorem qW : jB Tryz.prog 41 = some 15 := by kernel_rfl
theorem oN : gH Tryz.prog 33 [.int .i64 0, .slice none 0 0, .int .i64 0, .bool false] [(0, 1), (1, 1), (2, 1), (3, 1)] := eT Tryz.underlying33 (by kernel_rfl) (by kernel_rfl) (by kernel_rfl)
theorem bSe : aU Tryz.prog 84 = true := by kernel_rfl
theorem bRj : aU Tryz.prog 26 = true := by kernel_rfl
theorem jA : jB Tryz.prog 33 = some 4 := by kernel_rfl
theorem bEu : iZ Tryz.prog 146 = true := by kernel_rfl
theorem bLr : iZ Tryz.prog 148 = true := by kernel_rfl
theorem bRo : aU Tryz.prog 87 = true := by kernel_rfl
theorem bSf : aU Tryz.prog 86 = true := by kernel_rfl
theorem bDr : iZ Tryz.prog 150 = true := by kernel_rfl
theorem bNx : iZ Tryz.prog 151 = true := by kernel_rfl
theorem bRq : aU Tryz.prog 89 = true := by kernel_rfl
theorem bQr : aU Tryz.prog 74 = true := by kernel_rfl
theorem bIv : eN Tryz.prog 41 3 12 = true := by kernel_rfl
theorem bRa : aU Tryz.prog 91 = true := by kernel_rfl
theorem bJo : aU Tryz.prog 53 = true := by kernel_rfl
theorem bBa : aU Tryz.prog 24 = true := by kernel_rfl
theorem rJ : eN Tryz.prog 41 0 0 = true := by kernel_rfl
theorem aEr : aU Tryz.prog 55 = true := by kernel_rfl
theorem aPc : mH Tryz.prog 34 = some (.nilFunc) := by kernel_rfl
theorem bPm : aU Tryz.prog 120 = true := by kernel_rfl
theorem bMa : aU Tryz.prog 121 = true := by kernel_rfl
theorem bOs : aU Tryz.prog 123 = true := by kernel_rfl
theorem bQp : aU Tryz.prog 90 = true := by kernel_rfl
theorem bRf : aU Tryz.prog 92 = true := by kernel_rfl
theorem bRd : aU Tryz.prog 93 = true := by kernel_rfl
theorem bDe : fR Tryz.prog 27 41 15 88 = true := by kernel_rfl
theorem bPf : gO Tryz.prog 41 = some [.int .i64 0, .int .u32 0, .int .i32 0, .int .i32 0, .int .i32 0, .int .i32 0, .int .i32 0, .int .i32 0, .int .i32 0, .int .i32 0, .int .i32 0, .int .u32 0, .int .i32 0, .int .i32 0, .slice none 0 0] := by kernel_rfl
theorem bJc : aU Tryz.prog 20 = true := by kernel_rfl
theorem bQl : fR Tryz.prog 63 33 4 48 = true := by kernel_rfl
theorem bIj : gO Tryz.prog 107 = some [.slice none 0 0, .map none] := by kernel_rfl
theorem bRp : aU Tryz.prog 33 = true := by kernel_rfl
theorem aKo : fR Tryz.prog 22 46 15 88 = true := by kernel_rfl
theorem aJj : eN Tryz.prog 46 4 14 = true := by kernel_rfl
theorem xT : eN Tryz.prog 46 0 0 = true := by kernel_rfl
theorem bEm : gO Tryz.prog 43 = some [.int .i64 0, .slice none 0 0, .int .i64 0, .bool false] := by kernel_rfl
theorem xB : gH Tryz.prog 43 [.int .i64 0, .slice none 0 0, .int .i64 0, .bool false] [(0, 1), (1, 1), (2, 1), (3, 1)] := eT Tryz.underlying43 (by kernel_rfl) (by kernel_rfl) (by kernel_rfl)
theorem xL : jB Tryz.prog 43 = some 4 := by kernel_rfl
theorem aUg : eN Tryz.prog 46 1 1 = true := by kernel_rfl
theorem aTv : eN Tryz.prog 46 2 11 = true := by kernel_rfl
theorem aUl : eN Tryz.prog 46 3 12 = true := by kernel_rfl
theorem aXz : gH Tryz.prog 114 [.int .i64 0, .int .u32 0, .int .i32 0, .int .i32 0, .int .i32 0, .int .i32 0, .int .i32 0, .int .i32 0, .int .i32 0, .int .i32 0, .int .i32 0, .int .u32 0, .int .i32 0, .int .i32 0, .slice none 0 0] [(0, 1), (1, 10), (11, 1), (12, 2), (14, 1)] := eT Tryz.underlying114 (by kernel_rfl) (by kernel_rfl) (by kernel_rfl)
theorem bRk : aU Tryz.prog 56 = true := by kernel_rfl
theorem bQq : jB Tryz.prog 46 = some 15 := by kernel_rfl
theorem bQb : aU Tryz.prog 21 = true := by kernel_rfl
theorem aTt : eN Tryz.prog 43 0 0 = true := by kernel_rfl
theorem aSn : eN Tryz.prog 43 1 1 = true := by kernel_rfl
theorem bJm : aU Tryz.prog 23 = true := by kernel_rfl
theorem aTl : eN Tryz.prog 43 2 2 = true := by kernel_rfl
theorem aUa : eN Tryz.prog 43 3 3 = true := by kernel_rfl
theorem bGo : eN Tryz.prog 33 0 0 = true := by kernel_rfl
theorem bHw : eN Tryz.prog 33 1 1 = true := by kernel_rfl
theorem bIf : eN Tryz.prog 33 2 2 = true := by kernel_rfl
theorem bIa : eN Tryz.prog 33 3 3 = true := by kernel_rfl
theorem bSd : aU Tryz.prog 57 = true := by kernel_rfl
theorem xR : gH Tryz.prog 41 [.int .i64 0, .int .u32 0, .int .i32 0, .int .i32 0, .int .i32 0, .int .i32 0, .int .i32 0, .int .i32 0, .int .i32 0, .int .i32 0, .int .i32 0, .int .u32 0, .int .i32 0, .int .i32 0, .slice none 0 0] [(0, 1), (1, 10), (11, 1), (12, 2), (14, 1)] := eT Tryz.underlying41 (by kernel_rfl) (by kernel_rfl) (by kernel_rfl)
theorem bJr : aU Tryz.prog 18 = true := by kernel_rfl
theorem bRz : aU Tryz.prog 17 = true := by kernel_rfl
theorem bQv : aU Tryz.prog 37 = true := by kernel_rfl
theorem aTm : aU Tryz.prog 52 = true := by kernel_rfl
theorem bKg : ∀ (x0 x1 y0 y1 : Int), EqA Tryz.prog 37 [.int .i32 x0, .int .i32 x1] [.int .i32 y0, .int .i32 y1] (decide (x0 = y0 ∧ x1 = y1)) := fun x0 x1 y0 y1 => ⟨by kernel_rfl, fun w => aUx 9998 w x0 x1 y0 y1⟩
theorem bJt : aU Tryz.prog 16 = true := by kernel_rfl
theorem bQz : aU Tryz.prog 19 = true := by kernel_rfl
theorem bQi : aU Tryz.prog 22 = true := by kernel_rfl
end Go.Proofs.YtaoaknafiegfoaaGreatDoor

namespace Go.Proofs.YtaoaknafiegfoaaGreatDoor
open Go.Bil
open Go.RowKit (Below)
open Go.Proofs
set_option maxHeartbeats 4000000 in
theorem qM (w : World) (n l : Int) (h0 : 0 ≤ l) (h1 : l ≤ 2147483647) :
  Calls Tryz.prog 62 #[.int .i32 n, .int .i32 l] w (fun ex w' => ∃ v, ex = .returned v ∧ (fun v w' => v = .bool (decide (vR n l)) ∧ Below w.heap.size w w') v w') := by
 have hneg : IntKind.i32.wrap (-l) = -l := iW _ (by omega) (by omega)
 refine aI #[.tmp 4] 14 Tryz.func62 rfl Tryz.results62 Tryz.ntmps62 rfl ?_
 have M0 := Mem.refl w
 refine aE (aA (wq (aJ (.bool false) rfl) rfl (aB (aC (aE (aA (aP rfl rfl (aP rfl rfl (wq (qQ rfl) rfl ?_)))))))))
 refine aK 7 (.int .i32 (-l)) (iE hneg) (cZ rfl rfl rfl rfl (wq (aH (.bool (decide _)) rfl) rfl ?_))
 refine dM 9 rfl (fun g9 => ?_) (fun g9 => ?_)
 ·refine aP rfl rfl (aP rfl rfl (cZ rfl rfl rfl rfl (wq (bR true (.bool (decide _)) rfl rfl) rfl (wq (aJ (.bool (decide _)) rfl) rfl (aB (aC (aO ?_)))))))
  refine cD (.bool (decide _)) rfl ?_
  exact ⟨by unfold vR; first | exact bF (by omega) | exact bD (by omega), M0.below⟩
 ·refine aN rfl rfl (aN rfl rfl (aN rfl rfl (wq (bR false (.bool false) rfl rfl) rfl (wq (aJ (.bool false) rfl) rfl (aB (aC (aO ?_)))))))
  refine cD (.bool false) rfl ?_
  exact ⟨by unfold vR; first | exact bF (by omega) | exact bD (by omega), M0.below⟩
set_option maxHeartbeats 4000000 in
theorem aAd (w : World) (b : Body) :
  Calls Tryz.prog 27 #[(.agg (aF b).toArray)] w (fun ex w' => ∃ v, ex = .returned v ∧ (fun v w' => v = .int .i64 (check b) ∧ Below w.heap.size w w') v w') := by
 refine aI #[.tmp 2] 63 Tryz.func27 rfl Tryz.results27 Tryz.ntmps27 rfl ?_
 have M0 := Mem.refl w
 refine aE (aA (bK (.agg (List.toArray _)) M0 rfl rfl rfl (fun b1 w1 M1 => (bI rfl rfl (aB (aC (aE (aE (aA (wq (aD 1 lH rfl) rfl (wq (aM 0 (.int _ _) aT M1 rfl rfl rfl) rfl ?_)))))))))))
 refine cZ rfl rfl rfl rfl (wq (aH (.bool (decide _)) rfl) rfl ?_)
 refine dM 6 rfl (fun g6 => ?_) (fun g6 => ?_)
 ·refine aN rfl rfl (aN rfl rfl (aN rfl rfl (wq (bR true (.bool true) rfl rfl) rfl (aB (aC (cF rfl ?_))))))
  refine aE (aA (bI rfl rfl (aB (aC (aO (cM (cD (.int _ _) rfl ?_)))))))
  exact ⟨iE (by unfold check; unfold vR at *; (repeat' split) <;> omega), M1.below⟩
 ·refine wq (aD 1 lH rfl) rfl (wq (aM 0 (.int _ _) aT M1 rfl rfl rfl) rfl (cZ rfl rfl rfl rfl (wq (bR false (.bool (decide _)) rfl rfl) rfl (aB (aC ?_)))))
  refine aW rfl (fun h10 => ?_) (fun h10 => ?_)
  ·refine aE (aA (bI rfl rfl (aB (aC (aO (cM (cD (.int _ _) rfl ?_)))))))
   exact ⟨iE (by unfold check; unfold vR at *; (repeat' split) <;> omega), M1.below⟩
  ·refine aL (aC (aE (aE (aA (wq (aD 2 iP rfl) rfl (wq (aD 0 cR rfl) rfl (wq (aM 0 (.int _ _) aT M1 rfl rfl rfl) rfl (bY aIo rfl rfl (qM _ _ _ (by omega) (by omega)) ?_))))))))
   rintro v2 w2 ⟨rfl, hb2⟩
   have M2 := M1.callB hb2
   refine wq (oO rfl) rfl (wq (aH (.bool (decide _)) rfl) rfl ?_)
   refine dM 16 rfl (fun g16 => ?_) (fun g16 => ?_)
   ·refine aN rfl rfl (aN rfl rfl (aN rfl rfl (aN rfl rfl (aN rfl rfl (wq (bR true (.bool true) rfl rfl) rfl ?_)))))
    refine aB (aC (cF rfl (aE (aA (bI rfl rfl (aB (aC (aO (cM (cD (.int _ _) rfl ?_))))))))))
    exact ⟨iE (by unfold check; unfold vR at *; (repeat' split) <;> omega), M2.below⟩
   ·refine wq (aD 2 iP rfl) rfl (wq (aD 1 cO rfl) rfl (wq (aM 0 (.int _ _) aT M2 rfl rfl rfl) rfl (bY aIo rfl rfl (qM _ _ _ (by omega) (by omega)) ?_)))
    rintro v3 w3 ⟨rfl, hb3⟩
    have M3 := M2.callB hb3
    refine wq (oO rfl) rfl (wq (bR false (.bool (decide _)) rfl rfl) rfl (aB (aC ?_)))
    refine aW rfl (fun h22 => ?_) (fun h22 => ?_)
    ·refine aE (aA (bI rfl rfl (aB (aC (aO (cM (cD (.int _ _) rfl ?_)))))))
     exact ⟨iE (by unfold check; unfold vR at *; (repeat' split) <;> omega), M3.below⟩
    ·refine aL (aC (aE (aE (aA (wq (aD 4 eH rfl) rfl (wq (aM 0 (.int _ _) aT M3 rfl rfl rfl) rfl (cZ rfl rfl rfl rfl (wq (aH (.bool (decide _)) rfl) rfl ?_))))))))
     refine dM 26 rfl (fun g26 => ?_) (fun g26 => ?_)
     ·refine aN rfl rfl (aN rfl rfl (aN rfl rfl (wq (bR true (.bool true) rfl rfl) rfl (aB (aC (cF rfl ?_))))))
      refine aE (aA (bI rfl rfl (aB (aC (aO (cM (cD (.int _ _) rfl ?_)))))))
      exact ⟨iE (by unfold check; unfold vR at *; (repeat' split) <;> omega), M3.below⟩
     ·refine wq (aD 4 eH rfl) rfl (wq (aM 0 (.int _ _) aT M3 rfl rfl rfl) rfl (cZ rfl rfl rfl rfl (wq (bR false (.bool (decide _)) rfl rfl) rfl (aB (aC ?_)))))
      refine aW rfl (fun h30 => ?_) (fun h30 => ?_)
      ·refine aE (aA (bI rfl rfl (aB (aC (aO (cM (cD (.int _ _) rfl ?_)))))))
       exact ⟨iE (by unfold check; unfold vR at *; (repeat' split) <;> omega), M3.below⟩
      ·refine aL (aC (aE (aE (aA (wq (aD 5 mY rfl) rfl (wq (aM 0 (.int _ _) aT M3 rfl rfl rfl) rfl (cZ rfl rfl rfl rfl (wq (aH (.bool (decide _)) rfl) rfl ?_))))))))
       refine dM 34 rfl (fun g34 => ?_) (fun g34 => ?_)
       ·refine aN rfl rfl (aN rfl rfl (aN rfl rfl (wq (bR true (.bool true) rfl rfl) rfl (aB (aC (cF rfl ?_))))))
        refine aE (aA (bI rfl rfl (aB (aC (aO (cM (cD (.int _ _) rfl ?_)))))))
        exact ⟨iE (by unfold check; unfold vR at *; (repeat' split) <;> omega), M3.below⟩
       ·refine wq (aD 5 mY rfl) rfl (wq (aM 0 (.int _ _) aT M3 rfl rfl rfl) rfl (cZ rfl rfl rfl rfl (wq (bR false (.bool (decide _)) rfl rfl) rfl (aB (aC ?_)))))
        refine aW rfl (fun h38 => ?_) (fun h38 => ?_)
        ·refine aE (aA (bI rfl rfl (aB (aC (aO (cM (cD (.int _ _) rfl ?_)))))))
         exact ⟨iE (by unfold check; unfold vR at *; (repeat' split) <;> omega), M3.below⟩
        ·refine aL (aC (aE (aE (aA (wq (aD 6 fI rfl) rfl (wq (aD 0 cR rfl) rfl (wq (aM 0 (.int _ _) aT M3 rfl rfl rfl) rfl (bY aIo rfl rfl (qM _ _ _ (by omega) (by omega)) ?_))))))))
         rintro v4 w4 ⟨rfl, hb4⟩
         have M4 := M3.callB hb4
         refine wq (oO rfl) rfl (wq (aH (.bool (decide _)) rfl) rfl ?_)
         refine dM 44 rfl (fun g44 => ?_) (fun g44 => ?_)
         ·refine aN rfl rfl (aN rfl rfl (aN rfl rfl (aN rfl rfl (aN rfl rfl (wq (bR true (.bool true) rfl rfl) rfl ?_)))))
          refine aB (aC (cF rfl (aE (aA (bI rfl rfl (aB (aC (aO (cM (cD (.int _ _) rfl ?_))))))))))
          exact ⟨iE (by unfold check; unfold vR at *; (repeat' split) <;> omega), M4.below⟩
         ·refine wq (aD 6 fI rfl) rfl (wq (aD 1 cO rfl) rfl (wq (aM 0 (.int _ _) aT M4 rfl rfl rfl) rfl (bY aIo rfl rfl (qM _ _ _ (by omega) (by omega)) ?_)))
          rintro v5 w5 ⟨rfl, hb5⟩
          have M5 := M4.callB hb5
          refine wq (oO rfl) rfl (wq (bR false (.bool (decide _)) rfl rfl) rfl (aB (aC ?_)))
          refine aW rfl (fun h50 => ?_) (fun h50 => ?_)
          ·refine aE (aA (bI rfl rfl (aB (aC (aO (cM (cD (.int _ _) rfl ?_)))))))
           exact ⟨iE (by unfold check; unfold vR at *; (repeat' split) <;> omega), M5.below⟩
          ·refine aL (aC (aE (aE (aA (wq (aD 8 dV rfl) rfl (wq (aD 0 cR rfl) rfl (wq (aM 0 (.int _ _) aT M5 rfl rfl rfl) rfl (bY aIo rfl rfl (qM _ _ _ (by omega) (by omega)) ?_))))))))
           rintro v6 w6 ⟨rfl, hb6⟩
           have M6 := M5.callB hb6
           refine wq (oO rfl) rfl (wq (aH (.bool (decide _)) rfl) rfl ?_)
           refine dM 56 rfl (fun g56 => ?_) (fun g56 => ?_)
           ·refine aN rfl rfl (aN rfl rfl (aN rfl rfl (aN rfl rfl (aN rfl rfl (wq (bR true (.bool true) rfl rfl) rfl ?_)))))
            refine aB (aC (cF rfl (aE (aA (bI rfl rfl (aB (aC (aO (cM (cD (.int _ _) rfl ?_))))))))))
            exact ⟨iE (by unfold check; unfold vR at *; (repeat' split) <;> omega), M6.below⟩
           ·refine wq (aD 8 dV rfl) rfl (wq (aD 1 cO rfl) rfl (wq (aM 0 (.int _ _) aT M6 rfl rfl rfl) rfl (bY aIo rfl rfl (qM _ _ _ (by omega) (by omega)) ?_)))
            rintro v7 w7 ⟨rfl, hb7⟩
            have M7 := M6.callB hb7
            refine wq (oO rfl) rfl (wq (bR false (.bool (decide _)) rfl rfl) rfl (aB (aC ?_)))
            refine aW rfl (fun h62 => ?_) (fun h62 => ?_)
            ·refine aE (aA (bI rfl rfl (aB (aC (aO (cM (cD (.int _ _) rfl ?_)))))))
             exact ⟨iE (by unfold check; unfold vR at *; (repeat' split) <;> omega), M7.below⟩
            ·refine aL (aC (aE (aA (bI rfl rfl (aB (aC (aO (cD (.int _ _) rfl ?_))))))))
             exact ⟨iE (by unfold check; unfold vR at *; (repeat' split) <;> omega), M7.below⟩
theorem bCh (a b : Body) : EqA Tryz.prog 39 (aF a) (aF b) (decide (a = b)) := by
 have h := bSg a.key a.radius a.ax a.ay a.mass a.bounce a.px a.py a.vx a.vy b.key b.radius b.ax b.ay b.mass b.bounce b.px b.py b.vx b.vy
 rw [decide_eq_decide.2 (aZf (a := a) (b := b))]
 exact h
set_option maxHeartbeats 4000000 in
theorem gS (w : World) (key : Int) (A : Option Addr) (n c : Nat) (xs : List Body) (R : Rd w 10 A n (xs.map aF)) :
  Calls Tryz.prog 99 #[.slice A n c, .int .u32 key] w (fun ex w' => ∃ v, ex = .returned v ∧ (fun v w' => v = .int .i64 (dI key xs) ∧ Below w.heap.size w w') v w') := by
 have hlen : xs.length = n := by simpa using R.len
 have hbd := R.bound
 refine aI #[.tmp 4] 20 Tryz.func99 rfl Tryz.results99 Tryz.ntmps99 rfl ?_
 have M0 := Mem.refl w
 refine aE (aA (bI rfl rfl (aB (aC (aE (aE (aA (bI rfl rfl (aB (aC (aQ (dS (σ := Nat) [0, 1] (fun k => [(5, .int .i64 (k : Int))]) (fun k w' => (k ≤ n ∧ ∀ (j : Nat) (c : Body), j < k → xs[j]? = some c → c.key ≠ key) ∧ Mem w [] [] w') (fun k => n - k) 0 (bA rfl eB) (⟨⟨by omega, fun j c hj => by omega⟩, M0⟩) ?_))))))))))))
 rintro k ρ1 w1 ⟨⟨hk, hne⟩, hM1⟩
 refine aE (aE (aA (aP rfl rfl (dO rfl rfl (wq (dC Tryz.underlying29 rfl) rfl (cZ rfl rfl rfl rfl (aB (aC ?_))))))))
 refine aW rfl (fun h9 => ?_) (fun h9 => ?_)
 ·obtain ⟨xb, hxb⟩ := cS (k := k) hlen (by omega)
  refine aL (aC (aE (aQ (aE (aA (dO rfl rfl (aP rfl rfl (wq (bP (k) dH rfl rfl rfl ((R.mem hM1).below_len (aG aF hxb)) ((R.mem hM1).someK (aG aF hxb))) rfl (wq (bB 0 dL (R.mem hM1) (Nat.lt_of_le_of_lt (Nat.zero_le _) ((R.mem hM1).below_len (aG aF hxb))) rfl) rfl ?_)))))))))
  refine wq (dY (o := 0) (.int _ _) bW (R.mem hM1) (aG aF hxb) rfl rfl) rfl (aP rfl rfl (cZ rfl rfl rfl rfl (aB (aC ?_))))
  refine aW rfl (fun h18 => ?_) (fun h18 => ?_)
  ·refine aE (aA (aP rfl rfl (bI rfl rfl (aB (aC (aO (kO (cM ?_))))))))
   refine rS (kO (cM (cD (.int _ _) rfl ?_)))
   exact ⟨iE (wR hxb h18 hne).symm, hM1.below⟩
  ·refine aL (cV (aC (aA (aP rfl rfl (wq (aY rfl rfl (by omega) (by omega)) rfl (bI rfl rfl ?_))))))
   refine aB ?_
   refine cG (k + 1) (bA rfl eB) (cN rfl (cN rfl gV)) ?_ ?_
   ·exact ⟨⟨by omega, pI hne hxb h18⟩, hM1⟩
   ·omega
 ·refine cX (dF (dK (eS (aC (aE (aA (bI rfl rfl ?_)))))))
  refine aB (aC (aO (cD (.int _ _) rfl ?_)))
  have hkn : k = n := by omega
  exact ⟨iE (aIg (fun j b hj => hne j b (by have := (List.getElem?_eq_some_iff.1 hj).1; omega) hj)).symm, hM1.below⟩
set_option maxHeartbeats 4000000 in
theorem aQe (w : World) (A : Option Addr) (n c : Nat) (xs : List Body) (R : Rd w 10 A n (xs.map aF)) (B : Option Addr) (m c' : Nat) (ys : List Body) (R' : Rd w 10 B m (ys.map aF)) :
  Calls Tryz.prog 37 #[.slice A n c, .slice B m c'] w (fun ex w' => ∃ v, ex = .returned v ∧ (fun v w' => v = .bool (decide (xs = ys)) ∧ Below w.heap.size w w') v w') := by
 have hlen : xs.length = n := by simpa using R.len
 have hbd := R.bound
 have hlen' : ys.length = m := by simpa using R'.len
 have hbd' := R'.bound
 refine aI #[.tmp 4] 26 Tryz.func37 rfl Tryz.results37 Tryz.ntmps37 rfl ?_
 have M0 := Mem.refl w
 refine aE (aA (wq (aJ (.bool false) rfl) rfl (aB (aC (aE (aE (aA (dO rfl rfl (wq (dC Tryz.underlying29 rfl) rfl (dO rfl rfl ?_))))))))))
 refine wq (dC Tryz.underlying29 rfl) rfl (cZ rfl rfl rfl rfl (aB (aC ?_)))
 refine aW rfl (fun h10 => ?_) (fun h10 => ?_)
 ·refine aE (aA (wq (aJ (.bool false) rfl) rfl (aB (aC (aO (cM (cD (.bool false) rfl ?_)))))))
  exact ⟨bF (fun e => h10 (by rw [← hlen, ← hlen', e])), M0.below⟩
 ·have hnm : n = m := by omega
  refine aL (aC (aE (aE (aA (bI rfl rfl (aB (aC (aQ (dS (σ := Nat) [0, 1] (fun k => [(5, .int .i64 (k : Int))]) (fun k w' => (k ≤ n ∧ ∀ (j : Nat) (x : Body), j < k → xs[j]? = some x → ys[j]? = some x) ∧ Mem w [] [] w') (fun k => n - k) 0 (bA rfl eB) (⟨⟨by omega, fun j c hj => by omega⟩, M0⟩) ?_)))))))))
  rintro k ρ1 w1 ⟨⟨hk, hne⟩, hM1⟩
  refine aE (aE (aA (aP rfl rfl (dO rfl rfl (wq (dC Tryz.underlying29 rfl) rfl (cZ rfl rfl rfl rfl (aB (aC ?_))))))))
  refine aW rfl (fun h14 => ?_) (fun h14 => ?_)
  ·obtain ⟨xb, hxb⟩ := cS (k := k) hlen (by omega)
   obtain ⟨yb, hyb⟩ := cS (k := k) hlen' (by omega)
   refine aL (aC (aE (aQ (aE (bQ [(0, 0), (1, 0), (2, 1), (3, 1), (4, 0), (5, 0), (6, 1), (7, 1), (8, 0)] mixed rfl (by kernel_rfl) (fun w2 hb2 hh2 => ?_))))))
   have M2 := hM1.drew hb2 hh2
   refine jP rfl rfl rfl (eF rfl rfl rfl (bS rfl rfl rfl (bP (k) dH rfl rfl rfl ((R.mem M2).below_len (aG aF hxb)) ((R.mem M2).someK (aG aF hxb))) (bS rfl rfl rfl (dN _ bO (R.mem M2) (aG aF hxb) rfl) (jP rfl rfl rfl (eF rfl rfl rfl ?_)))))
   refine bS rfl rfl rfl (bP (k) dH rfl rfl rfl ((R'.mem M2).below_len (aG aF hyb)) ((R'.mem M2).someK (aG aF hyb))) (bS rfl rfl rfl (dN _ bO (R'.mem M2) (aG aF hyb) rfl) (aV rfl rfl rfl (fun _ => bSa (bCh xb yb) rfl rfl) (bX (aC ?_))))
   refine aW rfl (fun h25 => ?_) (fun h25 => ?_)
   ·refine aE (aA (wq (aJ (.bool false) rfl) rfl (aB (aC (aO (kO (cM (rS ?_))))))))
    refine kO (cM (cD (.bool false) rfl ?_))
    exact ⟨bF (fun e => h25 (by rw [e] at hxb; rw [hxb] at hyb; injection hyb)), M2.below⟩
   ·refine aL (cV (aC (aA (aP rfl rfl (wq (aY rfl rfl (by omega) (by omega)) rfl (bI rfl rfl ?_))))))
    refine aB ?_
    refine cG (k + 1) (bA rfl eB) (cN rfl (cN rfl gV)) ?_ ?_
    ·exact ⟨⟨by omega, pI (p := fun j x => ys[j]? = some x) hne hxb (by rw [hyb, Decidable.not_not.1 h25])⟩, M2⟩
    ·omega
  ·refine cX (dF (dK (eS (aC (aE (aA (wq (aJ (.bool true) rfl) rfl ?_)))))))
   refine aB (aC (aO (cD (.bool true) rfl ?_)))
   exact ⟨bT (List.ext_getElem? fun j => by
   by_cases hj : j < xs.length
   ·obtain ⟨x, hx⟩ := cS (k := j) rfl hj
    rw [hx, hne j x (by omega) hx]
   ·rw [List.getElem?_eq_none (by omega), List.getElem?_eq_none (by omega)]), hM1.below⟩
set_option maxHeartbeats 4000000 in
theorem uC (w : World) (b : Body) (gone : Bool) (A : Option Addr) (n c : Nat) (xs : List Body) (R : Rd w 10 A n (xs.map aF)) (hn : n ≤ 1048576) :
  Calls Tryz.prog 126 #[.slice A n c, (.agg (aF b).toArray), .bool gone] w (fun ex w' => ∃ v, ex = .returned v ∧ (fun v w' => ∃ A' n' c' e, v = .slice A' n' c' ∧ bC 39 10 A' n' c' ((vT xs b gone).map aF) e ∧ Mem w [] [e] w') v w') := by
 have hlen : xs.length = n := by simpa using R.len
 have hbd := R.bound
 refine aI #[.tmp 6] 55 Tryz.func126 rfl Tryz.results126 Tryz.ntmps126 rfl ?_
 have M0 := Mem.refl w
 refine aE (aA (bK (.agg (List.toArray _)) M0 rfl rfl rfl (fun b1 w1 M1 => (eM rfl rfl (aB (aC (aE (aA (eM rfl rfl ?_)))))))))
 have M2 := M1.dummy default
 refine aB (aC (aE (aA (wq (aH (.bool _) rfl) rfl (wq (aJ (.bool _) rfl) rfl (aB (aC (aE (aE (aA (bI rfl rfl (aB (aC (aQ ?_))))))))))))))
 refine dS (σ := Nat × List Body × Bool × Row) [0, 4, 6] (fun (k, acc, done, r) => [(7, .slice r.A r.n r.c), (8, .bool done), (9, .int .i64 (k : Int))]) (fun (k, acc, done, r) w' => (k ≤ n ∧ jJ b gone (xs.take k) = (acc, done) ∧ bC 39 10 r.A r.n r.c (acc.map aF) r.e) ∧ Mem w [] [(some b1, bc (aF b) 39), r.e] w') (fun (k, acc, done, r) => n - k) (0, [], gone, ⟨none, 0, 0, (none, default)⟩) (bA rfl (bA rfl (bA rfl eB))) (⟨⟨by omega, rfl, bC.nil _ _ _⟩, M2⟩) ?_
 rintro ⟨k, acc, done, r⟩ ρ3 w3 ⟨⟨hk, heq, hr⟩, hM3⟩
 have hra : acc.length = r.n := by simpa using hr.1
 have hrl : acc.length ≤ k + 1 := by have h := aRb b gone xs k; rw [heq] at h; exact h
 refine aE (aE (aA (aP rfl rfl (dO rfl rfl (wq (dC Tryz.underlying29 rfl) rfl (cZ rfl rfl rfl rfl (aB (aC ?_))))))))
 refine aW rfl (fun h14 => ?_) (fun h14 => ?_)
 ·obtain ⟨xb, hxb⟩ := cS (k := k) hlen (by omega)
  refine aL (aC (aE (aQ (aE (aE (bQ [(0, 0), (1, 0), (2, 0), (3, 0), (4, 0), (5, 1), (6, 1), (7, 1), (8, 0), (9, 1), (10, 0), (11, 0)] mixed rfl (by kernel_rfl) (fun w4 hb4 hh4 => ?_)))))))
  have M4 := hM3.drew hb4 hh4
  refine aV rfl rfl rfl (fun _ => aH (.bool _) rfl) (aV rfl rfl rfl (fun _ => gG _ rfl rfl) (aV rfl rfl rfl (fun _ => aH (.bool _) rfl) ?_))
  refine aUm 19 _ rfl (fun g19 => ?_) (fun g19 => ?_)
  ·have hd : done = false := by simpa using g19
   refine jP rfl rfl rfl (eF rfl rfl rfl (bS rfl rfl rfl (bP (k) dH rfl rfl rfl ((R.mem M4).below_len (aG aF hxb)) ((R.mem M4).someK (aG aF hxb))) (bS rfl rfl rfl (bB 0 dL (R.mem M4) (Nat.lt_of_le_of_lt (Nat.zero_le _) ((R.mem M4).below_len (aG aF hxb))) rfl) ?_)))
   refine bS rfl rfl rfl (dY (o := 0) (.int _ _) bW (R.mem M4) (aG aF hxb) rfl rfl) (aV rfl rfl rfl (fun _ => aD 0 dL rfl) (bS rfl rfl rfl (aM 0 (.int _ _) bW M4 rfl rfl rfl) (aV rfl rfl rfl (fun _ => bZ (.bool (decide _)) rfl rfl rfl) (aV rfl rfl rfl (fun _ => bR true (.bool (decide _)) rfl rfl) ?_))))
   refine bX (aC ?_)
   refine aW rfl (fun h28 => ?_) (fun h28 => ?_)
   ·refine aE (aA (wq (aJ (.bool true) rfl) rfl (aB (aC (aA (dO rfl rfl (wq (aX 0 bO M4 rfl rfl rfl) rfl (cT [.agg (List.toArray _)] _ rfl dH M4 rfl rfl rfl rfl (dG rfl) (by decide) (fun b5 w5 M5 => ?_)))))))))
    refine dJ 1 [aF b] dH M5 rfl rfl rfl rfl rfl hr rfl (by simpa using ⟨iA b, iB b⟩) (dW.ofMem 2 M5 rfl) (by omega) (fun A6 c6 e6 w6 M6 hR6 => (eM rfl rfl (aB (aC (aE (bQ [(0, 0), (1, 0), (2, 1), (3, 1), (4, 1), (5, 0), (6, 1), (7, 0)] mixed rfl (by kernel_rfl) (fun w7 hb7 hh7 => ?_)))))))
    have M7 := M6.drew hb7 hh7
    refine jP rfl rfl rfl (eF rfl rfl rfl (bS rfl rfl rfl (bP (k) dH rfl rfl rfl ((R.mem M7).below_len (aG aF hxb)) ((R.mem M7).someK (aG aF hxb))) (bS rfl rfl rfl (bB 0 dL (R.mem M7) (Nat.lt_of_le_of_lt (Nat.zero_le _) ((R.mem M7).below_len (aG aF hxb))) rfl) ?_)))
    refine bS rfl rfl rfl (dY (o := 0) (.int _ _) bW (R.mem M7) (aG aF hxb) rfl rfl) (aV rfl rfl rfl (fun _ => aD 0 dL rfl) (bS rfl rfl rfl (aM 0 (.int _ _) bW M7 rfl rfl rfl) (aV rfl rfl rfl (fun _ => bZ (.bool (decide _)) rfl rfl rfl) (bX (aC ?_)))))
    refine aW rfl (fun h40 => ?_) (fun h40 => ?_)
    ·refine aA (dO rfl rfl (dO rfl rfl (aP rfl rfl (wq (bP (k) dH rfl rfl rfl ((R.mem M7).below_len (aG aF hxb)) ((R.mem M7).someK (aG aF hxb))) rfl (wq (dN _ bO (R.mem M7) (aG aF hxb) rfl) rfl ?_)))))
     refine cT [.agg (List.toArray _)] _ rfl dH M7 rfl rfl rfl rfl (dG rfl) (by decide) (fun b8 w8 M8 => (dJ 1 [aF xb] dH M8 rfl rfl rfl rfl rfl hR6 rfl (by simpa using ⟨iA xb, iB xb⟩) (dW.ofMem 3 M8 rfl) (by omega) (fun A9 c9 e9 w9 M9 hR9 => (eM rfl rfl (aB ?_)))))
     refine cV (aC (aA (aP rfl rfl (wq (aY rfl rfl (by omega) (by omega)) rfl (bI rfl rfl (aB ?_))))))
     refine cG (k + 1, (jJ b gone (xs.take (k + 1))).1, (jJ b gone (xs.take (k + 1))).2, ⟨A9, r.n + 1 + 1, c9, e9⟩) (bA rfl (bA (bv rfl (by rw [fY b gone hxb, heq]; simp [fQ, *])) (bA rfl eB))) (cN rfl (cN rfl (cN rfl gV))) ?_ ?_
     ·exact ⟨⟨by omega, rfl, by rw [fY b gone hxb, heq]; simpa [fQ, *] using hR9⟩, M9.keep [true, true, false, false]⟩
     ·(show n - (k + 1) < n - k; omega)
    ·refine aL (cV (aC (aA (aP rfl rfl (wq (aY rfl rfl (by omega) (by omega)) rfl (bI rfl rfl ?_))))))
     refine aB ?_
     refine cG (k + 1, (jJ b gone (xs.take (k + 1))).1, (jJ b gone (xs.take (k + 1))).2, ⟨A6, r.n + 1, c6, e6⟩) (bA rfl (bA (bv rfl (by rw [fY b gone hxb, heq]; simp [fQ, *])) (bA rfl eB))) (cN rfl (cN rfl (cN rfl gV))) ?_ ?_
     ·exact ⟨⟨by omega, rfl, by rw [fY b gone hxb, heq]; simpa [fQ, *] using hR6⟩, M7.keep [true, true, false]⟩
     ·(show n - (k + 1) < n - k; omega)
   ·refine aL (aC (aE (bQ [(0, 0), (1, 0), (2, 1), (3, 1), (4, 1), (5, 0), (6, 1), (7, 0)] mixed rfl (by kernel_rfl) (fun w10 hb10 hh10 => ?_))))
    have M10 := M4.drew hb10 hh10
    refine jP rfl rfl rfl (eF rfl rfl rfl (bS rfl rfl rfl (bP (k) dH rfl rfl rfl ((R.mem M10).below_len (aG aF hxb)) ((R.mem M10).someK (aG aF hxb))) (bS rfl rfl rfl (bB 0 dL (R.mem M10) (Nat.lt_of_le_of_lt (Nat.zero_le _) ((R.mem M10).below_len (aG aF hxb))) rfl) ?_)))
    refine bS rfl rfl rfl (dY (o := 0) (.int _ _) bW (R.mem M10) (aG aF hxb) rfl rfl) (aV rfl rfl rfl (fun _ => aD 0 dL rfl) (bS rfl rfl rfl (aM 0 (.int _ _) bW M10 rfl rfl rfl) (aV rfl rfl rfl (fun _ => bZ (.bool (decide _)) rfl rfl rfl) (bX (aC ?_)))))
    refine aW rfl (fun h40 => ?_) (fun h40 => ?_)
    ·refine aA (dO rfl rfl (dO rfl rfl (aP rfl rfl (wq (bP (k) dH rfl rfl rfl ((R.mem M10).below_len (aG aF hxb)) ((R.mem M10).someK (aG aF hxb))) rfl (wq (dN _ bO (R.mem M10) (aG aF hxb) rfl) rfl ?_)))))
     refine cT [.agg (List.toArray _)] _ rfl dH M10 rfl rfl rfl rfl (dG rfl) (by decide) (fun b11 w11 M11 => (dJ 1 [aF xb] dH M11 rfl rfl rfl rfl rfl hr rfl (by simpa using ⟨iA xb, iB xb⟩) (dW.ofMem 2 M11 rfl) (by omega) (fun A12 c12 e12 w12 M12 hR12 => (eM rfl rfl ?_))))
     refine aB (cV (aC (aA (aP rfl rfl (wq (aY rfl rfl (by omega) (by omega)) rfl (bI rfl rfl ?_))))))
     refine aB ?_
     refine cG (k + 1, (jJ b gone (xs.take (k + 1))).1, (jJ b gone (xs.take (k + 1))).2, ⟨A12, r.n + 1, c12, e12⟩) (bA rfl (bA (bv rfl (by rw [fY b gone hxb, heq]; simp [fQ, *])) (bA rfl eB))) (cN rfl (cN rfl (cN rfl gV))) ?_ ?_
     ·exact ⟨⟨by omega, rfl, by rw [fY b gone hxb, heq]; simpa [fQ, *] using hR12⟩, M12.keep [true, true, false]⟩
     ·(show n - (k + 1) < n - k; omega)
    ·refine aL (cV (aC (aA (aP rfl rfl (wq (aY rfl rfl (by omega) (by omega)) rfl (bI rfl rfl ?_))))))
     refine aB ?_
     refine cG (k + 1, (jJ b gone (xs.take (k + 1))).1, (jJ b gone (xs.take (k + 1))).2, r) (bA rfl (bA (bv rfl (by rw [fY b gone hxb, heq]; simp [fQ, *])) (bA rfl eB))) (cN rfl (cN rfl (cN rfl gV))) ?_ ?_
     ·exact ⟨⟨by omega, rfl, by rw [fY b gone hxb, heq]; simpa [fQ, *] using hr⟩, M10.keep [true, true]⟩
     ·(show n - (k + 1) < n - k; omega)
  ·have hd : done = true := by simpa using g19
   refine D_s rfl rfl rfl (D_s rfl rfl rfl (zU rfl rfl rfl (zU rfl rfl rfl (zU rfl rfl rfl (D_s rfl rfl rfl ?_)))))
   refine zU rfl rfl rfl (D_s rfl rfl rfl (aV rfl rfl rfl (fun _ => bR false (.bool false) rfl rfl) (bX (aC (cJ rfl ?_)))))
   refine aL (aC (aE (bQ [(0, 0), (1, 0), (2, 1), (3, 1), (4, 1), (5, 0), (6, 1), (7, 0)] mixed rfl (by kernel_rfl) (fun w13 hb13 hh13 => ?_))))
   have M13 := M4.drew hb13 hh13
   refine jP rfl rfl rfl (eF rfl rfl rfl (bS rfl rfl rfl (bP (k) dH rfl rfl rfl ((R.mem M13).below_len (aG aF hxb)) ((R.mem M13).someK (aG aF hxb))) (bS rfl rfl rfl (bB 0 dL (R.mem M13) (Nat.lt_of_le_of_lt (Nat.zero_le _) ((R.mem M13).below_len (aG aF hxb))) rfl) ?_)))
   refine bS rfl rfl rfl (dY (o := 0) (.int _ _) bW (R.mem M13) (aG aF hxb) rfl rfl) (aV rfl rfl rfl (fun _ => aD 0 dL rfl) (bS rfl rfl rfl (aM 0 (.int _ _) bW M13 rfl rfl rfl) (aV rfl rfl rfl (fun _ => bZ (.bool (decide _)) rfl rfl rfl) (bX (aC ?_)))))
   refine aW rfl (fun h40 => ?_) (fun h40 => ?_)
   ·refine aA (dO rfl rfl (dO rfl rfl (aP rfl rfl (wq (bP (k) dH rfl rfl rfl ((R.mem M13).below_len (aG aF hxb)) ((R.mem M13).someK (aG aF hxb))) rfl (wq (dN _ bO (R.mem M13) (aG aF hxb) rfl) rfl ?_)))))
    refine cT [.agg (List.toArray _)] _ rfl dH M13 rfl rfl rfl rfl (dG rfl) (by decide) (fun b14 w14 M14 => (dJ 1 [aF xb] dH M14 rfl rfl rfl rfl rfl hr rfl (by simpa using ⟨iA xb, iB xb⟩) (dW.ofMem 2 M14 rfl) (by omega) (fun A15 c15 e15 w15 M15 hR15 => (eM rfl rfl ?_))))
    refine aB (cV (aC (aA (aP rfl rfl (wq (aY rfl rfl (by omega) (by omega)) rfl (bI rfl rfl ?_))))))
    refine aB ?_
    refine cG (k + 1, (jJ b gone (xs.take (k + 1))).1, (jJ b gone (xs.take (k + 1))).2, ⟨A15, r.n + 1, c15, e15⟩) (bA rfl (bA (bv rfl (by rw [fY b gone hxb, heq]; simp [fQ, *])) (bA rfl eB))) (cN rfl (cN rfl (cN rfl gV))) ?_ ?_
    ·exact ⟨⟨by omega, rfl, by rw [fY b gone hxb, heq]; simpa [fQ, *] using hR15⟩, M15.keep [true, true, false]⟩
    ·(show n - (k + 1) < n - k; omega)
   ·refine aL (cV (aC (aA (aP rfl rfl (wq (aY rfl rfl (by omega) (by omega)) rfl (bI rfl rfl ?_))))))
    refine aB ?_
    refine cG (k + 1, (jJ b gone (xs.take (k + 1))).1, (jJ b gone (xs.take (k + 1))).2, r) (bA rfl (bA (bv rfl (by rw [fY b gone hxb, heq]; simp [fQ, *])) (bA rfl eB))) (cN rfl (cN rfl (cN rfl gV))) ?_ ?_
    ·exact ⟨⟨by omega, rfl, by rw [fY b gone hxb, heq]; simpa [fQ, *] using hr⟩, M13.keep [true, true]⟩
    ·(show n - (k + 1) < n - k; omega)
 ·have hkn : k = n := by omega
  subst hkn
  rw [List.take_of_length_le (by omega)] at heq
  refine cX (dF (dK (eS (aC (aE (aE (aA (wq (aH (.bool _) rfl) rfl ?_))))))))
  refine wq (gG _ rfl rfl) rfl (aB (aC ?_))
  refine iG _ rfl (fun h49 => ?_) (fun h49 => ?_)
  ·have hd : done = false := by simpa using h49
   refine aA (dO rfl rfl (wq (aX 0 bO hM3 rfl rfl rfl) rfl (cT [.agg (List.toArray _)] _ rfl dH hM3 rfl rfl rfl rfl (dG rfl) (by decide) (fun b16 w16 M16 => (dJ 1 [aF b] dH M16 rfl rfl rfl rfl rfl hr rfl (by simpa using ⟨iA b, iB b⟩) (dW.ofMem 2 M16 rfl) (by omega) (fun A17 c17 e17 w17 M17 hR17 => ?_))))))
   refine eM rfl rfl (aB (aC (aE (aA (dO rfl rfl (eM rfl rfl (aB (aC (aO (cD (.slice _ _ _) rfl ?_))))))))))
   exact ⟨_, _, _, _, rfl, by unfold vT; rw [heq]; simpa [*] using hR17, M17.keep [false, true, false]⟩
  ·have hd : done = true := by simpa using h49
   refine aL (aC (aE (aA (dO rfl rfl (eM rfl rfl (aB (aC (aO (cD (.slice _ _ _) rfl ?_)))))))))
   exact ⟨_, _, _, _, rfl, by unfold vT; rw [heq]; simpa [*] using hr, hM3.keep [false, true]⟩
set_option maxHeartbeats 4000000 in
theorem tU (w : World) (x y l : Int) (h0 : 0 ≤ l) (h1 : l ≤ 2147483647) :
  Calls Tryz.prog 139 #[.agg [.int .i32 x, .int .i32 y].toArray, .int .i32 l] w (fun ex w' => ∃ v, ex = .returned v ∧ (fun v w' => v = .bool (decide (-l ≤ x ∧ x ≤ l ∧ -l ≤ y ∧ y ≤ l)) ∧ Below w.heap.size w w') v w') := by
 have hneg : IntKind.i32.wrap (-l) = -l := iW _ (by omega) (by omega)
 refine aI #[.tmp 4] 29 Tryz.func139 rfl Tryz.results139 Tryz.ntmps139 rfl ?_
 have M0 := Mem.refl w
 refine aE (aA (bK (.agg (List.toArray _)) M0 rfl rfl rfl (fun b1 w1 M1 => (wq (aJ (.bool false) rfl) rfl (aB (aC (aE (aA (aP rfl rfl (wq (qQ rfl) rfl ?_))))))))))
 refine aK 6 (.int .i32 (-l)) (iE hneg) (wq (aD 0 cR rfl) rfl (wq (aM 0 (.int _ _) aT M1 rfl rfl rfl) rfl (cZ rfl rfl rfl rfl (wq (aH (.bool (decide _)) rfl) rfl ?_))))
 refine dM 10 rfl (fun g10 => ?_) (fun g10 => ?_)
 ·refine wq (aD 0 cR rfl) rfl (wq (aM 0 (.int _ _) aT M1 rfl rfl rfl) rfl (aP rfl rfl (cZ rfl rfl rfl rfl (wq (bR true (.bool (decide _)) rfl rfl) rfl (wq (aH (.bool (decide _)) rfl) rfl ?_)))))
  refine dM 16 rfl (fun g16 => ?_) (fun g16 => ?_)
  ·refine aP rfl rfl (wq (qQ rfl) rfl (aK 18 (.int .i32 (-l)) (iE hneg) (wq (aD 1 cO rfl) rfl (wq (aM 0 (.int _ _) aT M1 rfl rfl rfl) rfl (cZ rfl rfl rfl rfl ?_)))))
   refine wq (bR true (.bool (decide _)) rfl rfl) rfl (wq (aH (.bool (decide _)) rfl) rfl ?_)
   refine dM 23 rfl (fun g23 => ?_) (fun g23 => ?_)
   ·refine wq (aD 1 cO rfl) rfl (wq (aM 0 (.int _ _) aT M1 rfl rfl rfl) rfl (aP rfl rfl (cZ rfl rfl rfl rfl (wq (bR true (.bool (decide _)) rfl rfl) rfl (wq (aJ (.bool (decide _)) rfl) rfl ?_)))))
    refine aB (aC (aO (cD (.bool (decide _)) rfl ?_)))
    exact ⟨by first | exact bF (by omega) | exact bT (by omega) | exact bD (by omega), M1.below⟩
   ·refine aN rfl rfl (aN rfl rfl (aN rfl rfl (aN rfl rfl (wq (bR false (.bool false) rfl rfl) rfl (wq (aJ (.bool false) rfl) rfl ?_)))))
    refine aB (aC (aO (cD (.bool false) rfl ?_)))
    exact ⟨by first | exact bF (by omega) | exact bT (by omega) | exact bD (by omega), M1.below⟩
  ·refine aN rfl rfl (aN rfl rfl (aN rfl rfl (aN rfl rfl (aN rfl rfl (wq (bR false (.bool false) rfl rfl) rfl ?_)))))
   refine wq (aH (.bool false) rfl) rfl (aN rfl rfl (aN rfl rfl (aN rfl rfl (aN rfl rfl (wq (bR false (.bool false) rfl rfl) rfl ?_)))))
   refine wq (aJ (.bool false) rfl) rfl (aB (aC (aO (cD (.bool false) rfl ?_))))
   exact ⟨by first | exact bF (by omega) | exact bT (by omega) | exact bD (by omega), M1.below⟩
 ·refine aN rfl rfl (aN rfl rfl (aN rfl rfl (aN rfl rfl (wq (bR false (.bool false) rfl rfl) rfl (wq (aH (.bool false) rfl) rfl ?_)))))
  refine aN rfl rfl (aN rfl rfl (aN rfl rfl (aN rfl rfl (aN rfl rfl (wq (bR false (.bool false) rfl rfl) rfl ?_)))))
  refine wq (aH (.bool false) rfl) rfl (aN rfl rfl (aN rfl rfl (aN rfl rfl (aN rfl rfl (wq (bR false (.bool false) rfl rfl) rfl ?_)))))
  refine wq (aJ (.bool false) rfl) rfl (aB (aC (aO (cD (.bool false) rfl ?_))))
  exact ⟨by first | exact bF (by omega) | exact bT (by omega) | exact bD (by omega), M1.below⟩
set_option maxHeartbeats 4000000 in
theorem aMn (w : World) (b : Body) (p : Nat) (R : Rd w 10 (some ⟨p, 0, none⟩) 1 [aF b]) :
  Calls Tryz.prog 137 #[.pointer (some ⟨p, 0, none⟩)] w (fun ex w' => ∃ v, ex = .returned v ∧ (fun v w' => v = .bool (decide (4096 ≤ b.radius ∧ b.radius ≤ 4194304)) ∧ Below w.heap.size w w') v w') := by
 rw [← gM p]
 refine aI #[.tmp 1] 10 Tryz.func137 rfl Tryz.results137 Tryz.ntmps137 rfl ?_
 have M0 := Mem.refl w
 refine aE (aA (wq (aJ (.bool false) rfl) rfl (aB (aC (aE (aA (wq (bB 1 lH R (Nat.lt_of_le_of_lt (Nat.zero_le _) (R.below_len (show [aF b][0]? = some (aF b) from rfl))) rfl) rfl (wq (dY (o := 1) (.int _ _) aT R (show [aF b][0]? = some (aF b) from rfl) rfl rfl) rfl ?_))))))))
 refine cZ rfl rfl rfl rfl (wq (aH (.bool (decide _)) rfl) rfl ?_)
 refine dM 5 rfl (fun g5 => ?_) (fun g5 => ?_)
 ·refine wq (bB 1 lH R (Nat.lt_of_le_of_lt (Nat.zero_le _) (R.below_len (show [aF b][0]? = some (aF b) from rfl))) rfl) rfl (wq (dY (o := 1) (.int _ _) aT R (show [aF b][0]? = some (aF b) from rfl) rfl rfl) rfl (cZ rfl rfl rfl rfl (wq (bR true (.bool (decide _)) rfl rfl) rfl ?_)))
  refine wq (aJ (.bool (decide _)) rfl) rfl (aB (aC (aO (cD (.bool (decide _)) rfl ?_))))
  exact ⟨by first | exact bF (by omega) | exact bT (by omega) | exact bD (by omega), M0.below⟩
 ·refine aN rfl rfl (aN rfl rfl (aN rfl rfl (wq (bR false (.bool false) rfl rfl) rfl (wq (aJ (.bool false) rfl) rfl (aB (aC (aO ?_)))))))
  refine cD (.bool false) rfl ?_
  exact ⟨by first | exact bF (by omega) | exact bT (by omega) | exact bD (by omega), M0.below⟩
set_option maxHeartbeats 4000000 in
theorem aLw (w : World) (b : Body) (p : Nat) (R : Rd w 10 (some ⟨p, 0, none⟩) 1 [aF b]) :
  Calls Tryz.prog 138 #[.pointer (some ⟨p, 0, none⟩)] w (fun ex w' => ∃ v, ex = .returned v ∧ (fun v w' => v = .bool (decide (-4194304 ≤ b.ax ∧ b.ax ≤ 4194304 ∧ -4194304 ≤ b.ay ∧ b.ay ≤ 4194304)) ∧ Below w.heap.size w w') v w') := by
 rw [← gM p]
 refine aI #[.tmp 1] 5 Tryz.func138 rfl Tryz.results138 Tryz.ntmps138 rfl ?_
 have M0 := Mem.refl w
 refine aE (aA (wq (aJ (.bool false) rfl) rfl (aB (aC (aE (aA (wq (bB 2 iP R (Nat.lt_of_le_of_lt (Nat.zero_le _) (R.below_len (show [aF b][0]? = some (aF b) from rfl))) rfl) rfl (wq (rW (o := 2) _ bL R (show [aF b][0]? = some (aF b) from rfl) rfl rfl rfl) rfl ?_))))))))
 refine bY aQd rfl rfl (tU _ _ _ _ (by omega) (by omega)) ?_
 rintro v1 w1 ⟨rfl, hb1⟩
 have M1 := M0.callB hb1
 refine wq (aJ (.bool (decide _)) rfl) rfl (aB (aC (aO (cD (.bool (decide _)) rfl ?_))))
 exact ⟨by first | exact bF (by omega) | exact bT (by omega) | exact bD (by omega), M1.below⟩
set_option maxHeartbeats 4000000 in
theorem aLx (w : World) (b : Body) (p : Nat) (R : Rd w 10 (some ⟨p, 0, none⟩) 1 [aF b]) :
  Calls Tryz.prog 140 #[.pointer (some ⟨p, 0, none⟩)] w (fun ex w' => ∃ v, ex = .returned v ∧ (fun v w' => v = .bool (decide (0 ≤ b.mass ∧ b.mass ≤ 1048576)) ∧ Below w.heap.size w w') v w') := by
 rw [← gM p]
 refine aI #[.tmp 1] 10 Tryz.func140 rfl Tryz.results140 Tryz.ntmps140 rfl ?_
 have M0 := Mem.refl w
 refine aE (aA (wq (aJ (.bool false) rfl) rfl (aB (aC (aE (aA (wq (bB 4 eH R (Nat.lt_of_le_of_lt (Nat.zero_le _) (R.below_len (show [aF b][0]? = some (aF b) from rfl))) rfl) rfl (wq (dY (o := 4) (.int _ _) aT R (show [aF b][0]? = some (aF b) from rfl) rfl rfl) rfl ?_))))))))
 refine cZ rfl rfl rfl rfl (wq (aH (.bool (decide _)) rfl) rfl ?_)
 refine dM 5 rfl (fun g5 => ?_) (fun g5 => ?_)
 ·refine wq (bB 4 eH R (Nat.lt_of_le_of_lt (Nat.zero_le _) (R.below_len (show [aF b][0]? = some (aF b) from rfl))) rfl) rfl (wq (dY (o := 4) (.int _ _) aT R (show [aF b][0]? = some (aF b) from rfl) rfl rfl) rfl (cZ rfl rfl rfl rfl (wq (bR true (.bool (decide _)) rfl rfl) rfl ?_)))
  refine wq (aJ (.bool (decide _)) rfl) rfl (aB (aC (aO (cD (.bool (decide _)) rfl ?_))))
  exact ⟨by first | exact bF (by omega) | exact bT (by omega) | exact bD (by omega), M0.below⟩
 ·refine aN rfl rfl (aN rfl rfl (aN rfl rfl (wq (bR false (.bool false) rfl rfl) rfl (wq (aJ (.bool false) rfl) rfl (aB (aC (aO ?_)))))))
  refine cD (.bool false) rfl ?_
  exact ⟨by first | exact bF (by omega) | exact bT (by omega) | exact bD (by omega), M0.below⟩
set_option maxHeartbeats 4000000 in
theorem aOb (w : World) (b : Body) (p : Nat) (R : Rd w 10 (some ⟨p, 0, none⟩) 1 [aF b]) :
  Calls Tryz.prog 141 #[.pointer (some ⟨p, 0, none⟩)] w (fun ex w' => ∃ v, ex = .returned v ∧ (fun v w' => v = .bool (decide (0 ≤ b.bounce ∧ b.bounce ≤ 65536)) ∧ Below w.heap.size w w') v w') := by
 rw [← gM p]
 refine aI #[.tmp 1] 10 Tryz.func141 rfl Tryz.results141 Tryz.ntmps141 rfl ?_
 have M0 := Mem.refl w
 refine aE (aA (wq (aJ (.bool false) rfl) rfl (aB (aC (aE (aA (wq (bB 5 mY R (Nat.lt_of_le_of_lt (Nat.zero_le _) (R.below_len (show [aF b][0]? = some (aF b) from rfl))) rfl) rfl (wq (dY (o := 5) (.int _ _) aT R (show [aF b][0]? = some (aF b) from rfl) rfl rfl) rfl ?_))))))))
 refine cZ rfl rfl rfl rfl (wq (aH (.bool (decide _)) rfl) rfl ?_)
 refine dM 5 rfl (fun g5 => ?_) (fun g5 => ?_)
 ·refine wq (bB 5 mY R (Nat.lt_of_le_of_lt (Nat.zero_le _) (R.below_len (show [aF b][0]? = some (aF b) from rfl))) rfl) rfl (wq (dY (o := 5) (.int _ _) aT R (show [aF b][0]? = some (aF b) from rfl) rfl rfl) rfl (cZ rfl rfl rfl rfl (wq (bR true (.bool (decide _)) rfl rfl) rfl ?_)))
  refine wq (aJ (.bool (decide _)) rfl) rfl (aB (aC (aO (cD (.bool (decide _)) rfl ?_))))
  exact ⟨by first | exact bF (by omega) | exact bT (by omega) | exact bD (by omega), M0.below⟩
 ·refine aN rfl rfl (aN rfl rfl (aN rfl rfl (wq (bR false (.bool false) rfl rfl) rfl (wq (aJ (.bool false) rfl) rfl (aB (aC (aO ?_)))))))
  refine cD (.bool false) rfl ?_
  exact ⟨by first | exact bF (by omega) | exact bT (by omega) | exact bD (by omega), M0.below⟩
set_option maxHeartbeats 4000000 in
theorem aMr (w : World) (b : Body) (p : Nat) (R : Rd w 10 (some ⟨p, 0, none⟩) 1 [aF b]) :
  Calls Tryz.prog 142 #[.pointer (some ⟨p, 0, none⟩)] w (fun ex w' => ∃ v, ex = .returned v ∧ (fun v w' => v = .bool (decide (-1073741824 ≤ b.px ∧ b.px ≤ 1073741824 ∧ -1073741824 ≤ b.py ∧ b.py ≤ 1073741824)) ∧ Below w.heap.size w w') v w') := by
 rw [← gM p]
 refine aI #[.tmp 1] 5 Tryz.func142 rfl Tryz.results142 Tryz.ntmps142 rfl ?_
 have M0 := Mem.refl w
 refine aE (aA (wq (aJ (.bool false) rfl) rfl (aB (aC (aE (aA (wq (bB 6 fI R (Nat.lt_of_le_of_lt (Nat.zero_le _) (R.below_len (show [aF b][0]? = some (aF b) from rfl))) rfl) rfl (wq (rW (o := 6) _ bL R (show [aF b][0]? = some (aF b) from rfl) rfl rfl rfl) rfl ?_))))))))
 refine bY aQd rfl rfl (tU _ _ _ _ (by omega) (by omega)) ?_
 rintro v1 w1 ⟨rfl, hb1⟩
 have M1 := M0.callB hb1
 refine wq (aJ (.bool (decide _)) rfl) rfl (aB (aC (aO (cD (.bool (decide _)) rfl ?_))))
 exact ⟨by first | exact bF (by omega) | exact bT (by omega) | exact bD (by omega), M1.below⟩
set_option maxHeartbeats 4000000 in
theorem aMi (w : World) (b : Body) (p : Nat) (R : Rd w 10 (some ⟨p, 0, none⟩) 1 [aF b]) :
  Calls Tryz.prog 143 #[.pointer (some ⟨p, 0, none⟩)] w (fun ex w' => ∃ v, ex = .returned v ∧ (fun v w' => v = .bool (decide (-16777216 ≤ b.vx ∧ b.vx ≤ 16777216 ∧ -16777216 ≤ b.vy ∧ b.vy ≤ 16777216)) ∧ Below w.heap.size w w') v w') := by
 rw [← gM p]
 refine aI #[.tmp 1] 5 Tryz.func143 rfl Tryz.results143 Tryz.ntmps143 rfl ?_
 have M0 := Mem.refl w
 refine aE (aA (wq (aJ (.bool false) rfl) rfl (aB (aC (aE (aA (wq (bB 8 dV R (Nat.lt_of_le_of_lt (Nat.zero_le _) (R.below_len (show [aF b][0]? = some (aF b) from rfl))) rfl) rfl (wq (rW (o := 8) _ bL R (show [aF b][0]? = some (aF b) from rfl) rfl rfl rfl) rfl ?_))))))))
 refine bY aQd rfl rfl (tU _ _ _ _ (by omega) (by omega)) ?_
 rintro v1 w1 ⟨rfl, hb1⟩
 have M1 := M0.callB hb1
 refine wq (aJ (.bool (decide _)) rfl) rfl (aB (aC (aO (cD (.bool (decide _)) rfl ?_))))
 exact ⟨by first | exact bF (by omega) | exact bT (by omega) | exact bD (by omega), M1.below⟩
set_option maxHeartbeats 4000000 in
theorem vY (w : World) (b : Body) :
  Calls Tryz.prog 102 #[(.agg (aF b).toArray)] w (fun ex w' => ∃ v, ex = .returned v ∧ (fun v w' => v = .int .i64 (check b) ∧ Below w.heap.size w w') v w') := by
 refine aI #[.tmp 2] 28 Tryz.func102 rfl Tryz.results102 Tryz.ntmps102 rfl ?_
 have M0 := Mem.refl w
 refine aE (aA (bK (.agg (List.toArray _)) M0 rfl rfl rfl (fun b1 w1 M1 => (bI rfl rfl (aB (aC (aE (aE (aA (wq (dR [] [.pointer _] rfl rfl) rfl (wq (cC [(0, .func _ _ _), (1, .int _ _)] _ oM rfl rfl) rfl ?_)))))))))))
 refine wq (dR [] [.pointer _] rfl rfl) rfl (wq (cC [(0, .func _ _ _), (1, .int _ _)] _ oM rfl rfl) rfl (wq (dR [] [.pointer _] rfl rfl) rfl (wq (cC [(0, .func _ _ _), (1, .int _ _)] _ oM rfl rfl) rfl (wq (dR [] [.pointer _] rfl rfl) rfl (wq (cC [(0, .func _ _ _), (1, .int _ _)] _ oM rfl rfl) rfl ?_)))))
 refine wq (dR [] [.pointer _] rfl rfl) rfl (wq (cC [(0, .func _ _ _), (1, .int _ _)] _ oM rfl rfl) rfl (wq (dR [] [.pointer _] rfl rfl) rfl (wq (cC [(0, .func _ _ _), (1, .int _ _)] _ oM rfl rfl) rfl (wq (tA [.agg (List.toArray _), .agg (List.toArray _), .agg (List.toArray _), .agg (List.toArray _), .agg (List.toArray _), .agg (List.toArray _)] wG bFk rfl rfl (dG rfl)) rfl ?_))))
 refine aP rfl rfl (aB (aC (aQ (iR 7 (fK (aE (aA (cZ rfl rfl rfl rfl (kZ 19 rfl (by first | decide | omega) ?_)))))))))
 refine aB (aC (aE (cF rfl (aL (aC (aE (aQ (aE (aA (wq (qF 0 _ wG nV rfl rfl (by decide) (by decide) rfl rfl) rfl (aS uU M1 rfl rfl (fun b2 w2 M2 => (bG 1 _ nV M2 rfl rfl rfl rfl rfl (aR rfl) rfl (fun w3 M3 => ?_))))))))))))))
 refine aB (aC (aE (aA (wq (aD 0 qY rfl) rfl (wq (aM 1 (.func _ _ _) aGx M3 rfl rfl rfl) rfl (bY bNs rfl rfl (aMn _ b _ (pF 0 M3 rfl rfl)) ?_))))))
 rintro v4 w4 ⟨rfl, hb4⟩
 have M4 := M3.callB hb4
 refine wq (oO rfl) rfl (aB (aC ?_))
 refine aW rfl (fun h24 => ?_) (fun h24 => ?_)
 ·refine aE (aA (wq (aD 1 rA rfl) rfl (wq (aM 1 (.int _ _) aCo M4 rfl rfl rfl) rfl (bI rfl rfl (aB (aC (aO (kO ?_))))))))
  refine cM (cM (kO (cM (cD (.int _ _) rfl ?_))))
  exact ⟨iE (aUt b (by omega)).symm, M4.below⟩
 ·refine aL (cV (aC (aA (wq (aY rfl rfl (by first | decide | omega) (by first | decide | omega)) rfl (aK 27 (.int .i64 1) (iE (by first | decide | omega)) (aP rfl rfl ?_))))))
  refine aB (aC (fK (aE (aA (cZ rfl rfl rfl rfl (kZ 19 rfl (by first | decide | omega) (aB (aC (aE ?_)))))))))
  refine cF rfl (aL (aC (aE (aQ (aE (aA (wq (qF 1 _ wG nV rfl rfl (by decide) (by decide) rfl rfl) rfl (aS uU M4 rfl rfl (fun b5 w5 M5 => (bG 2 _ nV M5 rfl rfl rfl rfl rfl (aR rfl) rfl (fun w6 M6 => (aB (aC (aE (aA ?_)))))))))))))))
  refine wq (aD 0 qY rfl) rfl (wq (aM 2 (.func _ _ _) aGx M6 rfl rfl rfl) rfl (bY bOa rfl rfl (aLw _ b _ (pF 0 M6 rfl rfl)) ?_))
  rintro v7 w7 ⟨rfl, hb7⟩
  have M7 := M6.callB hb7
  refine wq (oO rfl) rfl (aB (aC ?_))
  refine aW rfl (fun h24 => ?_) (fun h24 => ?_)
  ·refine aE (aA (wq (aD 1 rA rfl) rfl (wq (aM 2 (.int _ _) aCo M7 rfl rfl rfl) rfl (bI rfl rfl (aB (aC (aO (kO ?_))))))))
   refine cM (cM (kO (cM (cD (.int _ _) rfl ?_))))
   exact ⟨iE (aSs b (by omega) (by omega)).symm, M7.below⟩
  ·refine aL (cV (aC (aA (wq (aY rfl rfl (by first | decide | omega) (by first | decide | omega)) rfl (aK 27 (.int .i64 2) (iE (by first | decide | omega)) (aP rfl rfl ?_))))))
   refine aB (aC (fK (aE (aA (cZ rfl rfl rfl rfl (kZ 19 rfl (by first | decide | omega) (aB (aC (aE ?_)))))))))
   refine cF rfl (aL (aC (aE (aQ (aE (aA (wq (qF 2 _ wG nV rfl rfl (by decide) (by decide) rfl rfl) rfl (aS uU M7 rfl rfl (fun b8 w8 M8 => (bG 3 _ nV M8 rfl rfl rfl rfl rfl (aR rfl) rfl (fun w9 M9 => (aB (aC (aE (aA ?_)))))))))))))))
   refine wq (aD 0 qY rfl) rfl (wq (aM 3 (.func _ _ _) aGx M9 rfl rfl rfl) rfl (bY bKl rfl rfl (aLx _ b _ (pF 0 M9 rfl rfl)) ?_))
   rintro v10 w10 ⟨rfl, hb10⟩
   have M10 := M9.callB hb10
   refine wq (oO rfl) rfl (aB (aC ?_))
   refine aW rfl (fun h24 => ?_) (fun h24 => ?_)
   ·refine aE (aA (wq (aD 1 rA rfl) rfl (wq (aM 3 (.int _ _) aCo M10 rfl rfl rfl) rfl (bI rfl rfl (aB (aC (aO (kO ?_))))))))
    refine cM (cM (kO (cM (cD (.int _ _) rfl ?_))))
    exact ⟨iE (aUr b (by omega) (by omega) (by omega)).symm, M10.below⟩
   ·refine aL (cV (aC (aA (wq (aY rfl rfl (by first | decide | omega) (by first | decide | omega)) rfl (aK 27 (.int .i64 3) (iE (by first | decide | omega)) (aP rfl rfl ?_))))))
    refine aB (aC (fK (aE (aA (cZ rfl rfl rfl rfl (kZ 19 rfl (by first | decide | omega) (aB (aC (aE ?_)))))))))
    refine cF rfl (aL (aC (aE (aQ (aE (aA (wq (qF 3 _ wG nV rfl rfl (by decide) (by decide) rfl rfl) rfl (aS uU M10 rfl rfl (fun b11 w11 M11 => (bG 4 _ nV M11 rfl rfl rfl rfl rfl (aR rfl) rfl (fun w12 M12 => (aB (aC (aE (aA ?_)))))))))))))))
    refine wq (aD 0 qY rfl) rfl (wq (aM 4 (.func _ _ _) aGx M12 rfl rfl rfl) rfl (bY bMm rfl rfl (aOb _ b _ (pF 0 M12 rfl rfl)) ?_))
    rintro v13 w13 ⟨rfl, hb13⟩
    have M13 := M12.callB hb13
    refine wq (oO rfl) rfl (aB (aC ?_))
    refine aW rfl (fun h24 => ?_) (fun h24 => ?_)
    ·refine aE (aA (wq (aD 1 rA rfl) rfl (wq (aM 4 (.int _ _) aCo M13 rfl rfl rfl) rfl (bI rfl rfl (aB (aC (aO (kO ?_))))))))
     refine cM (cM (kO (cM (cD (.int _ _) rfl ?_))))
     exact ⟨iE (aUd b (by omega) (by omega) (by omega) (by omega)).symm, M13.below⟩
    ·refine aL (cV (aC (aA (wq (aY rfl rfl (by first | decide | omega) (by first | decide | omega)) rfl (aK 27 (.int .i64 4) (iE (by first | decide | omega)) (aP rfl rfl ?_))))))
     refine aB (aC (fK (aE (aA (cZ rfl rfl rfl rfl (kZ 19 rfl (by first | decide | omega) (aB (aC (aE ?_)))))))))
     refine cF rfl (aL (aC (aE (aQ (aE (aA (wq (qF 4 _ wG nV rfl rfl (by decide) (by decide) rfl rfl) rfl (aS uU M13 rfl rfl (fun b14 w14 M14 => (bG 5 _ nV M14 rfl rfl rfl rfl rfl (aR rfl) rfl (fun w15 M15 => (aB (aC (aE (aA ?_)))))))))))))))
     refine wq (aD 0 qY rfl) rfl (wq (aM 5 (.func _ _ _) aGx M15 rfl rfl rfl) rfl (bY bLc rfl rfl (aMr _ b _ (pF 0 M15 rfl rfl)) ?_))
     rintro v16 w16 ⟨rfl, hb16⟩
     have M16 := M15.callB hb16
     refine wq (oO rfl) rfl (aB (aC ?_))
     refine aW rfl (fun h24 => ?_) (fun h24 => ?_)
     ·refine aE (aA (wq (aD 1 rA rfl) rfl (wq (aM 5 (.int _ _) aCo M16 rfl rfl rfl) rfl (bI rfl rfl (aB (aC (aO (kO ?_))))))))
      refine cM (cM (kO (cM (cD (.int _ _) rfl ?_))))
      exact ⟨iE (aUk b (by omega) (by omega) (by omega) (by omega) (by omega)).symm, M16.below⟩
     ·refine aL (cV (aC (aA (wq (aY rfl rfl (by first | decide | omega) (by first | decide | omega)) rfl (aK 27 (.int .i64 5) (iE (by first | decide | omega)) (aP rfl rfl ?_))))))
      refine aB (aC (fK (aE (aA (cZ rfl rfl rfl rfl (kZ 19 rfl (by first | decide | omega) (aB (aC (aE ?_)))))))))
      refine cF rfl (aL (aC (aE (aQ (aE (aA (wq (qF 5 _ wG nV rfl rfl (by decide) (by decide) rfl rfl) rfl (aS uU M16 rfl rfl (fun b17 w17 M17 => (bG 6 _ nV M17 rfl rfl rfl rfl rfl (aR rfl) rfl (fun w18 M18 => (aB (aC (aE (aA ?_)))))))))))))))
      refine wq (aD 0 qY rfl) rfl (wq (aM 6 (.func _ _ _) aGx M18 rfl rfl rfl) rfl (bY bKt rfl rfl (aMi _ b _ (pF 0 M18 rfl rfl)) ?_))
      rintro v19 w19 ⟨rfl, hb19⟩
      have M19 := M18.callB hb19
      refine wq (oO rfl) rfl (aB (aC ?_))
      refine aW rfl (fun h24 => ?_) (fun h24 => ?_)
      ·refine aE (aA (wq (aD 1 rA rfl) rfl (wq (aM 6 (.int _ _) aCo M19 rfl rfl rfl) rfl (bI rfl rfl (aB (aC (aO (kO ?_))))))))
       refine cM (cM (kO (cM (cD (.int _ _) rfl ?_))))
       exact ⟨iE (aTq b (by omega) (by omega) (by omega) (by omega) (by omega) (by omega)).symm, M19.below⟩
      ·refine aL (cV (aC (aA (wq (aY rfl rfl (by first | decide | omega) (by first | decide | omega)) rfl (aK 27 (.int .i64 6) (iE (by first | decide | omega)) (aP rfl rfl ?_))))))
       refine aB (aC (fK (aE (aA (cZ rfl rfl rfl rfl (pE 19 rfl (by first | decide | omega) (aB (aC (aE ?_)))))))))
       refine cJ rfl (cX (dF (dF (eS (aC (aE (aA (bI rfl rfl ?_))))))))
       refine aB (aC (aO (cD (.int _ _) rfl ?_)))
       exact ⟨iE (bGp b (by omega) (by omega) (by omega) (by omega) (by omega) (by omega)).symm, M19.below⟩
set_option maxHeartbeats 4000000 in
theorem aBe (w : World) (x : Int) :
  Calls Tryz.prog 151 #[.int .u32 x] w (fun ex w' => ∃ v, ex = .returned v ∧ (fun v w' => v = .bool false ∧ w' = w) v w') := by
 refine aI #[.tmp 2] 6 Tryz.func151 rfl Tryz.results151 Tryz.ntmps151 rfl ?_
 have M0 := Mem.refl w
 refine aE (aA (wq (aJ (.bool false) rfl) rfl (aB (aC (aE (aA (aP rfl rfl (aP rfl rfl (cZ rfl rfl rfl rfl ?_)))))))))
 refine wq (aJ (.bool (decide _)) rfl) rfl (aB (aC (aO (cD (.bool (decide _)) rfl ?_))))
 exact ⟨(bF (by omega)).symm, rfl⟩
set_option maxHeartbeats 4000000 in
theorem nD (w : World) (x y : Int) :
  Calls Tryz.prog 116 #[.int .u32 x, .int .u32 y] w (fun ex w' => ∃ v, ex = .returned v ∧ (fun v w' => v = .int .i64 (oU x y) ∧ w' = w) v w') := by
 refine aI #[.tmp 4] 20 Tryz.func116 rfl Tryz.results116 Tryz.ntmps116 rfl ?_
 have M0 := Mem.refl w
 refine aE (aA (bI rfl rfl (aB (aC (aE (aA (aP rfl rfl (bY bEy rfl rfl (aBe _ _) ?_))))))))
 rintro v1 w1 ⟨rfl, rfl⟩
 have M1 : Mem _ _ [] _ := M0
 refine wq (aJ (.bool false) rfl) rfl (aB (aC (aE (aA (aP rfl rfl (bY bEy rfl rfl (aBe _ _) ?_))))))
 rintro v2 w2 ⟨rfl, rfl⟩
 have M2 : Mem _ _ [] _ := M1
 refine wq (aJ (.bool false) rfl) rfl (aB (aC (aE (aE (aA (wq (aH (.bool false) rfl) rfl (aB (aC (cJ rfl (aL (aC (aE (aE (aA ?_))))))))))))))
 refine wq (aH (.bool false) rfl) rfl (aB (aC (cJ rfl (aL (aC (aE (aE (aA (aP rfl rfl (aP rfl rfl ?_))))))))))
 refine cZ rfl rfl rfl rfl (aB (aC ?_))
 refine aW rfl (fun h16 => ?_) (fun h16 => ?_)
 ·refine aE (aA (bI rfl rfl (aB (aC (aO (cM (cD (.int _ _) rfl ?_)))))))
  exact ⟨iE (by unfold oU; (repeat' split) <;> omega), rfl⟩
 ·refine aL (aC (aE (aE (aA (aP rfl rfl (aP rfl rfl (cZ rfl rfl rfl rfl (aB (aC ?_)))))))))
  refine aW rfl (fun h19 => ?_) (fun h19 => ?_)
  ·refine aE (aA (bI rfl rfl (aB (aC (aO (cM (cD (.int _ _) rfl ?_)))))))
   exact ⟨iE (by unfold oU; (repeat' split) <;> omega), rfl⟩
  ·refine aL (aC (aE (aA (bI rfl rfl (aB (aC (aO (cD (.int _ _) rfl ?_))))))))
   exact ⟨iE (by unfold oU; (repeat' split) <;> omega), rfl⟩
set_option maxHeartbeats 4000000 in
theorem aGa (a b : Body) (w : World) :
  Calls Tryz.prog 115 #[(.agg (aF a).toArray), (.agg (aF b).toArray)] w (fun ex w' => ∃ v, ex = .returned v ∧ (fun v w' => v = .int .i64 (oU a.key b.key) ∧ ∃ q os, w' = Go.Sort.grow (w.drewN q) os) v w') := by
 refine aI #[.tmp 4] 10 Tryz.func115 rfl Tryz.results115 Tryz.ntmps115 rfl ?_
 have M0 := Mem.refl w
 refine aE (aA (aBx (.agg (List.toArray _)) M0 rfl rfl rfl (fun M1 => (aBx (.agg (List.toArray _)) M1 rfl rfl rfl (fun M2 => (bI rfl rfl (aB (aC (aE (aA (wq (aD 0 dL rfl) rfl ?_)))))))))))
 refine wq (aM 0 (.int _ _) bW M2 rfl rfl rfl) rfl (wq (aD 0 dL rfl) rfl (wq (aM 1 (.int _ _) bW M2 rfl rfl rfl) rfl (bY aJb rfl rfl (nD _ _ _) ?_)))
 rintro v3 w3 ⟨rfl, rfl⟩
 have M3 : Mem _ _ [_, _] _ := M2
 refine bI rfl rfl (aB (aC (aO (cD (.int _ _) rfl ?_))))
 exact ⟨rfl, bRy _ _ _⟩
set_option maxHeartbeats 4000000 in
theorem aFs (w : World) (A : Option Addr) (n c : Nat) (ls : List (List Value)) (R : Rd w 10 A n ls) (h1 : ∀ y ∈ ls, ∀ u ∈ y, one u = true) (hn : n ≤ 1048576) :
  Calls Tryz.prog 64 #[.slice A n c] w (fun ex w' => ∃ v, ex = .returned v ∧ (fun v w' => ∃ A' n' c' e, v = .slice A' n' c' ∧ bC 39 10 A' n' c' ls e ∧ Mem w [] [e] w' ∧ A'.isSome = A.isSome) v w') := by
 refine aI #[.tmp 2] 8 Tryz.func64 rfl Tryz.results64 Tryz.ntmps64 rfl ?_
 have M0 := Mem.refl w
 refine aE (aA (eM rfl rfl (aB (aC (aE (aE (aA (dO rfl rfl (wq (aJh _ Tryz.underlying29 rfl rfl) rfl (aB (aC ?_)))))))))))
 refine iG _ rfl (fun h4 => ?_) (fun h4 => ?_)
 ·refine aE (aA (eM rfl rfl (aB (aC (aO (cM (cD (.slice _ _ _) rfl ?_)))))))
  have hA : A = none := by cases A <;> simp_all
  have hl : ls = [] := by
   rcases Nat.eq_zero_or_pos n with h | h
   ·subst h; exact List.eq_nil_of_length_eq_zero R.len
   ·have := R.some h; rw [hA] at this; cases this
  subst hA; subst hl
  exact ⟨_, _, _, _, rfl, bC.nil 39 10 default, M0.dummy default, rfl⟩
 ·refine aL (aC (aE (aA (cT [] [] rfl dH M0 rfl rfl rfl rfl (dG rfl) (by decide) (fun b1 w1 M1 => (dO rfl rfl (gU 0 ls dH M1 rfl rfl rfl rfl rfl (bC.empty b1) (R.mem M1) h1 (by omega) (fun A2 c2 e2 w2 M2 hR2 hA2 => ?_))))))))
  have hAA := hA2
  refine eM rfl rfl (aB (aC (aO (cD (.slice _ _ _) rfl ?_))))
  refine ⟨_, _, _, _, rfl, by simpa using hR2, M2, ?_⟩
  rw [hAA rfl]; cases A <;> simp_all
end Go.Proofs.YtaoaknafiegfoaaGreatDoor
