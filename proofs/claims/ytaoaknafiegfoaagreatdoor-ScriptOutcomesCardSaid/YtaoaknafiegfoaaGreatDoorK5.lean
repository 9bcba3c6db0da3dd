/- Part of the proof of the laws of this seat: Ty, T26, T25, T20, T20r, T20l, T21, T22, T23, T23l, R5, R6, Bd, Lib, St. No conditions. -/
import Derived.Test.YtaoaknafiegfoaaGreatDoorProg
import Derived.Test.YtaoaknafiegfoaaGreatDoorK2
import Derived.Test.YtaoaknafiegfoaaGreatDoorK3
import Derived.Test.YtaoaknafiegfoaaGreatDoorK4
import Derived.KernelRfl
set_option linter.unusedVariables false
set_option linter.unusedSimpArgs false
set_option linter.unnecessarySimpa false
namespace Go.Proofs.YtaoaknafiegfoaaGreatDoor
open Go.Bil
open Go.Proofs
theorem bW : iW Tryz.prog 35 = true := by kernel_rfl
theorem aS : iW Tryz.prog 21 = true := by kernel_rfl
theorem bBv : ∀ (d : Nat) (w : World) (x0 x1 y0 y1 : Int), (Op.equalIn (d + 2) 37 (.agg [.int .i32 x0, .int .i32 x1].toArray) (.agg [.int .i32 y0, .int .i32 y1].toArray)).run Tryz.prog w = .ok (decide (x0 = y0 ∧ x1 = y1)) w := fun d w x0 x1 y0 y1 => by
  have h := zG (P := Tryz.prog) (T := 37) (dd := d + 1) (xs := [.int .i32 x0, .int .i32 x1]) (ys := [.int .i32 y0, .int .i32 y1]) (w := w) Tryz.underlying37 (by kernel_rfl) (kG rfl (lZ aS rfl) (lZ aS rfl) (tF (dd := d + 0) Tryz.underlying21) (kG rfl (lZ aS rfl) (lZ aS rfl) (tF (dd := d + 0) Tryz.underlying21) (aJq)))
  refine h.trans (congrArg (fun r => Result.ok r w) ?_)
  simp only [Bool.decide_and, Bool.and_true, Bool.and_assoc]
theorem bK : jD Tryz.prog 37 = some 2 := by kernel_rfl
theorem bPb : ∀ (d : Nat) (w : World) (x0 x1 x2 x3 x4 x5 x6 x7 x8 x9 y0 y1 y2 y3 y4 y5 y6 y7 y8 y9 : Int), (Op.equalIn (d + 3) 39 (.agg [.int .u32 x0, .int .i32 x1, .int .i32 x2, .int .i32 x3, .int .i32 x4, .int .i32 x5, .int .i32 x6, .int .i32 x7, .int .i32 x8, .int .i32 x9].toArray) (.agg [.int .u32 y0, .int .i32 y1, .int .i32 y2, .int .i32 y3, .int .i32 y4, .int .i32 y5, .int .i32 y6, .int .i32 y7, .int .i32 y8, .int .i32 y9].toArray)).run Tryz.prog w = .ok (decide (x0 = y0 ∧ x1 = y1 ∧ x2 = y2 ∧ x3 = y3 ∧ x4 = y4 ∧ x5 = y5 ∧ x6 = y6 ∧ x7 = y7 ∧ x8 = y8 ∧ x9 = y9)) w := fun d w x0 x1 x2 x3 x4 x5 x6 x7 x8 x9 y0 y1 y2 y3 y4 y5 y6 y7 y8 y9 => by
  have h := zG (P := Tryz.prog) (T := 39) (dd := d + 2) (xs := [.int .u32 x0, .int .i32 x1, .int .i32 x2, .int .i32 x3, .int .i32 x4, .int .i32 x5, .int .i32 x6, .int .i32 x7, .int .i32 x8, .int .i32 x9]) (ys := [.int .u32 y0, .int .i32 y1, .int .i32 y2, .int .i32 y3, .int .i32 y4, .int .i32 y5, .int .i32 y6, .int .i32 y7, .int .i32 y8, .int .i32 y9]) (w := w) Tryz.underlying39 (by kernel_rfl) (kG rfl (lZ bW rfl) (lZ bW rfl) (tF (dd := d + 1) Tryz.underlying35) (kG rfl (lZ aS rfl) (lZ aS rfl) (tF (dd := d + 1) Tryz.underlying21) (kG rfl (aEe bK rfl) (aEe bK rfl) (bBv (d + 0) w x2 x3 y2 y3) (kG rfl (lZ aS rfl) (lZ aS rfl) (tF (dd := d + 1) Tryz.underlying21) (kG rfl (lZ aS rfl) (lZ aS rfl) (tF (dd := d + 1) Tryz.underlying21) (kG rfl (aEe bK rfl) (aEe bK rfl) (bBv (d + 0) w x6 x7 y6 y7) (kG rfl (aEe bK rfl) (aEe bK rfl) (bBv (d + 0) w x8 x9 y8 y9) (aJq))))))))
  refine h.trans (congrArg (fun r => Result.ok r w) ?_)
  simp only [Bool.decide_and, Bool.and_true, Bool.and_assoc]
theorem bRd : ∀ (x0 x1 x2 x3 x4 x5 x6 x7 x8 x9 y0 y1 y2 y3 y4 y5 y6 y7 y8 y9 : Int), EqA Tryz.prog 39 [.int .u32 x0, .int .i32 x1, .int .i32 x2, .int .i32 x3, .int .i32 x4, .int .i32 x5, .int .i32 x6, .int .i32 x7, .int .i32 x8, .int .i32 x9] [.int .u32 y0, .int .i32 y1, .int .i32 y2, .int .i32 y3, .int .i32 y4, .int .i32 y5, .int .i32 y6, .int .i32 y7, .int .i32 y8, .int .i32 y9] (decide (x0 = y0 ∧ x1 = y1 ∧ x2 = y2 ∧ x3 = y3 ∧ x4 = y4 ∧ x5 = y5 ∧ x6 = y6 ∧ x7 = y7 ∧ x8 = y8 ∧ x9 = y9)) := fun x0 x1 x2 x3 x4 x5 x6 x7 x8 x9 y0 y1 y2 y3 y4 y5 y6 y7 y8 y9 => ⟨by kernel_rfl, fun w => bPb 9997 w x0 x1 x2 x3 x4 x5 x6 x7 x8 x9 y0 y1 y2 y3 y4 y5 y6 y7 y8 y9⟩
theorem bO : jD Tryz.prog 39 = some 10 := by kernel_rfl
theorem bKl : aT Tryz.prog 115 = true := by kernel_rfl
theorem bOe : ∀ (d : Nat) (w : World) (x0 x1 y0 y1 : Int), (Op.equalIn (d + 2) 209 (.agg [.int .u32 x0, .int .u32 x1].toArray) (.agg [.int .u32 y0, .int .u32 y1].toArray)).run Tryz.prog w = .ok (decide (x0 = y0 ∧ x1 = y1)) w := fun d w x0 x1 y0 y1 => by
  have h := zG (P := Tryz.prog) (T := 209) (dd := d + 1) (xs := [.int .u32 x0, .int .u32 x1]) (ys := [.int .u32 y0, .int .u32 y1]) (w := w) Tryz.underlying209 (by kernel_rfl) (kG rfl (lZ bW rfl) (lZ bW rfl) (tF (dd := d + 0) Tryz.underlying35) (kG rfl (lZ bW rfl) (lZ bW rfl) (tF (dd := d + 0) Tryz.underlying35) (aJq)))
  refine h.trans (congrArg (fun r => Result.ok r w) ?_)
  simp only [Bool.decide_and, Bool.and_true, Bool.and_assoc]
theorem bKs : ∀ (x0 x1 y0 y1 : Int), EqA Tryz.prog 209 [.int .u32 x0, .int .u32 x1] [.int .u32 y0, .int .u32 y1] (decide (x0 = y0 ∧ x1 = y1)) := fun x0 x1 y0 y1 => ⟨by kernel_rfl, fun w => bOe 9998 w x0 x1 y0 y1⟩
theorem jF : jD Tryz.prog 209 = some 2 := by kernel_rfl
theorem bMk : aT Tryz.prog 213 = true := by kernel_rfl
theorem bPz : mE Tryz.prog 209 = some (.agg [.int .u32 0, .int .u32 0].toArray) := by kernel_rfl
theorem iP : iW Tryz.prog 3 = true := by kernel_rfl
theorem pD : iW Tryz.prog 4 = true := by kernel_rfl
theorem lH : eM Tryz.prog 39 1 1 = true := by kernel_rfl
theorem iS : eM Tryz.prog 39 2 2 = true := by kernel_rfl
theorem cT : eM Tryz.prog 37 0 0 = true := by kernel_rfl
theorem aIl : aT Tryz.prog 62 = true := by kernel_rfl
theorem cO : eM Tryz.prog 37 1 1 = true := by kernel_rfl
theorem eF : eM Tryz.prog 39 3 4 = true := by kernel_rfl
theorem nA : eM Tryz.prog 39 4 5 = true := by kernel_rfl
theorem fK : eM Tryz.prog 39 5 6 = true := by kernel_rfl
theorem dV : eM Tryz.prog 39 6 8 = true := by kernel_rfl
theorem dH : fO Tryz.prog 29 39 10 40 = true := by kernel_rfl
theorem dM : eM Tryz.prog 39 0 0 = true := by kernel_rfl
theorem mixed : Tryz.prog.follows .mixedOrders = true := by kernel_rfl
theorem aQr : aT Tryz.prog 139 = true := by kernel_rfl
theorem oF : gH Tryz.prog 194 [.nilFunc, .int .i64 0] [(0, 1), (1, 1)] := eT Tryz.underlying194 (by kernel_rfl) (by kernel_rfl) (by kernel_rfl)
theorem wM : yK Tryz.prog 196 6 194 2 = true := by kernel_rfl
theorem bFe : gO Tryz.prog 196 = some [.nilFunc, .int .i64 0, .nilFunc, .int .i64 0, .nilFunc, .int .i64 0, .nilFunc, .int .i64 0, .nilFunc, .int .i64 0, .nilFunc, .int .i64 0] := by kernel_rfl
theorem nT : jD Tryz.prog 194 = some 2 := by kernel_rfl
theorem uJ : gO Tryz.prog 194 = some [.nilFunc, .int .i64 0] := by kernel_rfl
theorem qE : eM Tryz.prog 194 0 0 = true := by kernel_rfl
theorem aHr : iW Tryz.prog 23 = true := by kernel_rfl
theorem bNc : aT Tryz.prog 137 = true := by kernel_rfl
theorem qT : eM Tryz.prog 194 1 1 = true := by kernel_rfl
theorem tX : iW Tryz.prog 30 = true := by kernel_rfl
theorem bKf : aT Tryz.prog 138 = true := by kernel_rfl
theorem bKh : aT Tryz.prog 140 = true := by kernel_rfl
theorem bJx : aT Tryz.prog 141 = true := by kernel_rfl
theorem bKm : aT Tryz.prog 142 = true := by kernel_rfl
theorem bMj : aT Tryz.prog 143 = true := by kernel_rfl
theorem aPw : aT Tryz.prog 102 = true := by kernel_rfl
theorem lC : eM Tryz.prog 103 1 1 = true := by kernel_rfl
theorem qB : iW Tryz.prog 101 = true := by kernel_rfl
theorem tR : yZ Tryz.prog 101 35 3 .u32 = true := by kernel_rfl
theorem zv3 : mE Tryz.prog 3 = some (.int .i64 0) := by kernel_rfl
theorem gW : eM Tryz.prog 103 0 0 = true := by kernel_rfl
theorem gA : iW Tryz.prog 29 = true := by kernel_rfl
theorem fN : gO Tryz.prog 39 = some [.int .u32 0, .int .i32 0, .int .i32 0, .int .i32 0, .int .i32 0, .int .i32 0, .int .i32 0, .int .i32 0, .int .i32 0, .int .i32 0] := by kernel_rfl
theorem xC : gH Tryz.prog 39 [.int .u32 0, .int .i32 0, .int .i32 0, .int .i32 0, .int .i32 0, .int .i32 0, .int .i32 0, .int .i32 0, .int .i32 0, .int .i32 0] [(0, 1), (1, 1), (2, 2), (4, 1), (5, 1), (6, 2), (8, 2)] := eT Tryz.underlying39 (by kernel_rfl) (by kernel_rfl) (by kernel_rfl)
theorem bCx : aT Tryz.prog 151 = true := by kernel_rfl
theorem aJn : aT Tryz.prog 116 = true := by kernel_rfl
theorem bPj : aT Tryz.prog 64 = true := by kernel_rfl
theorem bNs : aT Tryz.prog 114 = true := by kernel_rfl
theorem bJj : aT Tryz.prog 27 = true := by kernel_rfl
theorem sD : aT Tryz.prog 99 = true := by kernel_rfl
theorem aJl : aT Tryz.prog 126 = true := by kernel_rfl
theorem bQg : aT Tryz.prog 94 = true := by kernel_rfl
theorem bOl : aT Tryz.prog 119 = true := by kernel_rfl
theorem bOc : aT Tryz.prog 103 = true := by kernel_rfl
theorem us3 : (Tryz.prog.underlying 3).isSome = true := by kernel_rfl
theorem bQz : (Tryz.prog.underlying 178).isSome = true := by kernel_rfl
theorem bAs : aT Tryz.prog 188 = true := by kernel_rfl
theorem bMl : aT Tryz.prog 187 = true := by kernel_rfl
theorem aZj : aT Tryz.prog 253 = true := by kernel_rfl
theorem aJy : gO Tryz.prog 253 = some [.int .i32 0, .int .i32 0, .int .i32 0, .int .i32 0] := by kernel_rfl
theorem bLi : aT Tryz.prog 229 = true := by kernel_rfl
theorem aHm : gH Tryz.prog 253 [.int .i32 0, .int .i32 0, .int .i32 0, .int .i32 0] [(0, 1), (1, 1), (2, 1), (3, 1)] := eT Tryz.underlying253 (by kernel_rfl) (by kernel_rfl) (by kernel_rfl)
theorem kX : jD Tryz.prog 253 = some 4 := by kernel_rfl
theorem xY : eM Tryz.prog 253 0 0 = true := by kernel_rfl
theorem xZ : eM Tryz.prog 253 2 2 = true := by kernel_rfl
theorem xA : eM Tryz.prog 253 1 1 = true := by kernel_rfl
theorem wP : eM Tryz.prog 253 3 3 = true := by kernel_rfl
theorem aOr : aT Tryz.prog 231 = true := by kernel_rfl
theorem bKi : aT Tryz.prog 232 = true := by kernel_rfl
theorem rN : gO Tryz.prog 283 = some [.int .i32 0, .int .i32 0] := by kernel_rfl
theorem aHt : gH Tryz.prog 283 [.int .i32 0, .int .i32 0] [(0, 1), (1, 1)] := eT Tryz.underlying283 (by kernel_rfl) (by kernel_rfl) (by kernel_rfl)
theorem jU : jD Tryz.prog 283 = some 2 := by kernel_rfl
theorem eV : gH Tryz.prog 37 [.int .i32 0, .int .i32 0] [(0, 1), (1, 1)] := eT Tryz.underlying37 (by kernel_rfl) (by kernel_rfl) (by kernel_rfl)
theorem aZc : aT Tryz.prog 267 = true := by kernel_rfl
theorem bMq : aT Tryz.prog 254 = true := by kernel_rfl
theorem aTa : gO Tryz.prog 4 = some [.bool false] := by kernel_rfl
theorem aEw : eM Tryz.prog 283 1 1 = true := by kernel_rfl
theorem aCl : eM Tryz.prog 283 0 0 = true := by kernel_rfl
theorem bIi : gO Tryz.prog 281 = some [.slice none 0 0] := by kernel_rfl
theorem bKz : aT Tryz.prog 230 = true := by kernel_rfl
theorem bLa : aT Tryz.prog 255 = true := by kernel_rfl
theorem aRh : iW Tryz.prog 281 = true := by kernel_rfl
theorem bBk : fO Tryz.prog 281 283 2 8 = true := by kernel_rfl
theorem dP : (Tryz.prog.underlying 21).isSome = true := by kernel_rfl
theorem bDb : yK Tryz.prog 323 2 35 1 = true := by kernel_rfl
theorem uZ : (Tryz.prog.underlying 35).isSome = true := by kernel_rfl
theorem bMn : aT Tryz.prog 245 = true := by kernel_rfl
theorem lX : (Tryz.prog.underlying 2).isSome = true := by kernel_rfl
theorem vI : (Tryz.prog.underlying 237).isSome = true := by kernel_rfl
theorem tP : aT Tryz.prog 222 = true := by kernel_rfl
theorem aQz : aT Tryz.prog 221 = true := by kernel_rfl
theorem aZx : aT Tryz.prog 223 = true := by kernel_rfl
theorem aKo : aT Tryz.prog 224 = true := by kernel_rfl
theorem aKl : aT Tryz.prog 246 = true := by kernel_rfl
theorem aYl : aT Tryz.prog 240 = true := by kernel_rfl
theorem aOu : aT Tryz.prog 216 = true := by kernel_rfl
theorem bLu : aT Tryz.prog 242 = true := by kernel_rfl
theorem iF : gO Tryz.prog 37 = some [.int .i32 0, .int .i32 0] := by kernel_rfl
theorem aZh : aT Tryz.prog 218 = true := by kernel_rfl
theorem aYn : aT Tryz.prog 241 = true := by kernel_rfl
theorem aDd : aT Tryz.prog 239 = true := by kernel_rfl
theorem iV : iW Tryz.prog 2 = true := by kernel_rfl
theorem aKa : aT Tryz.prog 189 = true := by kernel_rfl
theorem bMe : aT Tryz.prog 282 = true := by kernel_rfl
theorem aEj : gO Tryz.prog 2 = some [.int .i64 0] := by kernel_rfl
theorem bBb : aT Tryz.prog 283 = true := by kernel_rfl
theorem cQ : iW Tryz.prog 237 = true := by kernel_rfl
theorem bFm : gO Tryz.prog 237 = some [.int .u64 0] := by kernel_rfl
theorem zC : yK Tryz.prog 369 2 37 2 = true := by kernel_rfl
theorem aSx : gO Tryz.prog 369 = some [.int .i32 0, .int .i32 0, .int .i32 0, .int .i32 0] := by kernel_rfl
theorem aJt : aT Tryz.prog 277 = true := by kernel_rfl
theorem aJh : aT Tryz.prog 276 = true := by kernel_rfl
theorem bKk : aT Tryz.prog 259 = true := by kernel_rfl
theorem wZ : gO Tryz.prog 296 = some [.int .u32 0, .int .i32 0, .int .i32 0, .int .i32 0, .int .i32 0, .int .i32 0, .int .i32 0, .int .i32 0, .int .i32 0, .int .i32 0, .int .i32 0, .int .i32 0, .int .i32 0, .int .i32 0] := by kernel_rfl
theorem bMw : aT Tryz.prog 258 = true := by kernel_rfl
theorem aWs : gH Tryz.prog 296 [.int .u32 0, .int .i32 0, .int .i32 0, .int .i32 0, .int .i32 0, .int .i32 0, .int .i32 0, .int .i32 0, .int .i32 0, .int .i32 0, .int .i32 0, .int .i32 0, .int .i32 0, .int .i32 0] [(0, 10), (10, 2), (12, 2)] := eT Tryz.underlying296 (by kernel_rfl) (by kernel_rfl) (by kernel_rfl)
theorem nN : jD Tryz.prog 296 = some 14 := by kernel_rfl
theorem aIn : aT Tryz.prog 237 = true := by kernel_rfl
theorem aNp : eM Tryz.prog 296 1 10 = true := by kernel_rfl
theorem aLr : eM Tryz.prog 296 2 12 = true := by kernel_rfl
theorem bKx : aT Tryz.prog 238 = true := by kernel_rfl
theorem wR : eM Tryz.prog 296 0 0 = true := by kernel_rfl
theorem mC : gO Tryz.prog 211 = some [.int .u32 0, .int .u32 0, .int .i32 0, .int .i32 0, .int .i32 0] := by kernel_rfl
theorem bOk : aT Tryz.prog 214 = true := by kernel_rfl
theorem bNf : aT Tryz.prog 215 = true := by kernel_rfl
theorem uN : gH Tryz.prog 211 [.int .u32 0, .int .u32 0, .int .i32 0, .int .i32 0, .int .i32 0] [(0, 2), (2, 2), (4, 1)] := eT Tryz.underlying211 (by kernel_rfl) (by kernel_rfl) (by kernel_rfl)
theorem eS : jD Tryz.prog 211 = some 5 := by kernel_rfl
theorem zO : gH Tryz.prog 209 [.int .u32 0, .int .u32 0] [(0, 1), (1, 1)] := eT Tryz.underlying209 (by kernel_rfl) (by kernel_rfl) (by kernel_rfl)
theorem uB : gO Tryz.prog 209 = some [.int .u32 0, .int .u32 0] := by kernel_rfl
theorem bKa : aT Tryz.prog 217 = true := by kernel_rfl
theorem aNj : eM Tryz.prog 250 1 1024 = true := by kernel_rfl
theorem bKg : aT Tryz.prog 204 = true := by kernel_rfl
theorem bKw : aT Tryz.prog 205 = true := by kernel_rfl
theorem bDv : yZ Tryz.prog 280 3 4 .i64 = true := by kernel_rfl
theorem zv4 : mE Tryz.prog 4 = some (.bool false) := by kernel_rfl
theorem aEh : eM Tryz.prog 250 0 0 = true := by kernel_rfl
theorem aRe : yK Tryz.prog 248 1024 247 1 = true := by kernel_rfl
theorem aIm : iW Tryz.prog 247 = true := by kernel_rfl
theorem aMf : fO Tryz.prog 247 35 1 4 = true := by kernel_rfl
theorem bCz : fO Tryz.prog 353 3 1 8 = true := by kernel_rfl
theorem gD : eM Tryz.prog 209 0 0 = true := by kernel_rfl
theorem jS : eM Tryz.prog 209 1 1 = true := by kernel_rfl
theorem bJu : aT Tryz.prog 236 = true := by kernel_rfl
theorem bOg : iW Tryz.prog 287 = true := by kernel_rfl
theorem bLp : aT Tryz.prog 235 = true := by kernel_rfl
theorem aPx : iW Tryz.prog 220 = true := by kernel_rfl
theorem yI : fO Tryz.prog 220 209 2 8 = true := by kernel_rfl
theorem bJs : aT Tryz.prog 256 = true := by kernel_rfl
theorem bLg : aT Tryz.prog 233 = true := by kernel_rfl
theorem bLs : aT Tryz.prog 234 = true := by kernel_rfl
theorem bNr : jD Tryz.prog 248 = some 1024 := by kernel_rfl
theorem bNt : aT Tryz.prog 210 = true := by kernel_rfl
theorem aVu : gH Tryz.prog 288 [] [] := eT Tryz.underlying288 (by kernel_rfl) (by kernel_rfl) (by kernel_rfl)
theorem bNu : aT Tryz.prog 212 = true := by kernel_rfl
theorem bOu : aT Tryz.prog 211 = true := by kernel_rfl
theorem bMm : aT Tryz.prog 203 = true := by kernel_rfl
theorem aJu : yZ Tryz.prog 245 35 253 .u32 = true := by kernel_rfl
theorem bRm : gO Tryz.prog 3 = some [.int .i64 0] := by kernel_rfl
theorem aYw : iW Tryz.prog 245 = true := by kernel_rfl
theorem bCo : mE Tryz.prog 253 = some (.agg [.int .i32 0, .int .i32 0, .int .i32 0, .int .i32 0].toArray) := by kernel_rfl
theorem bOq : aT Tryz.prog 207 = true := by kernel_rfl
theorem bBr : aT Tryz.prog 206 = true := by kernel_rfl
theorem bMs : aT Tryz.prog 209 = true := by kernel_rfl
theorem bMz : aT Tryz.prog 180 = true := by kernel_rfl
theorem bKp : aT Tryz.prog 181 = true := by kernel_rfl
theorem bLb : aT Tryz.prog 182 = true := by kernel_rfl
theorem bNv : aT Tryz.prog 184 = true := by kernel_rfl
theorem bNm : aT Tryz.prog 183 = true := by kernel_rfl
theorem bMi : aT Tryz.prog 208 = true := by kernel_rfl
theorem aCe : eM Tryz.prog 219 0 0 = true := by kernel_rfl
theorem aCv : iW Tryz.prog 217 = true := by kernel_rfl
theorem aEt : yZ Tryz.prog 217 35 39 .u32 = true := by kernel_rfl
theorem bGk : mE Tryz.prog 39 = some (.agg [.int .u32 0, .int .i32 0, .int .i32 0, .int .i32 0, .int .i32 0, .int .i32 0, .int .i32 0, .int .i32 0, .int .i32 0, .int .i32 0].toArray) := by kernel_rfl
theorem aZk : aT Tryz.prog 185 = true := by kernel_rfl
theorem tD : eM Tryz.prog 219 1 1 = true := by kernel_rfl
theorem oP : iW Tryz.prog 166 = true := by kernel_rfl
theorem sE : fO Tryz.prog 166 211 5 20 = true := by kernel_rfl
theorem bMf : aT Tryz.prog 159 = true := by kernel_rfl
theorem aWp : gH Tryz.prog 219 [.map none, .slice none 0 0] [(0, 1), (1, 1)] := eT Tryz.underlying219 (by kernel_rfl) (by kernel_rfl) (by kernel_rfl)
theorem bOa : aT Tryz.prog 157 = true := by kernel_rfl
theorem bNg : aT Tryz.prog 158 = true := by kernel_rfl
theorem uA : gO Tryz.prog 344 = some [.int .u64 0, .int .u64 0, .int .u64 0, .int .u64 0, .int .u64 0, .int .u64 0, .int .u64 0, .int .u64 0] := by kernel_rfl
theorem bU : eM Tryz.prog 344 0 0 = true := by kernel_rfl
theorem cX : yK Tryz.prog 342 8 237 1 = true := by kernel_rfl
theorem nR : jD Tryz.prog 344 = some 8 := by kernel_rfl
theorem bCs : aT Tryz.prog 266 = true := by kernel_rfl
theorem bMb : aT Tryz.prog 265 = true := by kernel_rfl
theorem bBz : aT Tryz.prog 251 = true := by kernel_rfl
theorem bAb : aT Tryz.prog 250 = true := by kernel_rfl
theorem aZe : aT Tryz.prog 252 = true := by kernel_rfl
theorem bDi : aT Tryz.prog 199 = true := by kernel_rfl
theorem bKc : aT Tryz.prog 200 = true := by kernel_rfl
theorem aQh : aT Tryz.prog 177 = true := by kernel_rfl
theorem kW : aT Tryz.prog 152 = true := by kernel_rfl
theorem aZy : aT Tryz.prog 247 = true := by kernel_rfl
theorem bKv : aT Tryz.prog 264 = true := by kernel_rfl
theorem bOs : aT Tryz.prog 248 = true := by kernel_rfl
theorem aZp : aT Tryz.prog 249 = true := by kernel_rfl
theorem xN : eM Tryz.prog 239 1 2 = true := by kernel_rfl
theorem xV : eM Tryz.prog 239 0 0 = true := by kernel_rfl
theorem aBw : gO Tryz.prog 239 = some [.int .i32 0, .int .i32 0, .int .i32 0, .int .i32 0] := by kernel_rfl
theorem tZ : gH Tryz.prog 239 [.int .i32 0, .int .i32 0, .int .i32 0, .int .i32 0] [(0, 2), (2, 2)] := eT Tryz.underlying239 (by kernel_rfl) (by kernel_rfl) (by kernel_rfl)
theorem aKb : aT Tryz.prog 226 = true := by kernel_rfl
theorem aUf : fO Tryz.prog 315 239 4 16 = true := by kernel_rfl
theorem mD : jD Tryz.prog 239 = some 4 := by kernel_rfl
theorem aRr : aT Tryz.prog 175 = true := by kernel_rfl
theorem bCn : aT Tryz.prog 197 = true := by kernel_rfl
theorem bBp : aT Tryz.prog 198 = true := by kernel_rfl
theorem bNl : aT Tryz.prog 196 = true := by kernel_rfl
theorem bNo : aT Tryz.prog 174 = true := by kernel_rfl
theorem bNh : aT Tryz.prog 176 = true := by kernel_rfl
theorem aRo : aT Tryz.prog 154 = true := by kernel_rfl
theorem bMc : aT Tryz.prog 284 = true := by kernel_rfl
theorem bMg : aT Tryz.prog 278 = true := by kernel_rfl
theorem gY : eM Tryz.prog 211 1 2 = true := by kernel_rfl
theorem bNq : aT Tryz.prog 260 = true := by kernel_rfl
theorem bLo : aT Tryz.prog 261 = true := by kernel_rfl
theorem aYh : aT Tryz.prog 262 = true := by kernel_rfl
theorem bBh : aT Tryz.prog 263 = true := by kernel_rfl
theorem qF : eM Tryz.prog 303 0 0 = true := by kernel_rfl
theorem fM : eM Tryz.prog 211 0 0 = true := by kernel_rfl
theorem aKu : aT Tryz.prog 161 = true := by kernel_rfl
theorem bNd : aT Tryz.prog 243 = true := by kernel_rfl
theorem aYz : aT Tryz.prog 244 = true := by kernel_rfl
theorem qZ : eM Tryz.prog 303 1 1 = true := by kernel_rfl
theorem nQ : iW Tryz.prog 260 = true := by kernel_rfl
theorem qY : eM Tryz.prog 303 2 2 = true := by kernel_rfl
theorem pH : fO Tryz.prog 260 2 1 8 = true := by kernel_rfl
theorem bOo : aT Tryz.prog 220 = true := by kernel_rfl
theorem aIi : gH Tryz.prog 303 [.slice none 0 0, .slice none 0 0, .slice none 0 0] [(0, 1), (1, 1), (2, 1)] := eT Tryz.underlying303 (by kernel_rfl) (by kernel_rfl) (by kernel_rfl)
theorem bCy : aT Tryz.prog 219 = true := by kernel_rfl
theorem bKq : aT Tryz.prog 186 = true := by kernel_rfl
theorem aOm : aT Tryz.prog 148 = true := by kernel_rfl
theorem bLt : aT Tryz.prog 160 = true := by kernel_rfl
theorem aCo : eM Tryz.prog 211 2 4 = true := by kernel_rfl
theorem bAr : aT Tryz.prog 190 = true := by kernel_rfl
theorem yT : iW Tryz.prog 127 = true := by kernel_rfl
theorem aDh : fO Tryz.prog 127 177 2 16 = true := by kernel_rfl
theorem aFh : eM Tryz.prog 177 0 0 = true := by kernel_rfl
theorem aDs : eM Tryz.prog 177 1 1 = true := by kernel_rfl
theorem bHh : gO Tryz.prog 177 = some [.int .i64 0, .int .i64 0] := by kernel_rfl
theorem bHf : gO Tryz.prog 127 = some [.slice none 0 0] := by kernel_rfl
theorem bEh : aT Tryz.prog 163 = true := by kernel_rfl
theorem bCk : aT Tryz.prog 162 = true := by kernel_rfl
theorem aHe : fO Tryz.prog 201 174 1 8 = true := by kernel_rfl
theorem bMt : iW Tryz.prog 174 = true := by kernel_rfl
theorem bLc : aT Tryz.prog 111 = true := by kernel_rfl
theorem aFm : aT Tryz.prog 112 = true := by kernel_rfl
theorem bLv : aT Tryz.prog 110 = true := by kernel_rfl
theorem bCg : aT Tryz.prog 109 = true := by kernel_rfl
theorem bNx : aT Tryz.prog 113 = true := by kernel_rfl
theorem bRj : aT Tryz.prog 66 = true := by kernel_rfl
theorem bQe : aT Tryz.prog 67 = true := by kernel_rfl
theorem xJ : eM Tryz.prog 168 1 1 = true := by kernel_rfl
theorem qQ : eM Tryz.prog 168 3 3 = true := by kernel_rfl
theorem aBz : eM Tryz.prog 58 2 2 = true := by kernel_rfl
theorem aEv : eM Tryz.prog 168 0 0 = true := by kernel_rfl
theorem bLr : aT Tryz.prog 144 = true := by kernel_rfl
theorem yF : eM Tryz.prog 168 2 2 = true := by kernel_rfl
theorem bHz : eM Tryz.prog 58 0 0 = true := by kernel_rfl
theorem aSy : eM Tryz.prog 58 1 1 = true := by kernel_rfl
theorem aRf : aT Tryz.prog 145 = true := by kernel_rfl
theorem bKb : aT Tryz.prog 146 = true := by kernel_rfl
theorem bNi : aT Tryz.prog 147 = true := by kernel_rfl
theorem aKs : gO Tryz.prog 58 = some [.int .i64 0, .int .i64 0, .bool false] := by kernel_rfl
theorem aVj : gH Tryz.prog 168 [.slice none 0 0, .slice none 0 0, .slice none 0 0, .int .i64 0, .int .i64 0, .bool false] [(0, 1), (1, 1), (2, 1), (3, 3)] := eT Tryz.underlying168 (by kernel_rfl) (by kernel_rfl) (by kernel_rfl)
theorem aCq : yK Tryz.prog 170 4 169 1 = true := by kernel_rfl
theorem bFz : gO Tryz.prog 170 = some [.nilFunc, .nilFunc, .nilFunc, .nilFunc] := by kernel_rfl
theorem aKf : iW Tryz.prog 169 = true := by kernel_rfl
theorem bMx : aT Tryz.prog 105 = true := by kernel_rfl
theorem bLq : aT Tryz.prog 106 = true := by kernel_rfl
theorem bLl : aT Tryz.prog 107 = true := by kernel_rfl
theorem bNw : aT Tryz.prog 108 = true := by kernel_rfl
theorem aAj : jD Tryz.prog 58 = some 3 := by kernel_rfl
theorem bPh : aT Tryz.prog 65 = true := by kernel_rfl
theorem bNp : aT Tryz.prog 227 = true := by kernel_rfl
theorem bDy : aT Tryz.prog 228 = true := by kernel_rfl
theorem aYc : aT Tryz.prog 201 = true := by kernel_rfl
theorem aIp : aT Tryz.prog 202 = true := by kernel_rfl
theorem bEe : aT Tryz.prog 178 = true := by kernel_rfl
theorem wJ : aT Tryz.prog 153 = true := by kernel_rfl
theorem bJz : aT Tryz.prog 155 = true := by kernel_rfl
theorem bMp : aT Tryz.prog 179 = true := by kernel_rfl
theorem bHe : gO Tryz.prog 214 = some [.int .i64 0, .int .i64 0] := by kernel_rfl
theorem bCb : aT Tryz.prog 156 = true := by kernel_rfl
theorem lE : eM Tryz.prog 214 0 0 = true := by kernel_rfl
theorem lD : eM Tryz.prog 214 1 1 = true := by kernel_rfl
theorem bOf : jD Tryz.prog 214 = some 2 := by kernel_rfl
theorem aHh : fO Tryz.prog 189 214 2 16 = true := by kernel_rfl
theorem bKy : aT Tryz.prog 128 = true := by kernel_rfl
theorem bLy : aT Tryz.prog 129 = true := by kernel_rfl
theorem bKu : aT Tryz.prog 130 = true := by kernel_rfl
theorem bKr : aT Tryz.prog 132 = true := by kernel_rfl
theorem bJy : aT Tryz.prog 131 = true := by kernel_rfl
theorem gL : fO Tryz.prog 31 5 1 1 = true := by kernel_rfl
theorem aJz : gO Tryz.prog 139 = some [.int .u32 0, .int .u32 0, .int .u32 0, .int .u32 0, .int .u32 0, .int .u32 0, .int .u32 0, .int .u32 0, .int .u32 0, .int .u32 0] := by kernel_rfl
theorem iK : yK Tryz.prog 139 10 35 1 = true := by kernel_rfl
theorem rF : aT Tryz.prog 136 = true := by kernel_rfl
theorem aQc : jD Tryz.prog 139 = some 10 := by kernel_rfl
theorem aGg : iW Tryz.prog 5 = true := by kernel_rfl
theorem us5 : (Tryz.prog.underlying 5).isSome = true := by kernel_rfl
theorem aQp : aT Tryz.prog 118 = true := by kernel_rfl
theorem bJp : aT Tryz.prog 82 = true := by kernel_rfl
theorem aYt : aT Tryz.prog 100 = true := by kernel_rfl
theorem bLz : aT Tryz.prog 101 = true := by kernel_rfl
theorem sL : aT Tryz.prog 79 = true := by kernel_rfl
theorem sI : aT Tryz.prog 80 = true := by kernel_rfl
theorem bPy : aT Tryz.prog 81 = true := by kernel_rfl
theorem aQl : aT Tryz.prog 133 = true := by kernel_rfl
theorem sT : aT Tryz.prog 59 = true := by kernel_rfl
theorem sB : aT Tryz.prog 134 = true := by kernel_rfl
theorem bLh : aT Tryz.prog 135 = true := by kernel_rfl
theorem tQ : eM Tryz.prog 107 0 0 = true := by kernel_rfl
theorem aZi : aT Tryz.prog 60 = true := by kernel_rfl
theorem qM : eM Tryz.prog 105 0 0 = true := by kernel_rfl
theorem bIq : aT Tryz.prog 61 = true := by kernel_rfl
theorem bKn : aT Tryz.prog 122 = true := by kernel_rfl
theorem bMr : aT Tryz.prog 117 = true := by kernel_rfl
theorem bQd : aT Tryz.prog 68 = true := by kernel_rfl
theorem aUi : aT Tryz.prog 38 = true := by kernel_rfl
theorem bQa : aT Tryz.prog 58 = true := by kernel_rfl
theorem bRa : aT Tryz.prog 69 = true := by kernel_rfl
theorem bOb : aT Tryz.prog 124 = true := by kernel_rfl
theorem bJt : aT Tryz.prog 125 = true := by kernel_rfl
theorem aXo : gH Tryz.prog 105 [.slice none 0 0, .map none] [(0, 2)] := eT Tryz.underlying105 (by kernel_rfl) (by kernel_rfl) (by kernel_rfl)
theorem bOm : jD Tryz.prog 105 = some 2 := by kernel_rfl
theorem bIv : aT Tryz.prog 78 = true := by kernel_rfl
theorem bPg : aT Tryz.prog 54 = true := by kernel_rfl
theorem bCm : aT Tryz.prog 127 = true := by kernel_rfl
theorem aJe : gO Tryz.prog 112 = some [.slice none 0 0, .int .i64 0, .int .u32 0, .int .i32 0, .int .i32 0, .int .i32 0, .int .i32 0, .int .i32 0, .int .i32 0, .int .i32 0, .int .i32 0, .int .i32 0, .slice none 0 0, .int .i64 0, .bool false] := by kernel_rfl
theorem aWb : gH Tryz.prog 112 [.slice none 0 0, .int .i64 0, .int .u32 0, .int .i32 0, .int .i32 0, .int .i32 0, .int .i32 0, .int .i32 0, .int .i32 0, .int .i32 0, .int .i32 0, .int .i32 0, .slice none 0 0, .int .i64 0, .bool false] [(0, 1), (1, 1), (2, 10), (12, 1), (13, 1), (14, 1)] := eT Tryz.underlying112 (by kernel_rfl) (by kernel_rfl) (by kernel_rfl)
theorem fP : jD Tryz.prog 112 = some 15 := by kernel_rfl
theorem bEl : eM Tryz.prog 114 0 0 = true := by kernel_rfl
theorem aYo : eM Tryz.prog 114 1 1 = true := by kernel_rfl
theorem qP : eM Tryz.prog 112 0 0 = true := by kernel_rfl
theorem qU : eM Tryz.prog 112 1 1 = true := by kernel_rfl
theorem aEl : eM Tryz.prog 114 2 11 = true := by kernel_rfl
theorem bRh : aT Tryz.prog 95 = true := by kernel_rfl
theorem bBd : eM Tryz.prog 114 3 12 = true := by kernel_rfl
theorem bQp : aT Tryz.prog 96 = true := by kernel_rfl
theorem bQb : aT Tryz.prog 97 = true := by kernel_rfl
theorem aMc : eM Tryz.prog 112 4 13 = true := by kernel_rfl
theorem aMk : eM Tryz.prog 112 5 14 = true := by kernel_rfl
theorem bQm : aT Tryz.prog 25 = true := by kernel_rfl
theorem aMh : eM Tryz.prog 112 3 12 = true := by kernel_rfl
theorem sP : iW Tryz.prog 31 = true := by kernel_rfl
theorem bDs : eM Tryz.prog 114 4 14 = true := by kernel_rfl
theorem bQr : aT Tryz.prog 98 = true := by kernel_rfl
theorem bDw : eM Tryz.prog 112 2 2 = true := by kernel_rfl
theorem bIj : eM Tryz.prog 41 1 1 = true := by kernel_rfl
theorem aRz : eM Tryz.prog 41 2 11 = true := by kernel_rfl
theorem bIa : eM Tryz.prog 41 4 14 = true := by kernel_rfl
theorem bQo : aT Tryz.prog 83 = true := by kernel_rfl
theorem mQ : yZ Tryz.prog 109 3 34 .i64 = true := by kernel_rfl
theorem bQq : aT Tryz.prog 85 = true := by kernel_rfl
theorem bQj : aT Tryz.prog 88 = true := by kernel_rfl
theorem mS : gO Tryz.prog 33 = some [.int .i64 0, .slice none 0 0, .int .i64 0, .bool false] := by kernel_rfl
theorem bDz : iW Tryz.prog 143 = true := by kernel_rfl
theorem bNb : iW Tryz.prog 144 = true := by kernel_rfl
theorem pR : jD Tryz.prog 41 = some 15 := by kernel_rfl
theorem oR : gH Tryz.prog 33 [.int .i64 0, .slice none 0 0, .int .i64 0, .bool false] [(0, 1), (1, 1), (2, 1), (3, 1)] := eT Tryz.underlying33 (by kernel_rfl) (by kernel_rfl) (by kernel_rfl)
theorem bQu : aT Tryz.prog 84 = true := by kernel_rfl
theorem bQk : aT Tryz.prog 26 = true := by kernel_rfl
theorem jC : jD Tryz.prog 33 = some 4 := by kernel_rfl
theorem bDr : iW Tryz.prog 146 = true := by kernel_rfl
theorem bOv : iW Tryz.prog 148 = true := by kernel_rfl
theorem bPu : aT Tryz.prog 87 = true := by kernel_rfl
theorem bPc : aT Tryz.prog 86 = true := by kernel_rfl
theorem bAh : iW Tryz.prog 150 = true := by kernel_rfl
theorem bNn : iW Tryz.prog 151 = true := by kernel_rfl
theorem bRc : aT Tryz.prog 89 = true := by kernel_rfl
theorem bPn : aT Tryz.prog 74 = true := by kernel_rfl
theorem bGq : eM Tryz.prog 41 3 12 = true := by kernel_rfl
theorem bQl : aT Tryz.prog 91 = true := by kernel_rfl
theorem bPf : aT Tryz.prog 53 = true := by kernel_rfl
theorem bRg : aT Tryz.prog 24 = true := by kernel_rfl
theorem rT : eM Tryz.prog 41 0 0 = true := by kernel_rfl
theorem aCt : aT Tryz.prog 55 = true := by kernel_rfl
theorem aOy : mE Tryz.prog 34 = some (.nilFunc) := by kernel_rfl
theorem bOj : aT Tryz.prog 120 = true := by kernel_rfl
theorem bNk : aT Tryz.prog 121 = true := by kernel_rfl
theorem bNz : aT Tryz.prog 123 = true := by kernel_rfl
theorem bPl : aT Tryz.prog 90 = true := by kernel_rfl
theorem bPt : aT Tryz.prog 92 = true := by kernel_rfl
theorem bPr : aT Tryz.prog 93 = true := by kernel_rfl
theorem bHa : fO Tryz.prog 27 41 15 88 = true := by kernel_rfl
theorem aYf : gO Tryz.prog 41 = some [.int .i64 0, .int .u32 0, .int .i32 0, .int .i32 0, .int .i32 0, .int .i32 0, .int .i32 0, .int .i32 0, .int .i32 0, .int .i32 0, .int .i32 0, .int .u32 0, .int .i32 0, .int .i32 0, .slice none 0 0] := by kernel_rfl
theorem bQs : aT Tryz.prog 20 = true := by kernel_rfl
theorem aKm : fO Tryz.prog 63 33 4 48 = true := by kernel_rfl
theorem bFt : gO Tryz.prog 107 = some [.slice none 0 0, .map none] := by kernel_rfl
theorem bEg : aT Tryz.prog 33 = true := by kernel_rfl
theorem bAd : fO Tryz.prog 22 46 15 88 = true := by kernel_rfl
theorem aJa : eM Tryz.prog 46 4 14 = true := by kernel_rfl
theorem xW : eM Tryz.prog 46 0 0 = true := by kernel_rfl
theorem bAv : gO Tryz.prog 43 = some [.int .i64 0, .slice none 0 0, .int .i64 0, .bool false] := by kernel_rfl
theorem sR : gH Tryz.prog 43 [.int .i64 0, .slice none 0 0, .int .i64 0, .bool false] [(0, 1), (1, 1), (2, 1), (3, 1)] := eT Tryz.underlying43 (by kernel_rfl) (by kernel_rfl) (by kernel_rfl)
theorem vP : jD Tryz.prog 43 = some 4 := by kernel_rfl
theorem aUg : eM Tryz.prog 46 1 1 = true := by kernel_rfl
theorem aTf : eM Tryz.prog 46 2 11 = true := by kernel_rfl
theorem aUm : eM Tryz.prog 46 3 12 = true := by kernel_rfl
theorem aXs : gH Tryz.prog 114 [.int .i64 0, .int .u32 0, .int .i32 0, .int .i32 0, .int .i32 0, .int .i32 0, .int .i32 0, .int .i32 0, .int .i32 0, .int .i32 0, .int .i32 0, .int .u32 0, .int .i32 0, .int .i32 0, .slice none 0 0] [(0, 1), (1, 10), (11, 1), (12, 2), (14, 1)] := eT Tryz.underlying114 (by kernel_rfl) (by kernel_rfl) (by kernel_rfl)
theorem bQn : aT Tryz.prog 56 = true := by kernel_rfl
theorem bJn : jD Tryz.prog 46 = some 15 := by kernel_rfl
theorem bPv : aT Tryz.prog 21 = true := by kernel_rfl
theorem bLn : fO Tryz.prog 65 43 4 48 = true := by kernel_rfl
theorem aSw : eM Tryz.prog 43 0 0 = true := by kernel_rfl
theorem aUn : eM Tryz.prog 43 1 1 = true := by kernel_rfl
theorem bRk : aT Tryz.prog 23 = true := by kernel_rfl
theorem aUa : eM Tryz.prog 43 2 2 = true := by kernel_rfl
theorem aTl : eM Tryz.prog 43 3 3 = true := by kernel_rfl
theorem xL : eM Tryz.prog 33 0 0 = true := by kernel_rfl
theorem aSt : eM Tryz.prog 33 1 1 = true := by kernel_rfl
theorem bHl : eM Tryz.prog 33 2 2 = true := by kernel_rfl
theorem bGg : eM Tryz.prog 33 3 3 = true := by kernel_rfl
theorem bQw : aT Tryz.prog 57 = true := by kernel_rfl
theorem qN : gH Tryz.prog 41 [.int .i64 0, .int .u32 0, .int .i32 0, .int .i32 0, .int .i32 0, .int .i32 0, .int .i32 0, .int .i32 0, .int .i32 0, .int .i32 0, .int .i32 0, .int .u32 0, .int .i32 0, .int .i32 0, .slice none 0 0] [(0, 1), (1, 10), (11, 1), (12, 2), (14, 1)] := eT Tryz.underlying41 (by kernel_rfl) (by kernel_rfl) (by kernel_rfl)
theorem bQi : aT Tryz.prog 39 = true := by kernel_rfl
theorem bDm : aT Tryz.prog 18 = true := by kernel_rfl
theorem bIx : aT Tryz.prog 36 = true := by kernel_rfl
theorem bIl : aT Tryz.prog 32 = true := by kernel_rfl
theorem bPa : aT Tryz.prog 17 = true := by kernel_rfl
theorem bJf : aT Tryz.prog 34 = true := by kernel_rfl
theorem bQv : aT Tryz.prog 35 = true := by kernel_rfl
theorem bJr : aT Tryz.prog 37 = true := by kernel_rfl
end Go.Proofs.YtaoaknafiegfoaaGreatDoor

namespace Go.Proofs.YtaoaknafiegfoaaGreatDoor
open Go.Bil
open Go.RowKit (Below)
open Go.Proofs
set_option maxHeartbeats 4000000 in
theorem qV (w : World) (n l : Int) (h0 : 0 ≤ l) (h1 : l ≤ 2147483647) :
  Calls Tryz.prog 62 #[.int .i32 n, .int .i32 l] w (fun ex w' => ∃ v, ex = .returned v ∧ (fun v w' => v = .bool (decide (wF n l)) ∧ Below w.heap.size w w') v w') := by
 have hneg : IntKind.i32.wrap (-l) = -l := iY _ (by omega) (by omega)
 refine aH #[.tmp 4] 14 Tryz.func62 rfl Tryz.results62 Tryz.ntmps62 rfl ?_
 have M0 := Mem.refl w
 refine aE (aA (wq (aJ (.bool false) rfl) rfl (aB (aC (aE (aA (aP rfl rfl (aP rfl rfl (wq (qH rfl) rfl ?_)))))))))
 refine aK 7 (.int .i32 (-l)) (iE hneg) (cY rfl rfl rfl rfl (wq (aI (.bool (decide _)) rfl) rfl ?_))
 refine dN 9 rfl (fun g9 => ?_) (fun g9 => ?_)
 ·refine aP rfl rfl (aP rfl rfl (cY rfl rfl rfl rfl (wq (bR true (.bool (decide _)) rfl rfl) rfl (wq (aJ (.bool (decide _)) rfl) rfl (aB (aC (aO ?_)))))))
  refine cD (.bool (decide _)) rfl ?_
  exact ⟨by unfold wF; first | exact bF (by omega) | exact bD (by omega), M0.below⟩
 ·refine aN rfl rfl (aN rfl rfl (aN rfl rfl (wq (bR false (.bool false) rfl rfl) rfl (wq (aJ (.bool false) rfl) rfl (aB (aC (aO ?_)))))))
  refine cD (.bool false) rfl ?_
  exact ⟨by unfold wF; first | exact bF (by omega) | exact bD (by omega), M0.below⟩
set_option maxHeartbeats 4000000 in
theorem aAt (w : World) (b : Body) :
  Calls Tryz.prog 27 #[(.agg (aF b).toArray)] w (fun ex w' => ∃ v, ex = .returned v ∧ (fun v w' => v = .int .i64 (check b) ∧ Below w.heap.size w w') v w') := by
 refine aH #[.tmp 2] 63 Tryz.func27 rfl Tryz.results27 Tryz.ntmps27 rfl ?_
 have M0 := Mem.refl w
 refine aE (aA (bJ (.agg (List.toArray _)) M0 rfl rfl rfl (fun b1 w1 M1 => (bH rfl rfl (aB (aC (aE (aE (aA (wq (aD 1 lH rfl) rfl (wq (aM 0 (.int _ _) aS M1 rfl rfl rfl) rfl ?_)))))))))))
 refine cY rfl rfl rfl rfl (wq (aI (.bool (decide _)) rfl) rfl ?_)
 refine dN 6 rfl (fun g6 => ?_) (fun g6 => ?_)
 ·refine aN rfl rfl (aN rfl rfl (aN rfl rfl (wq (bR true (.bool true) rfl rfl) rfl (aB (aC (cF rfl ?_))))))
  refine aE (aA (bH rfl rfl (aB (aC (aO (cM (cD (.int _ _) rfl ?_)))))))
  exact ⟨iE (by unfold check; unfold wF at *; (repeat' split) <;> omega), M1.below⟩
 ·refine wq (aD 1 lH rfl) rfl (wq (aM 0 (.int _ _) aS M1 rfl rfl rfl) rfl (cY rfl rfl rfl rfl (wq (bR false (.bool (decide _)) rfl rfl) rfl (aB (aC ?_)))))
  refine aV rfl (fun h10 => ?_) (fun h10 => ?_)
  ·refine aE (aA (bH rfl rfl (aB (aC (aO (cM (cD (.int _ _) rfl ?_)))))))
   exact ⟨iE (by unfold check; unfold wF at *; (repeat' split) <;> omega), M1.below⟩
  ·refine aL (aC (aE (aE (aA (wq (aD 2 iS rfl) rfl (wq (aD 0 cT rfl) rfl (wq (aM 0 (.int _ _) aS M1 rfl rfl rfl) rfl (bY aIl rfl rfl (qV _ _ _ (by omega) (by omega)) ?_))))))))
   rintro v2 w2 ⟨rfl, hb2⟩
   have M2 := M1.callB hb2
   refine wq (oJ rfl) rfl (wq (aI (.bool (decide _)) rfl) rfl ?_)
   refine dN 16 rfl (fun g16 => ?_) (fun g16 => ?_)
   ·refine aN rfl rfl (aN rfl rfl (aN rfl rfl (aN rfl rfl (aN rfl rfl (wq (bR true (.bool true) rfl rfl) rfl ?_)))))
    refine aB (aC (cF rfl (aE (aA (bH rfl rfl (aB (aC (aO (cM (cD (.int _ _) rfl ?_))))))))))
    exact ⟨iE (by unfold check; unfold wF at *; (repeat' split) <;> omega), M2.below⟩
   ·refine wq (aD 2 iS rfl) rfl (wq (aD 1 cO rfl) rfl (wq (aM 0 (.int _ _) aS M2 rfl rfl rfl) rfl (bY aIl rfl rfl (qV _ _ _ (by omega) (by omega)) ?_)))
    rintro v3 w3 ⟨rfl, hb3⟩
    have M3 := M2.callB hb3
    refine wq (oJ rfl) rfl (wq (bR false (.bool (decide _)) rfl rfl) rfl (aB (aC ?_)))
    refine aV rfl (fun h22 => ?_) (fun h22 => ?_)
    ·refine aE (aA (bH rfl rfl (aB (aC (aO (cM (cD (.int _ _) rfl ?_)))))))
     exact ⟨iE (by unfold check; unfold wF at *; (repeat' split) <;> omega), M3.below⟩
    ·refine aL (aC (aE (aE (aA (wq (aD 4 eF rfl) rfl (wq (aM 0 (.int _ _) aS M3 rfl rfl rfl) rfl (cY rfl rfl rfl rfl (wq (aI (.bool (decide _)) rfl) rfl ?_))))))))
     refine dN 26 rfl (fun g26 => ?_) (fun g26 => ?_)
     ·refine aN rfl rfl (aN rfl rfl (aN rfl rfl (wq (bR true (.bool true) rfl rfl) rfl (aB (aC (cF rfl ?_))))))
      refine aE (aA (bH rfl rfl (aB (aC (aO (cM (cD (.int _ _) rfl ?_)))))))
      exact ⟨iE (by unfold check; unfold wF at *; (repeat' split) <;> omega), M3.below⟩
     ·refine wq (aD 4 eF rfl) rfl (wq (aM 0 (.int _ _) aS M3 rfl rfl rfl) rfl (cY rfl rfl rfl rfl (wq (bR false (.bool (decide _)) rfl rfl) rfl (aB (aC ?_)))))
      refine aV rfl (fun h30 => ?_) (fun h30 => ?_)
      ·refine aE (aA (bH rfl rfl (aB (aC (aO (cM (cD (.int _ _) rfl ?_)))))))
       exact ⟨iE (by unfold check; unfold wF at *; (repeat' split) <;> omega), M3.below⟩
      ·refine aL (aC (aE (aE (aA (wq (aD 5 nA rfl) rfl (wq (aM 0 (.int _ _) aS M3 rfl rfl rfl) rfl (cY rfl rfl rfl rfl (wq (aI (.bool (decide _)) rfl) rfl ?_))))))))
       refine dN 34 rfl (fun g34 => ?_) (fun g34 => ?_)
       ·refine aN rfl rfl (aN rfl rfl (aN rfl rfl (wq (bR true (.bool true) rfl rfl) rfl (aB (aC (cF rfl ?_))))))
        refine aE (aA (bH rfl rfl (aB (aC (aO (cM (cD (.int _ _) rfl ?_)))))))
        exact ⟨iE (by unfold check; unfold wF at *; (repeat' split) <;> omega), M3.below⟩
       ·refine wq (aD 5 nA rfl) rfl (wq (aM 0 (.int _ _) aS M3 rfl rfl rfl) rfl (cY rfl rfl rfl rfl (wq (bR false (.bool (decide _)) rfl rfl) rfl (aB (aC ?_)))))
        refine aV rfl (fun h38 => ?_) (fun h38 => ?_)
        ·refine aE (aA (bH rfl rfl (aB (aC (aO (cM (cD (.int _ _) rfl ?_)))))))
         exact ⟨iE (by unfold check; unfold wF at *; (repeat' split) <;> omega), M3.below⟩
        ·refine aL (aC (aE (aE (aA (wq (aD 6 fK rfl) rfl (wq (aD 0 cT rfl) rfl (wq (aM 0 (.int _ _) aS M3 rfl rfl rfl) rfl (bY aIl rfl rfl (qV _ _ _ (by omega) (by omega)) ?_))))))))
         rintro v4 w4 ⟨rfl, hb4⟩
         have M4 := M3.callB hb4
         refine wq (oJ rfl) rfl (wq (aI (.bool (decide _)) rfl) rfl ?_)
         refine dN 44 rfl (fun g44 => ?_) (fun g44 => ?_)
         ·refine aN rfl rfl (aN rfl rfl (aN rfl rfl (aN rfl rfl (aN rfl rfl (wq (bR true (.bool true) rfl rfl) rfl ?_)))))
          refine aB (aC (cF rfl (aE (aA (bH rfl rfl (aB (aC (aO (cM (cD (.int _ _) rfl ?_))))))))))
          exact ⟨iE (by unfold check; unfold wF at *; (repeat' split) <;> omega), M4.below⟩
         ·refine wq (aD 6 fK rfl) rfl (wq (aD 1 cO rfl) rfl (wq (aM 0 (.int _ _) aS M4 rfl rfl rfl) rfl (bY aIl rfl rfl (qV _ _ _ (by omega) (by omega)) ?_)))
          rintro v5 w5 ⟨rfl, hb5⟩
          have M5 := M4.callB hb5
          refine wq (oJ rfl) rfl (wq (bR false (.bool (decide _)) rfl rfl) rfl (aB (aC ?_)))
          refine aV rfl (fun h50 => ?_) (fun h50 => ?_)
          ·refine aE (aA (bH rfl rfl (aB (aC (aO (cM (cD (.int _ _) rfl ?_)))))))
           exact ⟨iE (by unfold check; unfold wF at *; (repeat' split) <;> omega), M5.below⟩
          ·refine aL (aC (aE (aE (aA (wq (aD 8 dV rfl) rfl (wq (aD 0 cT rfl) rfl (wq (aM 0 (.int _ _) aS M5 rfl rfl rfl) rfl (bY aIl rfl rfl (qV _ _ _ (by omega) (by omega)) ?_))))))))
           rintro v6 w6 ⟨rfl, hb6⟩
           have M6 := M5.callB hb6
           refine wq (oJ rfl) rfl (wq (aI (.bool (decide _)) rfl) rfl ?_)
           refine dN 56 rfl (fun g56 => ?_) (fun g56 => ?_)
           ·refine aN rfl rfl (aN rfl rfl (aN rfl rfl (aN rfl rfl (aN rfl rfl (wq (bR true (.bool true) rfl rfl) rfl ?_)))))
            refine aB (aC (cF rfl (aE (aA (bH rfl rfl (aB (aC (aO (cM (cD (.int _ _) rfl ?_))))))))))
            exact ⟨iE (by unfold check; unfold wF at *; (repeat' split) <;> omega), M6.below⟩
           ·refine wq (aD 8 dV rfl) rfl (wq (aD 1 cO rfl) rfl (wq (aM 0 (.int _ _) aS M6 rfl rfl rfl) rfl (bY aIl rfl rfl (qV _ _ _ (by omega) (by omega)) ?_)))
            rintro v7 w7 ⟨rfl, hb7⟩
            have M7 := M6.callB hb7
            refine wq (oJ rfl) rfl (wq (bR false (.bool (decide _)) rfl rfl) rfl (aB (aC ?_)))
            refine aV rfl (fun h62 => ?_) (fun h62 => ?_)
            ·refine aE (aA (bH rfl rfl (aB (aC (aO (cM (cD (.int _ _) rfl ?_)))))))
             exact ⟨iE (by unfold check; unfold wF at *; (repeat' split) <;> omega), M7.below⟩
            ·refine aL (aC (aE (aA (bH rfl rfl (aB (aC (aO (cD (.int _ _) rfl ?_))))))))
             exact ⟨iE (by unfold check; unfold wF at *; (repeat' split) <;> omega), M7.below⟩
theorem bOp (a b : Body) : EqA Tryz.prog 39 (aF a) (aF b) (decide (a = b)) := by
 have h := bRd a.key a.radius a.ax a.ay a.mass a.bounce a.px a.py a.vx a.vy b.key b.radius b.ax b.ay b.mass b.bounce b.px b.py b.vx b.vy
 rw [decide_eq_decide.2 (bAn (a := a) (b := b))]
 exact h
set_option maxHeartbeats 4000000 in
theorem gS (w : World) (key : Int) (A : Option Addr) (n c : Nat) (xs : List Body) (R : Rd w 10 A n (xs.map aF)) :
  Calls Tryz.prog 99 #[.slice A n c, .int .u32 key] w (fun ex w' => ∃ v, ex = .returned v ∧ (fun v w' => v = .int .i64 (dJ key xs) ∧ Below w.heap.size w w') v w') := by
 have hlen : xs.length = n := by simpa using R.len
 have hbd := R.bound
 refine aH #[.tmp 4] 20 Tryz.func99 rfl Tryz.results99 Tryz.ntmps99 rfl ?_
 have M0 := Mem.refl w
 refine aE (aA (bH rfl rfl (aB (aC (aE (aE (aA (bH rfl rfl (aB (aC (aQ (dQ (σ := Nat) [0, 1] (fun k => [(5, .int .i64 (k : Int))]) (fun k w' => (k ≤ n ∧ ∀ (j : Nat) (c : Body), j < k → xs[j]? = some c → c.key ≠ key) ∧ Mem w [] [] w') (fun k => n - k) 0 (bA rfl dY) (⟨⟨by omega, fun j c hj => by omega⟩, M0⟩) ?_))))))))))))
 rintro k ρ1 w1 ⟨⟨hk, hne⟩, hM1⟩
 refine aE (aE (aA (aP rfl rfl (dI rfl rfl (wq (cZ Tryz.underlying29 rfl) rfl (cY rfl rfl rfl rfl (aB (aC ?_))))))))
 refine aV rfl (fun h9 => ?_) (fun h9 => ?_)
 ·obtain ⟨xb, hxb⟩ := cS (k := k) hlen (by omega)
  refine aL (aC (aE (aQ (aE (aA (dI rfl rfl (aP rfl rfl (wq (bP (k) dH rfl rfl rfl ((R.mem hM1).below_len (aG aF hxb)) ((R.mem hM1).someK (aG aF hxb))) rfl (wq (bG 0 dM (R.mem hM1) (Nat.lt_of_le_of_lt (Nat.zero_le _) ((R.mem hM1).below_len (aG aF hxb))) rfl) rfl ?_)))))))))
  refine wq (dX (o := 0) (.int _ _) bW (R.mem hM1) (aG aF hxb) rfl rfl) rfl (aP rfl rfl (cY rfl rfl rfl rfl (aB (aC ?_))))
  refine aV rfl (fun h18 => ?_) (fun h18 => ?_)
  ·refine aE (aA (aP rfl rfl (bH rfl rfl (aB (aC (aO (kR (cM ?_))))))))
   refine rB (kR (cM (cD (.int _ _) rfl ?_)))
   exact ⟨iE (xE hxb h18 hne).symm, hM1.below⟩
  ·refine aL (cU (aC (aA (aP rfl rfl (wq (aY rfl rfl (by omega) (by omega)) rfl (bH rfl rfl ?_))))))
   refine aB ?_
   refine cE (k + 1) (bA rfl dY) (cN rfl (cN rfl gT)) ?_ ?_
   ·exact ⟨⟨by omega, pF hne hxb h18⟩, hM1⟩
   ·omega
 ·refine cV (dC (dK (eN (aC (aE (aA (bH rfl rfl ?_)))))))
  refine aB (aC (aO (cD (.int _ _) rfl ?_)))
  have hkn : k = n := by omega
  exact ⟨iE (aHu (fun j b hj => hne j b (by have := (List.getElem?_eq_some_iff.1 hj).1; omega) hj)).symm, hM1.below⟩
set_option maxHeartbeats 4000000 in
theorem aEc (w : World) (A : Option Addr) (n c : Nat) (xs : List Body) (R : Rd w 10 A n (xs.map aF)) (B : Option Addr) (m c' : Nat) (ys : List Body) (R' : Rd w 10 B m (ys.map aF)) :
  Calls Tryz.prog 37 #[.slice A n c, .slice B m c'] w (fun ex w' => ∃ v, ex = .returned v ∧ (fun v w' => v = .bool (decide (xs = ys)) ∧ Below w.heap.size w w') v w') := by
 have hlen : xs.length = n := by simpa using R.len
 have hbd := R.bound
 have hlen' : ys.length = m := by simpa using R'.len
 have hbd' := R'.bound
 refine aH #[.tmp 4] 26 Tryz.func37 rfl Tryz.results37 Tryz.ntmps37 rfl ?_
 have M0 := Mem.refl w
 refine aE (aA (wq (aJ (.bool false) rfl) rfl (aB (aC (aE (aE (aA (dI rfl rfl (wq (cZ Tryz.underlying29 rfl) rfl (dI rfl rfl ?_))))))))))
 refine wq (cZ Tryz.underlying29 rfl) rfl (cY rfl rfl rfl rfl (aB (aC ?_)))
 refine aV rfl (fun h10 => ?_) (fun h10 => ?_)
 ·refine aE (aA (wq (aJ (.bool false) rfl) rfl (aB (aC (aO (cM (cD (.bool false) rfl ?_)))))))
  exact ⟨bF (fun e => h10 (by rw [← hlen, ← hlen', e])), M0.below⟩
 ·have hnm : n = m := by omega
  refine aL (aC (aE (aE (aA (bH rfl rfl (aB (aC (aQ (dQ (σ := Nat) [0, 1] (fun k => [(5, .int .i64 (k : Int))]) (fun k w' => (k ≤ n ∧ ∀ (j : Nat) (x : Body), j < k → xs[j]? = some x → ys[j]? = some x) ∧ Mem w [] [] w') (fun k => n - k) 0 (bA rfl dY) (⟨⟨by omega, fun j c hj => by omega⟩, M0⟩) ?_)))))))))
  rintro k ρ1 w1 ⟨⟨hk, hne⟩, hM1⟩
  refine aE (aE (aA (aP rfl rfl (dI rfl rfl (wq (cZ Tryz.underlying29 rfl) rfl (cY rfl rfl rfl rfl (aB (aC ?_))))))))
  refine aV rfl (fun h14 => ?_) (fun h14 => ?_)
  ·obtain ⟨xb, hxb⟩ := cS (k := k) hlen (by omega)
   obtain ⟨yb, hyb⟩ := cS (k := k) hlen' (by omega)
   refine aL (aC (aE (aQ (aE (bQ [(0, 0), (1, 0), (2, 1), (3, 1), (4, 0), (5, 0), (6, 1), (7, 1), (8, 0)] mixed rfl (by kernel_rfl) (fun w2 hb2 hh2 => ?_))))))
   have M2 := hM1.drew hb2 hh2
   refine kV rfl rfl rfl (eD rfl rfl rfl (bS rfl rfl rfl (bP (k) dH rfl rfl rfl ((R.mem M2).below_len (aG aF hxb)) ((R.mem M2).someK (aG aF hxb))) (bS rfl rfl rfl (dL _ bO (R.mem M2) (aG aF hxb) rfl) (kV rfl rfl rfl (eD rfl rfl rfl ?_)))))
   refine bS rfl rfl rfl (bP (k) dH rfl rfl rfl ((R'.mem M2).below_len (aG aF hyb)) ((R'.mem M2).someK (aG aF hyb))) (bS rfl rfl rfl (dL _ bO (R'.mem M2) (aG aF hyb) rfl) (aW rfl rfl rfl (fun _ => bPk (bOp xb yb) rfl rfl) (bX (aC ?_))))
   refine aV rfl (fun h25 => ?_) (fun h25 => ?_)
   ·refine aE (aA (wq (aJ (.bool false) rfl) rfl (aB (aC (aO (kR (cM (rB ?_))))))))
    refine kR (cM (cD (.bool false) rfl ?_))
    exact ⟨bF (fun e => h25 (by rw [e] at hxb; rw [hxb] at hyb; injection hyb)), M2.below⟩
   ·refine aL (cU (aC (aA (aP rfl rfl (wq (aY rfl rfl (by omega) (by omega)) rfl (bH rfl rfl ?_))))))
    refine aB ?_
    refine cE (k + 1) (bA rfl dY) (cN rfl (cN rfl gT)) ?_ ?_
    ·exact ⟨⟨by omega, pF (p := fun j x => ys[j]? = some x) hne hxb (by rw [hyb, Decidable.not_not.1 h25])⟩, M2⟩
    ·omega
  ·refine cV (dC (dK (eN (aC (aE (aA (wq (aJ (.bool true) rfl) rfl ?_)))))))
   refine aB (aC (aO (cD (.bool true) rfl ?_)))
   exact ⟨bT (List.ext_getElem? fun j => by
   by_cases hj : j < xs.length
   ·obtain ⟨x, hx⟩ := cS (k := j) rfl hj
    rw [hx, hne j x (by omega) hx]
   ·rw [List.getElem?_eq_none (by omega), List.getElem?_eq_none (by omega)]), hM1.below⟩
set_option maxHeartbeats 4000000 in
theorem uO (w : World) (b : Body) (gone : Bool) (A : Option Addr) (n c : Nat) (xs : List Body) (R : Rd w 10 A n (xs.map aF)) (hn : n ≤ 1048576) :
  Calls Tryz.prog 126 #[.slice A n c, (.agg (aF b).toArray), .bool gone] w (fun ex w' => ∃ v, ex = .returned v ∧ (fun v w' => ∃ A' n' c' e, v = .slice A' n' c' ∧ bC 39 10 A' n' c' ((wI xs b gone).map aF) e ∧ Mem w [] [e] w') v w') := by
 have hlen : xs.length = n := by simpa using R.len
 have hbd := R.bound
 refine aH #[.tmp 6] 55 Tryz.func126 rfl Tryz.results126 Tryz.ntmps126 rfl ?_
 have M0 := Mem.refl w
 refine aE (aA (bJ (.agg (List.toArray _)) M0 rfl rfl rfl (fun b1 w1 M1 => (eJ rfl rfl (aB (aC (aE (aA (eJ rfl rfl ?_)))))))))
 have M2 := M1.dummy default
 refine aB (aC (aE (aA (wq (aI (.bool _) rfl) rfl (wq (aJ (.bool _) rfl) rfl (aB (aC (aE (aE (aA (bH rfl rfl (aB (aC (aQ ?_))))))))))))))
 refine dQ (σ := Nat × List Body × Bool × Row) [0, 4, 6] (fun (k, acc, done, r) => [(7, .slice r.A r.n r.c), (8, .bool done), (9, .int .i64 (k : Int))]) (fun (k, acc, done, r) w' => (k ≤ n ∧ jJ b gone (xs.take k) = (acc, done) ∧ bC 39 10 r.A r.n r.c (acc.map aF) r.e) ∧ Mem w [] [(some b1, bc (aF b) 39), r.e] w') (fun (k, acc, done, r) => n - k) (0, [], gone, ⟨none, 0, 0, (none, default)⟩) (bA rfl (bA rfl (bA rfl dY))) (⟨⟨by omega, rfl, bC.nil _ _ _⟩, M2⟩) ?_
 rintro ⟨k, acc, done, r⟩ ρ3 w3 ⟨⟨hk, heq, hr⟩, hM3⟩
 have hra : acc.length = r.n := by simpa using hr.1
 have hrl : acc.length ≤ k + 1 := by have h := aPm b gone xs k; rw [heq] at h; exact h
 refine aE (aE (aA (aP rfl rfl (dI rfl rfl (wq (cZ Tryz.underlying29 rfl) rfl (cY rfl rfl rfl rfl (aB (aC ?_))))))))
 refine aV rfl (fun h14 => ?_) (fun h14 => ?_)
 ·obtain ⟨xb, hxb⟩ := cS (k := k) hlen (by omega)
  refine aL (aC (aE (aQ (aE (aE (bQ [(0, 0), (1, 0), (2, 0), (3, 0), (4, 0), (5, 1), (6, 1), (7, 1), (8, 0), (9, 1), (10, 0), (11, 0)] mixed rfl (by kernel_rfl) (fun w4 hb4 hh4 => ?_)))))))
  have M4 := hM3.drew hb4 hh4
  refine aW rfl rfl rfl (fun _ => aI (.bool _) rfl) (aW rfl rfl rfl (fun _ => gU _ rfl rfl) (aW rfl rfl rfl (fun _ => aI (.bool _) rfl) ?_))
  refine aUk 19 _ rfl (fun g19 => ?_) (fun g19 => ?_)
  ·have hd : done = false := by simpa using g19
   refine kV rfl rfl rfl (eD rfl rfl rfl (bS rfl rfl rfl (bP (k) dH rfl rfl rfl ((R.mem M4).below_len (aG aF hxb)) ((R.mem M4).someK (aG aF hxb))) (bS rfl rfl rfl (bG 0 dM (R.mem M4) (Nat.lt_of_le_of_lt (Nat.zero_le _) ((R.mem M4).below_len (aG aF hxb))) rfl) ?_)))
   refine bS rfl rfl rfl (dX (o := 0) (.int _ _) bW (R.mem M4) (aG aF hxb) rfl rfl) (aW rfl rfl rfl (fun _ => aD 0 dM rfl) (bS rfl rfl rfl (aM 0 (.int _ _) bW M4 rfl rfl rfl) (aW rfl rfl rfl (fun _ => cB (.bool (decide _)) rfl rfl rfl) (aW rfl rfl rfl (fun _ => bR true (.bool (decide _)) rfl rfl) ?_))))
   refine bX (aC ?_)
   refine aV rfl (fun h28 => ?_) (fun h28 => ?_)
   ·refine aE (aA (wq (aJ (.bool true) rfl) rfl (aB (aC (aA (dI rfl rfl (wq (aX 0 bO M4 rfl rfl rfl) rfl (cR [.agg (List.toArray _)] _ rfl dH M4 rfl rfl rfl rfl (dD rfl) (by decide) (fun b5 w5 M5 => ?_)))))))))
    refine dG 1 [aF b] dH M5 rfl rfl rfl rfl rfl hr rfl (by simpa using ⟨iB b, iA b⟩) (dS.ofMem 2 M5 rfl) (by omega) (fun A6 c6 e6 w6 M6 hR6 => (eJ rfl rfl (aB (aC (aE (bQ [(0, 0), (1, 0), (2, 1), (3, 1), (4, 1), (5, 0), (6, 1), (7, 0)] mixed rfl (by kernel_rfl) (fun w7 hb7 hh7 => ?_)))))))
    have M7 := M6.drew hb7 hh7
    refine kV rfl rfl rfl (eD rfl rfl rfl (bS rfl rfl rfl (bP (k) dH rfl rfl rfl ((R.mem M7).below_len (aG aF hxb)) ((R.mem M7).someK (aG aF hxb))) (bS rfl rfl rfl (bG 0 dM (R.mem M7) (Nat.lt_of_le_of_lt (Nat.zero_le _) ((R.mem M7).below_len (aG aF hxb))) rfl) ?_)))
    refine bS rfl rfl rfl (dX (o := 0) (.int _ _) bW (R.mem M7) (aG aF hxb) rfl rfl) (aW rfl rfl rfl (fun _ => aD 0 dM rfl) (bS rfl rfl rfl (aM 0 (.int _ _) bW M7 rfl rfl rfl) (aW rfl rfl rfl (fun _ => cB (.bool (decide _)) rfl rfl rfl) (bX (aC ?_)))))
    refine aV rfl (fun h40 => ?_) (fun h40 => ?_)
    ·refine aA (dI rfl rfl (dI rfl rfl (aP rfl rfl (wq (bP (k) dH rfl rfl rfl ((R.mem M7).below_len (aG aF hxb)) ((R.mem M7).someK (aG aF hxb))) rfl (wq (dL _ bO (R.mem M7) (aG aF hxb) rfl) rfl ?_)))))
     refine cR [.agg (List.toArray _)] _ rfl dH M7 rfl rfl rfl rfl (dD rfl) (by decide) (fun b8 w8 M8 => (dG 1 [aF xb] dH M8 rfl rfl rfl rfl rfl hR6 rfl (by simpa using ⟨iB xb, iA xb⟩) (dS.ofMem 3 M8 rfl) (by omega) (fun A9 c9 e9 w9 M9 hR9 => (eJ rfl rfl (aB ?_)))))
     refine cU (aC (aA (aP rfl rfl (wq (aY rfl rfl (by omega) (by omega)) rfl (bH rfl rfl (aB ?_))))))
     refine cE (k + 1, (jJ b gone (xs.take (k + 1))).1, (jJ b gone (xs.take (k + 1))).2, ⟨A9, r.n + 1 + 1, c9, e9⟩) (bA rfl (bA (bv rfl (by rw [fZ b gone hxb, heq]; simp [fQ, *])) (bA rfl dY))) (cN rfl (cN rfl (cN rfl gT))) ?_ ?_
     ·exact ⟨⟨by omega, rfl, by rw [fZ b gone hxb, heq]; simpa [fQ, *] using hR9⟩, M9.keep [true, true, false, false]⟩
     ·(show n - (k + 1) < n - k; omega)
    ·refine aL (cU (aC (aA (aP rfl rfl (wq (aY rfl rfl (by omega) (by omega)) rfl (bH rfl rfl ?_))))))
     refine aB ?_
     refine cE (k + 1, (jJ b gone (xs.take (k + 1))).1, (jJ b gone (xs.take (k + 1))).2, ⟨A6, r.n + 1, c6, e6⟩) (bA rfl (bA (bv rfl (by rw [fZ b gone hxb, heq]; simp [fQ, *])) (bA rfl dY))) (cN rfl (cN rfl (cN rfl gT))) ?_ ?_
     ·exact ⟨⟨by omega, rfl, by rw [fZ b gone hxb, heq]; simpa [fQ, *] using hR6⟩, M7.keep [true, true, false]⟩
     ·(show n - (k + 1) < n - k; omega)
   ·refine aL (aC (aE (bQ [(0, 0), (1, 0), (2, 1), (3, 1), (4, 1), (5, 0), (6, 1), (7, 0)] mixed rfl (by kernel_rfl) (fun w10 hb10 hh10 => ?_))))
    have M10 := M4.drew hb10 hh10
    refine kV rfl rfl rfl (eD rfl rfl rfl (bS rfl rfl rfl (bP (k) dH rfl rfl rfl ((R.mem M10).below_len (aG aF hxb)) ((R.mem M10).someK (aG aF hxb))) (bS rfl rfl rfl (bG 0 dM (R.mem M10) (Nat.lt_of_le_of_lt (Nat.zero_le _) ((R.mem M10).below_len (aG aF hxb))) rfl) ?_)))
    refine bS rfl rfl rfl (dX (o := 0) (.int _ _) bW (R.mem M10) (aG aF hxb) rfl rfl) (aW rfl rfl rfl (fun _ => aD 0 dM rfl) (bS rfl rfl rfl (aM 0 (.int _ _) bW M10 rfl rfl rfl) (aW rfl rfl rfl (fun _ => cB (.bool (decide _)) rfl rfl rfl) (bX (aC ?_)))))
    refine aV rfl (fun h40 => ?_) (fun h40 => ?_)
    ·refine aA (dI rfl rfl (dI rfl rfl (aP rfl rfl (wq (bP (k) dH rfl rfl rfl ((R.mem M10).below_len (aG aF hxb)) ((R.mem M10).someK (aG aF hxb))) rfl (wq (dL _ bO (R.mem M10) (aG aF hxb) rfl) rfl ?_)))))
     refine cR [.agg (List.toArray _)] _ rfl dH M10 rfl rfl rfl rfl (dD rfl) (by decide) (fun b11 w11 M11 => (dG 1 [aF xb] dH M11 rfl rfl rfl rfl rfl hr rfl (by simpa using ⟨iB xb, iA xb⟩) (dS.ofMem 2 M11 rfl) (by omega) (fun A12 c12 e12 w12 M12 hR12 => (eJ rfl rfl ?_))))
     refine aB (cU (aC (aA (aP rfl rfl (wq (aY rfl rfl (by omega) (by omega)) rfl (bH rfl rfl ?_))))))
     refine aB ?_
     refine cE (k + 1, (jJ b gone (xs.take (k + 1))).1, (jJ b gone (xs.take (k + 1))).2, ⟨A12, r.n + 1, c12, e12⟩) (bA rfl (bA (bv rfl (by rw [fZ b gone hxb, heq]; simp [fQ, *])) (bA rfl dY))) (cN rfl (cN rfl (cN rfl gT))) ?_ ?_
     ·exact ⟨⟨by omega, rfl, by rw [fZ b gone hxb, heq]; simpa [fQ, *] using hR12⟩, M12.keep [true, true, false]⟩
     ·(show n - (k + 1) < n - k; omega)
    ·refine aL (cU (aC (aA (aP rfl rfl (wq (aY rfl rfl (by omega) (by omega)) rfl (bH rfl rfl ?_))))))
     refine aB ?_
     refine cE (k + 1, (jJ b gone (xs.take (k + 1))).1, (jJ b gone (xs.take (k + 1))).2, r) (bA rfl (bA (bv rfl (by rw [fZ b gone hxb, heq]; simp [fQ, *])) (bA rfl dY))) (cN rfl (cN rfl (cN rfl gT))) ?_ ?_
     ·exact ⟨⟨by omega, rfl, by rw [fZ b gone hxb, heq]; simpa [fQ, *] using hr⟩, M10.keep [true, true]⟩
     ·(show n - (k + 1) < n - k; omega)
  ·have hd : done = true := by simpa using g19
   refine D_s rfl rfl rfl (D_s rfl rfl rfl (zE rfl rfl rfl (zE rfl rfl rfl (zE rfl rfl rfl (D_s rfl rfl rfl ?_)))))
   refine zE rfl rfl rfl (D_s rfl rfl rfl (aW rfl rfl rfl (fun _ => bR false (.bool false) rfl rfl) (bX (aC (cJ rfl ?_)))))
   refine aL (aC (aE (bQ [(0, 0), (1, 0), (2, 1), (3, 1), (4, 1), (5, 0), (6, 1), (7, 0)] mixed rfl (by kernel_rfl) (fun w13 hb13 hh13 => ?_))))
   have M13 := M4.drew hb13 hh13
   refine kV rfl rfl rfl (eD rfl rfl rfl (bS rfl rfl rfl (bP (k) dH rfl rfl rfl ((R.mem M13).below_len (aG aF hxb)) ((R.mem M13).someK (aG aF hxb))) (bS rfl rfl rfl (bG 0 dM (R.mem M13) (Nat.lt_of_le_of_lt (Nat.zero_le _) ((R.mem M13).below_len (aG aF hxb))) rfl) ?_)))
   refine bS rfl rfl rfl (dX (o := 0) (.int _ _) bW (R.mem M13) (aG aF hxb) rfl rfl) (aW rfl rfl rfl (fun _ => aD 0 dM rfl) (bS rfl rfl rfl (aM 0 (.int _ _) bW M13 rfl rfl rfl) (aW rfl rfl rfl (fun _ => cB (.bool (decide _)) rfl rfl rfl) (bX (aC ?_)))))
   refine aV rfl (fun h40 => ?_) (fun h40 => ?_)
   ·refine aA (dI rfl rfl (dI rfl rfl (aP rfl rfl (wq (bP (k) dH rfl rfl rfl ((R.mem M13).below_len (aG aF hxb)) ((R.mem M13).someK (aG aF hxb))) rfl (wq (dL _ bO (R.mem M13) (aG aF hxb) rfl) rfl ?_)))))
    refine cR [.agg (List.toArray _)] _ rfl dH M13 rfl rfl rfl rfl (dD rfl) (by decide) (fun b14 w14 M14 => (dG 1 [aF xb] dH M14 rfl rfl rfl rfl rfl hr rfl (by simpa using ⟨iB xb, iA xb⟩) (dS.ofMem 2 M14 rfl) (by omega) (fun A15 c15 e15 w15 M15 hR15 => (eJ rfl rfl ?_))))
    refine aB (cU (aC (aA (aP rfl rfl (wq (aY rfl rfl (by omega) (by omega)) rfl (bH rfl rfl ?_))))))
    refine aB ?_
    refine cE (k + 1, (jJ b gone (xs.take (k + 1))).1, (jJ b gone (xs.take (k + 1))).2, ⟨A15, r.n + 1, c15, e15⟩) (bA rfl (bA (bv rfl (by rw [fZ b gone hxb, heq]; simp [fQ, *])) (bA rfl dY))) (cN rfl (cN rfl (cN rfl gT))) ?_ ?_
    ·exact ⟨⟨by omega, rfl, by rw [fZ b gone hxb, heq]; simpa [fQ, *] using hR15⟩, M15.keep [true, true, false]⟩
    ·(show n - (k + 1) < n - k; omega)
   ·refine aL (cU (aC (aA (aP rfl rfl (wq (aY rfl rfl (by omega) (by omega)) rfl (bH rfl rfl ?_))))))
    refine aB ?_
    refine cE (k + 1, (jJ b gone (xs.take (k + 1))).1, (jJ b gone (xs.take (k + 1))).2, r) (bA rfl (bA (bv rfl (by rw [fZ b gone hxb, heq]; simp [fQ, *])) (bA rfl dY))) (cN rfl (cN rfl (cN rfl gT))) ?_ ?_
    ·exact ⟨⟨by omega, rfl, by rw [fZ b gone hxb, heq]; simpa [fQ, *] using hr⟩, M13.keep [true, true]⟩
    ·(show n - (k + 1) < n - k; omega)
 ·have hkn : k = n := by omega
  subst hkn
  rw [List.take_of_length_le (by omega)] at heq
  refine cV (dC (dK (eN (aC (aE (aE (aA (wq (aI (.bool _) rfl) rfl ?_))))))))
  refine wq (gU _ rfl rfl) rfl (aB (aC ?_))
  refine iD _ rfl (fun h49 => ?_) (fun h49 => ?_)
  ·have hd : done = false := by simpa using h49
   refine aA (dI rfl rfl (wq (aX 0 bO hM3 rfl rfl rfl) rfl (cR [.agg (List.toArray _)] _ rfl dH hM3 rfl rfl rfl rfl (dD rfl) (by decide) (fun b16 w16 M16 => (dG 1 [aF b] dH M16 rfl rfl rfl rfl rfl hr rfl (by simpa using ⟨iB b, iA b⟩) (dS.ofMem 2 M16 rfl) (by omega) (fun A17 c17 e17 w17 M17 hR17 => ?_))))))
   refine eJ rfl rfl (aB (aC (aE (aA (dI rfl rfl (eJ rfl rfl (aB (aC (aO (cD (.slice _ _ _) rfl ?_))))))))))
   exact ⟨_, _, _, _, rfl, by unfold wI; rw [heq]; simpa [*] using hR17, M17.keep [false, true, false]⟩
  ·have hd : done = true := by simpa using h49
   refine aL (aC (aE (aA (dI rfl rfl (eJ rfl rfl (aB (aC (aO (cD (.slice _ _ _) rfl ?_)))))))))
   exact ⟨_, _, _, _, rfl, by unfold wI; rw [heq]; simpa [*] using hr, hM3.keep [false, true]⟩
set_option maxHeartbeats 4000000 in
theorem sZ (w : World) (x y l : Int) (h0 : 0 ≤ l) (h1 : l ≤ 2147483647) :
  Calls Tryz.prog 139 #[.agg [.int .i32 x, .int .i32 y].toArray, .int .i32 l] w (fun ex w' => ∃ v, ex = .returned v ∧ (fun v w' => v = .bool (decide (-l ≤ x ∧ x ≤ l ∧ -l ≤ y ∧ y ≤ l)) ∧ Below w.heap.size w w') v w') := by
 have hneg : IntKind.i32.wrap (-l) = -l := iY _ (by omega) (by omega)
 refine aH #[.tmp 4] 29 Tryz.func139 rfl Tryz.results139 Tryz.ntmps139 rfl ?_
 have M0 := Mem.refl w
 refine aE (aA (bJ (.agg (List.toArray _)) M0 rfl rfl rfl (fun b1 w1 M1 => (wq (aJ (.bool false) rfl) rfl (aB (aC (aE (aA (aP rfl rfl (wq (qH rfl) rfl ?_))))))))))
 refine aK 6 (.int .i32 (-l)) (iE hneg) (wq (aD 0 cT rfl) rfl (wq (aM 0 (.int _ _) aS M1 rfl rfl rfl) rfl (cY rfl rfl rfl rfl (wq (aI (.bool (decide _)) rfl) rfl ?_))))
 refine dN 10 rfl (fun g10 => ?_) (fun g10 => ?_)
 ·refine wq (aD 0 cT rfl) rfl (wq (aM 0 (.int _ _) aS M1 rfl rfl rfl) rfl (aP rfl rfl (cY rfl rfl rfl rfl (wq (bR true (.bool (decide _)) rfl rfl) rfl (wq (aI (.bool (decide _)) rfl) rfl ?_)))))
  refine dN 16 rfl (fun g16 => ?_) (fun g16 => ?_)
  ·refine aP rfl rfl (wq (qH rfl) rfl (aK 18 (.int .i32 (-l)) (iE hneg) (wq (aD 1 cO rfl) rfl (wq (aM 0 (.int _ _) aS M1 rfl rfl rfl) rfl (cY rfl rfl rfl rfl ?_)))))
   refine wq (bR true (.bool (decide _)) rfl rfl) rfl (wq (aI (.bool (decide _)) rfl) rfl ?_)
   refine dN 23 rfl (fun g23 => ?_) (fun g23 => ?_)
   ·refine wq (aD 1 cO rfl) rfl (wq (aM 0 (.int _ _) aS M1 rfl rfl rfl) rfl (aP rfl rfl (cY rfl rfl rfl rfl (wq (bR true (.bool (decide _)) rfl rfl) rfl (wq (aJ (.bool (decide _)) rfl) rfl ?_)))))
    refine aB (aC (aO (cD (.bool (decide _)) rfl ?_)))
    exact ⟨by first | exact bF (by omega) | exact bT (by omega) | exact bD (by omega), M1.below⟩
   ·refine aN rfl rfl (aN rfl rfl (aN rfl rfl (aN rfl rfl (wq (bR false (.bool false) rfl rfl) rfl (wq (aJ (.bool false) rfl) rfl ?_)))))
    refine aB (aC (aO (cD (.bool false) rfl ?_)))
    exact ⟨by first | exact bF (by omega) | exact bT (by omega) | exact bD (by omega), M1.below⟩
  ·refine aN rfl rfl (aN rfl rfl (aN rfl rfl (aN rfl rfl (aN rfl rfl (wq (bR false (.bool false) rfl rfl) rfl ?_)))))
   refine wq (aI (.bool false) rfl) rfl (aN rfl rfl (aN rfl rfl (aN rfl rfl (aN rfl rfl (wq (bR false (.bool false) rfl rfl) rfl ?_)))))
   refine wq (aJ (.bool false) rfl) rfl (aB (aC (aO (cD (.bool false) rfl ?_))))
   exact ⟨by first | exact bF (by omega) | exact bT (by omega) | exact bD (by omega), M1.below⟩
 ·refine aN rfl rfl (aN rfl rfl (aN rfl rfl (aN rfl rfl (wq (bR false (.bool false) rfl rfl) rfl (wq (aI (.bool false) rfl) rfl ?_)))))
  refine aN rfl rfl (aN rfl rfl (aN rfl rfl (aN rfl rfl (aN rfl rfl (wq (bR false (.bool false) rfl rfl) rfl ?_)))))
  refine wq (aI (.bool false) rfl) rfl (aN rfl rfl (aN rfl rfl (aN rfl rfl (aN rfl rfl (wq (bR false (.bool false) rfl rfl) rfl ?_)))))
  refine wq (aJ (.bool false) rfl) rfl (aB (aC (aO (cD (.bool false) rfl ?_))))
  exact ⟨by first | exact bF (by omega) | exact bT (by omega) | exact bD (by omega), M1.below⟩
set_option maxHeartbeats 4000000 in
theorem aLu (w : World) (b : Body) (p : Nat) (R : Rd w 10 (some ⟨p, 0, none⟩) 1 [aF b]) :
  Calls Tryz.prog 137 #[.pointer (some ⟨p, 0, none⟩)] w (fun ex w' => ∃ v, ex = .returned v ∧ (fun v w' => v = .bool (decide (4096 ≤ b.radius ∧ b.radius ≤ 4194304)) ∧ Below w.heap.size w w') v w') := by
 rw [← gM p]
 refine aH #[.tmp 1] 10 Tryz.func137 rfl Tryz.results137 Tryz.ntmps137 rfl ?_
 have M0 := Mem.refl w
 refine aE (aA (wq (aJ (.bool false) rfl) rfl (aB (aC (aE (aA (wq (bG 1 lH R (Nat.lt_of_le_of_lt (Nat.zero_le _) (R.below_len (show [aF b][0]? = some (aF b) from rfl))) rfl) rfl (wq (dX (o := 1) (.int _ _) aS R (show [aF b][0]? = some (aF b) from rfl) rfl rfl) rfl ?_))))))))
 refine cY rfl rfl rfl rfl (wq (aI (.bool (decide _)) rfl) rfl ?_)
 refine dN 5 rfl (fun g5 => ?_) (fun g5 => ?_)
 ·refine wq (bG 1 lH R (Nat.lt_of_le_of_lt (Nat.zero_le _) (R.below_len (show [aF b][0]? = some (aF b) from rfl))) rfl) rfl (wq (dX (o := 1) (.int _ _) aS R (show [aF b][0]? = some (aF b) from rfl) rfl rfl) rfl (cY rfl rfl rfl rfl (wq (bR true (.bool (decide _)) rfl rfl) rfl ?_)))
  refine wq (aJ (.bool (decide _)) rfl) rfl (aB (aC (aO (cD (.bool (decide _)) rfl ?_))))
  exact ⟨by first | exact bF (by omega) | exact bT (by omega) | exact bD (by omega), M0.below⟩
 ·refine aN rfl rfl (aN rfl rfl (aN rfl rfl (wq (bR false (.bool false) rfl rfl) rfl (wq (aJ (.bool false) rfl) rfl (aB (aC (aO ?_)))))))
  refine cD (.bool false) rfl ?_
  exact ⟨by first | exact bF (by omega) | exact bT (by omega) | exact bD (by omega), M0.below⟩
set_option maxHeartbeats 4000000 in
theorem aMq (w : World) (b : Body) (p : Nat) (R : Rd w 10 (some ⟨p, 0, none⟩) 1 [aF b]) :
  Calls Tryz.prog 138 #[.pointer (some ⟨p, 0, none⟩)] w (fun ex w' => ∃ v, ex = .returned v ∧ (fun v w' => v = .bool (decide (-4194304 ≤ b.ax ∧ b.ax ≤ 4194304 ∧ -4194304 ≤ b.ay ∧ b.ay ≤ 4194304)) ∧ Below w.heap.size w w') v w') := by
 rw [← gM p]
 refine aH #[.tmp 1] 5 Tryz.func138 rfl Tryz.results138 Tryz.ntmps138 rfl ?_
 have M0 := Mem.refl w
 refine aE (aA (wq (aJ (.bool false) rfl) rfl (aB (aC (aE (aA (wq (bG 2 iS R (Nat.lt_of_le_of_lt (Nat.zero_le _) (R.below_len (show [aF b][0]? = some (aF b) from rfl))) rfl) rfl (wq (aCx (o := 2) _ bK R (show [aF b][0]? = some (aF b) from rfl) rfl rfl rfl) rfl ?_))))))))
 refine bY aQr rfl rfl (sZ _ _ _ _ (by omega) (by omega)) ?_
 rintro v1 w1 ⟨rfl, hb1⟩
 have M1 := M0.callB hb1
 refine wq (aJ (.bool (decide _)) rfl) rfl (aB (aC (aO (cD (.bool (decide _)) rfl ?_))))
 exact ⟨by first | exact bF (by omega) | exact bT (by omega) | exact bD (by omega), M1.below⟩
set_option maxHeartbeats 4000000 in
theorem aLg (w : World) (b : Body) (p : Nat) (R : Rd w 10 (some ⟨p, 0, none⟩) 1 [aF b]) :
  Calls Tryz.prog 140 #[.pointer (some ⟨p, 0, none⟩)] w (fun ex w' => ∃ v, ex = .returned v ∧ (fun v w' => v = .bool (decide (0 ≤ b.mass ∧ b.mass ≤ 1048576)) ∧ Below w.heap.size w w') v w') := by
 rw [← gM p]
 refine aH #[.tmp 1] 10 Tryz.func140 rfl Tryz.results140 Tryz.ntmps140 rfl ?_
 have M0 := Mem.refl w
 refine aE (aA (wq (aJ (.bool false) rfl) rfl (aB (aC (aE (aA (wq (bG 4 eF R (Nat.lt_of_le_of_lt (Nat.zero_le _) (R.below_len (show [aF b][0]? = some (aF b) from rfl))) rfl) rfl (wq (dX (o := 4) (.int _ _) aS R (show [aF b][0]? = some (aF b) from rfl) rfl rfl) rfl ?_))))))))
 refine cY rfl rfl rfl rfl (wq (aI (.bool (decide _)) rfl) rfl ?_)
 refine dN 5 rfl (fun g5 => ?_) (fun g5 => ?_)
 ·refine wq (bG 4 eF R (Nat.lt_of_le_of_lt (Nat.zero_le _) (R.below_len (show [aF b][0]? = some (aF b) from rfl))) rfl) rfl (wq (dX (o := 4) (.int _ _) aS R (show [aF b][0]? = some (aF b) from rfl) rfl rfl) rfl (cY rfl rfl rfl rfl (wq (bR true (.bool (decide _)) rfl rfl) rfl ?_)))
  refine wq (aJ (.bool (decide _)) rfl) rfl (aB (aC (aO (cD (.bool (decide _)) rfl ?_))))
  exact ⟨by first | exact bF (by omega) | exact bT (by omega) | exact bD (by omega), M0.below⟩
 ·refine aN rfl rfl (aN rfl rfl (aN rfl rfl (wq (bR false (.bool false) rfl rfl) rfl (wq (aJ (.bool false) rfl) rfl (aB (aC (aO ?_)))))))
  refine cD (.bool false) rfl ?_
  exact ⟨by first | exact bF (by omega) | exact bT (by omega) | exact bD (by omega), M0.below⟩
set_option maxHeartbeats 4000000 in
theorem aOd (w : World) (b : Body) (p : Nat) (R : Rd w 10 (some ⟨p, 0, none⟩) 1 [aF b]) :
  Calls Tryz.prog 141 #[.pointer (some ⟨p, 0, none⟩)] w (fun ex w' => ∃ v, ex = .returned v ∧ (fun v w' => v = .bool (decide (0 ≤ b.bounce ∧ b.bounce ≤ 65536)) ∧ Below w.heap.size w w') v w') := by
 rw [← gM p]
 refine aH #[.tmp 1] 10 Tryz.func141 rfl Tryz.results141 Tryz.ntmps141 rfl ?_
 have M0 := Mem.refl w
 refine aE (aA (wq (aJ (.bool false) rfl) rfl (aB (aC (aE (aA (wq (bG 5 nA R (Nat.lt_of_le_of_lt (Nat.zero_le _) (R.below_len (show [aF b][0]? = some (aF b) from rfl))) rfl) rfl (wq (dX (o := 5) (.int _ _) aS R (show [aF b][0]? = some (aF b) from rfl) rfl rfl) rfl ?_))))))))
 refine cY rfl rfl rfl rfl (wq (aI (.bool (decide _)) rfl) rfl ?_)
 refine dN 5 rfl (fun g5 => ?_) (fun g5 => ?_)
 ·refine wq (bG 5 nA R (Nat.lt_of_le_of_lt (Nat.zero_le _) (R.below_len (show [aF b][0]? = some (aF b) from rfl))) rfl) rfl (wq (dX (o := 5) (.int _ _) aS R (show [aF b][0]? = some (aF b) from rfl) rfl rfl) rfl (cY rfl rfl rfl rfl (wq (bR true (.bool (decide _)) rfl rfl) rfl ?_)))
  refine wq (aJ (.bool (decide _)) rfl) rfl (aB (aC (aO (cD (.bool (decide _)) rfl ?_))))
  exact ⟨by first | exact bF (by omega) | exact bT (by omega) | exact bD (by omega), M0.below⟩
 ·refine aN rfl rfl (aN rfl rfl (aN rfl rfl (wq (bR false (.bool false) rfl rfl) rfl (wq (aJ (.bool false) rfl) rfl (aB (aC (aO ?_)))))))
  refine cD (.bool false) rfl ?_
  exact ⟨by first | exact bF (by omega) | exact bT (by omega) | exact bD (by omega), M0.below⟩
set_option maxHeartbeats 4000000 in
theorem aMw (w : World) (b : Body) (p : Nat) (R : Rd w 10 (some ⟨p, 0, none⟩) 1 [aF b]) :
  Calls Tryz.prog 142 #[.pointer (some ⟨p, 0, none⟩)] w (fun ex w' => ∃ v, ex = .returned v ∧ (fun v w' => v = .bool (decide (-1073741824 ≤ b.px ∧ b.px ≤ 1073741824 ∧ -1073741824 ≤ b.py ∧ b.py ≤ 1073741824)) ∧ Below w.heap.size w w') v w') := by
 rw [← gM p]
 refine aH #[.tmp 1] 5 Tryz.func142 rfl Tryz.results142 Tryz.ntmps142 rfl ?_
 have M0 := Mem.refl w
 refine aE (aA (wq (aJ (.bool false) rfl) rfl (aB (aC (aE (aA (wq (bG 6 fK R (Nat.lt_of_le_of_lt (Nat.zero_le _) (R.below_len (show [aF b][0]? = some (aF b) from rfl))) rfl) rfl (wq (aCx (o := 6) _ bK R (show [aF b][0]? = some (aF b) from rfl) rfl rfl rfl) rfl ?_))))))))
 refine bY aQr rfl rfl (sZ _ _ _ _ (by omega) (by omega)) ?_
 rintro v1 w1 ⟨rfl, hb1⟩
 have M1 := M0.callB hb1
 refine wq (aJ (.bool (decide _)) rfl) rfl (aB (aC (aO (cD (.bool (decide _)) rfl ?_))))
 exact ⟨by first | exact bF (by omega) | exact bT (by omega) | exact bD (by omega), M1.below⟩
set_option maxHeartbeats 4000000 in
theorem aLw (w : World) (b : Body) (p : Nat) (R : Rd w 10 (some ⟨p, 0, none⟩) 1 [aF b]) :
  Calls Tryz.prog 143 #[.pointer (some ⟨p, 0, none⟩)] w (fun ex w' => ∃ v, ex = .returned v ∧ (fun v w' => v = .bool (decide (-16777216 ≤ b.vx ∧ b.vx ≤ 16777216 ∧ -16777216 ≤ b.vy ∧ b.vy ≤ 16777216)) ∧ Below w.heap.size w w') v w') := by
 rw [← gM p]
 refine aH #[.tmp 1] 5 Tryz.func143 rfl Tryz.results143 Tryz.ntmps143 rfl ?_
 have M0 := Mem.refl w
 refine aE (aA (wq (aJ (.bool false) rfl) rfl (aB (aC (aE (aA (wq (bG 8 dV R (Nat.lt_of_le_of_lt (Nat.zero_le _) (R.below_len (show [aF b][0]? = some (aF b) from rfl))) rfl) rfl (wq (aCx (o := 8) _ bK R (show [aF b][0]? = some (aF b) from rfl) rfl rfl rfl) rfl ?_))))))))
 refine bY aQr rfl rfl (sZ _ _ _ _ (by omega) (by omega)) ?_
 rintro v1 w1 ⟨rfl, hb1⟩
 have M1 := M0.callB hb1
 refine wq (aJ (.bool (decide _)) rfl) rfl (aB (aC (aO (cD (.bool (decide _)) rfl ?_))))
 exact ⟨by first | exact bF (by omega) | exact bT (by omega) | exact bD (by omega), M1.below⟩
set_option maxHeartbeats 4000000 in
theorem vY (w : World) (b : Body) :
  Calls Tryz.prog 102 #[(.agg (aF b).toArray)] w (fun ex w' => ∃ v, ex = .returned v ∧ (fun v w' => v = .int .i64 (check b) ∧ Below w.heap.size w w') v w') := by
 refine aH #[.tmp 2] 28 Tryz.func102 rfl Tryz.results102 Tryz.ntmps102 rfl ?_
 have M0 := Mem.refl w
 refine aE (aA (bJ (.agg (List.toArray _)) M0 rfl rfl rfl (fun b1 w1 M1 => (bH rfl rfl (aB (aC (aE (aE (aA (wq (dR [] [.pointer _] rfl rfl) rfl (wq (cG [(0, .func _ _ _), (1, .int _ _)] _ oF rfl rfl) rfl ?_)))))))))))
 refine wq (dR [] [.pointer _] rfl rfl) rfl (wq (cG [(0, .func _ _ _), (1, .int _ _)] _ oF rfl rfl) rfl (wq (dR [] [.pointer _] rfl rfl) rfl (wq (cG [(0, .func _ _ _), (1, .int _ _)] _ oF rfl rfl) rfl (wq (dR [] [.pointer _] rfl rfl) rfl (wq (cG [(0, .func _ _ _), (1, .int _ _)] _ oF rfl rfl) rfl ?_)))))
 refine wq (dR [] [.pointer _] rfl rfl) rfl (wq (cG [(0, .func _ _ _), (1, .int _ _)] _ oF rfl rfl) rfl (wq (dR [] [.pointer _] rfl rfl) rfl (wq (cG [(0, .func _ _ _), (1, .int _ _)] _ oF rfl rfl) rfl (wq (tA [.agg (List.toArray _), .agg (List.toArray _), .agg (List.toArray _), .agg (List.toArray _), .agg (List.toArray _), .agg (List.toArray _)] wM bFe rfl rfl (dD rfl)) rfl ?_))))
 refine aP rfl rfl (aB (aC (aQ (iR 7 (fI (aE (aA (cY rfl rfl rfl rfl (kB 19 rfl (by first | decide | omega) ?_)))))))))
 refine aB (aC (aE (cF rfl (aL (aC (aE (aQ (aE (aA (wq (pS 0 _ wM nT rfl rfl (by decide) (by decide) rfl rfl) rfl (aU uJ M1 rfl rfl (fun b2 w2 M2 => (bI 1 _ nT M2 rfl rfl rfl rfl rfl (aR rfl) rfl (fun w3 M3 => ?_))))))))))))))
 refine aB (aC (aE (aA (wq (aD 0 qE rfl) rfl (wq (aM 1 (.func _ _ _) aHr M3 rfl rfl rfl) rfl (bY bNc rfl rfl (aLu _ b _ (pB 0 M3 rfl rfl)) ?_))))))
 rintro v4 w4 ⟨rfl, hb4⟩
 have M4 := M3.callB hb4
 refine wq (oJ rfl) rfl (aB (aC ?_))
 refine aV rfl (fun h24 => ?_) (fun h24 => ?_)
 ·refine aE (aA (wq (aD 1 qT rfl) rfl (wq (aM 1 (.int _ _) tX M4 rfl rfl rfl) rfl (bH rfl rfl (aB (aC (aO (kR ?_))))))))
  refine cM (cM (kR (cM (cD (.int _ _) rfl ?_))))
  exact ⟨iE (aTt b (by omega)).symm, M4.below⟩
 ·refine aL (cU (aC (aA (wq (aY rfl rfl (by first | decide | omega) (by first | decide | omega)) rfl (aK 27 (.int .i64 1) (iE (by first | decide | omega)) (aP rfl rfl ?_))))))
  refine aB (aC (fI (aE (aA (cY rfl rfl rfl rfl (kB 19 rfl (by first | decide | omega) (aB (aC (aE ?_)))))))))
  refine cF rfl (aL (aC (aE (aQ (aE (aA (wq (pS 1 _ wM nT rfl rfl (by decide) (by decide) rfl rfl) rfl (aU uJ M4 rfl rfl (fun b5 w5 M5 => (bI 2 _ nT M5 rfl rfl rfl rfl rfl (aR rfl) rfl (fun w6 M6 => (aB (aC (aE (aA ?_)))))))))))))))
  refine wq (aD 0 qE rfl) rfl (wq (aM 2 (.func _ _ _) aHr M6 rfl rfl rfl) rfl (bY bKf rfl rfl (aMq _ b _ (pB 0 M6 rfl rfl)) ?_))
  rintro v7 w7 ⟨rfl, hb7⟩
  have M7 := M6.callB hb7
  refine wq (oJ rfl) rfl (aB (aC ?_))
  refine aV rfl (fun h24 => ?_) (fun h24 => ?_)
  ·refine aE (aA (wq (aD 1 qT rfl) rfl (wq (aM 2 (.int _ _) tX M7 rfl rfl rfl) rfl (bH rfl rfl (aB (aC (aO (kR ?_))))))))
   refine cM (cM (kR (cM (cD (.int _ _) rfl ?_))))
   exact ⟨iE (aSh b (by omega) (by omega)).symm, M7.below⟩
  ·refine aL (cU (aC (aA (wq (aY rfl rfl (by first | decide | omega) (by first | decide | omega)) rfl (aK 27 (.int .i64 2) (iE (by first | decide | omega)) (aP rfl rfl ?_))))))
   refine aB (aC (fI (aE (aA (cY rfl rfl rfl rfl (kB 19 rfl (by first | decide | omega) (aB (aC (aE ?_)))))))))
   refine cF rfl (aL (aC (aE (aQ (aE (aA (wq (pS 2 _ wM nT rfl rfl (by decide) (by decide) rfl rfl) rfl (aU uJ M7 rfl rfl (fun b8 w8 M8 => (bI 3 _ nT M8 rfl rfl rfl rfl rfl (aR rfl) rfl (fun w9 M9 => (aB (aC (aE (aA ?_)))))))))))))))
   refine wq (aD 0 qE rfl) rfl (wq (aM 3 (.func _ _ _) aHr M9 rfl rfl rfl) rfl (bY bKh rfl rfl (aLg _ b _ (pB 0 M9 rfl rfl)) ?_))
   rintro v10 w10 ⟨rfl, hb10⟩
   have M10 := M9.callB hb10
   refine wq (oJ rfl) rfl (aB (aC ?_))
   refine aV rfl (fun h24 => ?_) (fun h24 => ?_)
   ·refine aE (aA (wq (aD 1 qT rfl) rfl (wq (aM 3 (.int _ _) tX M10 rfl rfl rfl) rfl (bH rfl rfl (aB (aC (aO (kR ?_))))))))
    refine cM (cM (kR (cM (cD (.int _ _) rfl ?_))))
    exact ⟨iE (aTo b (by omega) (by omega) (by omega)).symm, M10.below⟩
   ·refine aL (cU (aC (aA (wq (aY rfl rfl (by first | decide | omega) (by first | decide | omega)) rfl (aK 27 (.int .i64 3) (iE (by first | decide | omega)) (aP rfl rfl ?_))))))
    refine aB (aC (fI (aE (aA (cY rfl rfl rfl rfl (kB 19 rfl (by first | decide | omega) (aB (aC (aE ?_)))))))))
    refine cF rfl (aL (aC (aE (aQ (aE (aA (wq (pS 3 _ wM nT rfl rfl (by decide) (by decide) rfl rfl) rfl (aU uJ M10 rfl rfl (fun b11 w11 M11 => (bI 4 _ nT M11 rfl rfl rfl rfl rfl (aR rfl) rfl (fun w12 M12 => (aB (aC (aE (aA ?_)))))))))))))))
    refine wq (aD 0 qE rfl) rfl (wq (aM 4 (.func _ _ _) aHr M12 rfl rfl rfl) rfl (bY bJx rfl rfl (aOd _ b _ (pB 0 M12 rfl rfl)) ?_))
    rintro v13 w13 ⟨rfl, hb13⟩
    have M13 := M12.callB hb13
    refine wq (oJ rfl) rfl (aB (aC ?_))
    refine aV rfl (fun h24 => ?_) (fun h24 => ?_)
    ·refine aE (aA (wq (aD 1 qT rfl) rfl (wq (aM 4 (.int _ _) tX M13 rfl rfl rfl) rfl (bH rfl rfl (aB (aC (aO (kR ?_))))))))
     refine cM (cM (kR (cM (cD (.int _ _) rfl ?_))))
     exact ⟨iE (aSc b (by omega) (by omega) (by omega) (by omega)).symm, M13.below⟩
    ·refine aL (cU (aC (aA (wq (aY rfl rfl (by first | decide | omega) (by first | decide | omega)) rfl (aK 27 (.int .i64 4) (iE (by first | decide | omega)) (aP rfl rfl ?_))))))
     refine aB (aC (fI (aE (aA (cY rfl rfl rfl rfl (kB 19 rfl (by first | decide | omega) (aB (aC (aE ?_)))))))))
     refine cF rfl (aL (aC (aE (aQ (aE (aA (wq (pS 4 _ wM nT rfl rfl (by decide) (by decide) rfl rfl) rfl (aU uJ M13 rfl rfl (fun b14 w14 M14 => (bI 5 _ nT M14 rfl rfl rfl rfl rfl (aR rfl) rfl (fun w15 M15 => (aB (aC (aE (aA ?_)))))))))))))))
     refine wq (aD 0 qE rfl) rfl (wq (aM 5 (.func _ _ _) aHr M15 rfl rfl rfl) rfl (bY bKm rfl rfl (aMw _ b _ (pB 0 M15 rfl rfl)) ?_))
     rintro v16 w16 ⟨rfl, hb16⟩
     have M16 := M15.callB hb16
     refine wq (oJ rfl) rfl (aB (aC ?_))
     refine aV rfl (fun h24 => ?_) (fun h24 => ?_)
     ·refine aE (aA (wq (aD 1 qT rfl) rfl (wq (aM 5 (.int _ _) tX M16 rfl rfl rfl) rfl (bH rfl rfl (aB (aC (aO (kR ?_))))))))
      refine cM (cM (kR (cM (cD (.int _ _) rfl ?_))))
      exact ⟨iE (aUc b (by omega) (by omega) (by omega) (by omega) (by omega)).symm, M16.below⟩
     ·refine aL (cU (aC (aA (wq (aY rfl rfl (by first | decide | omega) (by first | decide | omega)) rfl (aK 27 (.int .i64 5) (iE (by first | decide | omega)) (aP rfl rfl ?_))))))
      refine aB (aC (fI (aE (aA (cY rfl rfl rfl rfl (kB 19 rfl (by first | decide | omega) (aB (aC (aE ?_)))))))))
      refine cF rfl (aL (aC (aE (aQ (aE (aA (wq (pS 5 _ wM nT rfl rfl (by decide) (by decide) rfl rfl) rfl (aU uJ M16 rfl rfl (fun b17 w17 M17 => (bI 6 _ nT M17 rfl rfl rfl rfl rfl (aR rfl) rfl (fun w18 M18 => (aB (aC (aE (aA ?_)))))))))))))))
      refine wq (aD 0 qE rfl) rfl (wq (aM 6 (.func _ _ _) aHr M18 rfl rfl rfl) rfl (bY bMj rfl rfl (aLw _ b _ (pB 0 M18 rfl rfl)) ?_))
      rintro v19 w19 ⟨rfl, hb19⟩
      have M19 := M18.callB hb19
      refine wq (oJ rfl) rfl (aB (aC ?_))
      refine aV rfl (fun h24 => ?_) (fun h24 => ?_)
      ·refine aE (aA (wq (aD 1 qT rfl) rfl (wq (aM 6 (.int _ _) tX M19 rfl rfl rfl) rfl (bH rfl rfl (aB (aC (aO (kR ?_))))))))
       refine cM (cM (kR (cM (cD (.int _ _) rfl ?_))))
       exact ⟨iE (aSz b (by omega) (by omega) (by omega) (by omega) (by omega) (by omega)).symm, M19.below⟩
      ·refine aL (cU (aC (aA (wq (aY rfl rfl (by first | decide | omega) (by first | decide | omega)) rfl (aK 27 (.int .i64 6) (iE (by first | decide | omega)) (aP rfl rfl ?_))))))
       refine aB (aC (fI (aE (aA (cY rfl rfl rfl rfl (pA 19 rfl (by first | decide | omega) (aB (aC (aE ?_)))))))))
       refine cJ rfl (cV (dC (dC (eN (aC (aE (aA (bH rfl rfl ?_))))))))
       refine aB (aC (aO (cD (.int _ _) rfl ?_)))
       exact ⟨iE (bEy b (by omega) (by omega) (by omega) (by omega) (by omega) (by omega)).symm, M19.below⟩
set_option maxHeartbeats 4000000 in
theorem aAc (w : World) (x : Int) :
  Calls Tryz.prog 151 #[.int .u32 x] w (fun ex w' => ∃ v, ex = .returned v ∧ (fun v w' => v = .bool false ∧ w' = w) v w') := by
 refine aH #[.tmp 2] 6 Tryz.func151 rfl Tryz.results151 Tryz.ntmps151 rfl ?_
 have M0 := Mem.refl w
 refine aE (aA (wq (aJ (.bool false) rfl) rfl (aB (aC (aE (aA (aP rfl rfl (aP rfl rfl (cY rfl rfl rfl rfl ?_)))))))))
 refine wq (aJ (.bool (decide _)) rfl) rfl (aB (aC (aO (cD (.bool (decide _)) rfl ?_))))
 exact ⟨(bF (by omega)).symm, rfl⟩
set_option maxHeartbeats 4000000 in
theorem mU (w : World) (x y : Int) :
  Calls Tryz.prog 116 #[.int .u32 x, .int .u32 y] w (fun ex w' => ∃ v, ex = .returned v ∧ (fun v w' => v = .int .i64 (oX x y) ∧ w' = w) v w') := by
 refine aH #[.tmp 4] 20 Tryz.func116 rfl Tryz.results116 Tryz.ntmps116 rfl ?_
 have M0 := Mem.refl w
 refine aE (aA (bH rfl rfl (aB (aC (aE (aA (aP rfl rfl (bY bCx rfl rfl (aAc _ _) ?_))))))))
 rintro v1 w1 ⟨rfl, rfl⟩
 have M1 : Mem _ _ [] _ := M0
 refine wq (aJ (.bool false) rfl) rfl (aB (aC (aE (aA (aP rfl rfl (bY bCx rfl rfl (aAc _ _) ?_))))))
 rintro v2 w2 ⟨rfl, rfl⟩
 have M2 : Mem _ _ [] _ := M1
 refine wq (aJ (.bool false) rfl) rfl (aB (aC (aE (aE (aA (wq (aI (.bool false) rfl) rfl (aB (aC (cJ rfl (aL (aC (aE (aE (aA ?_))))))))))))))
 refine wq (aI (.bool false) rfl) rfl (aB (aC (cJ rfl (aL (aC (aE (aE (aA (aP rfl rfl (aP rfl rfl ?_))))))))))
 refine cY rfl rfl rfl rfl (aB (aC ?_))
 refine aV rfl (fun h16 => ?_) (fun h16 => ?_)
 ·refine aE (aA (bH rfl rfl (aB (aC (aO (cM (cD (.int _ _) rfl ?_)))))))
  exact ⟨iE (by unfold oX; (repeat' split) <;> omega), rfl⟩
 ·refine aL (aC (aE (aE (aA (aP rfl rfl (aP rfl rfl (cY rfl rfl rfl rfl (aB (aC ?_)))))))))
  refine aV rfl (fun h19 => ?_) (fun h19 => ?_)
  ·refine aE (aA (bH rfl rfl (aB (aC (aO (cM (cD (.int _ _) rfl ?_)))))))
   exact ⟨iE (by unfold oX; (repeat' split) <;> omega), rfl⟩
  ·refine aL (aC (aE (aA (bH rfl rfl (aB (aC (aO (cD (.int _ _) rfl ?_))))))))
   exact ⟨iE (by unfold oX; (repeat' split) <;> omega), rfl⟩
set_option maxHeartbeats 4000000 in
theorem aGj (a b : Body) (w : World) :
  Calls Tryz.prog 115 #[(.agg (aF a).toArray), (.agg (aF b).toArray)] w (fun ex w' => ∃ v, ex = .returned v ∧ (fun v w' => v = .int .i64 (oX a.key b.key) ∧ ∃ q os, w' = Go.Sort.grow (w.drewN q) os) v w') := by
 refine aH #[.tmp 4] 10 Tryz.func115 rfl Tryz.results115 Tryz.ntmps115 rfl ?_
 have M0 := Mem.refl w
 refine aE (aA (aBl (.agg (List.toArray _)) M0 rfl rfl rfl (fun M1 => (aBl (.agg (List.toArray _)) M1 rfl rfl rfl (fun M2 => (bH rfl rfl (aB (aC (aE (aA (wq (aD 0 dM rfl) rfl ?_)))))))))))
 refine wq (aM 0 (.int _ _) bW M2 rfl rfl rfl) rfl (wq (aD 0 dM rfl) rfl (wq (aM 1 (.int _ _) bW M2 rfl rfl rfl) rfl (bY aJn rfl rfl (mU _ _ _) ?_)))
 rintro v3 w3 ⟨rfl, rfl⟩
 have M3 : Mem _ _ [_, _] _ := M2
 refine bH rfl rfl (aB (aC (aO (cD (.int _ _) rfl ?_))))
 exact ⟨rfl, bQx _ _ _⟩
set_option maxHeartbeats 4000000 in
theorem aFp (w : World) (A : Option Addr) (n c : Nat) (ls : List (List Value)) (R : Rd w 10 A n ls) (h1 : ∀ y ∈ ls, ∀ u ∈ y, one u = true) (hn : n ≤ 1048576) :
  Calls Tryz.prog 64 #[.slice A n c] w (fun ex w' => ∃ v, ex = .returned v ∧ (fun v w' => ∃ A' n' c' e, v = .slice A' n' c' ∧ bC 39 10 A' n' c' ls e ∧ Mem w [] [e] w' ∧ A'.isSome = A.isSome) v w') := by
 refine aH #[.tmp 2] 8 Tryz.func64 rfl Tryz.results64 Tryz.ntmps64 rfl ?_
 have M0 := Mem.refl w
 refine aE (aA (eJ rfl rfl (aB (aC (aE (aE (aA (dI rfl rfl (wq (aIw _ Tryz.underlying29 rfl rfl) rfl (aB (aC ?_)))))))))))
 refine iD _ rfl (fun h4 => ?_) (fun h4 => ?_)
 ·refine aE (aA (eJ rfl rfl (aB (aC (aO (cM (cD (.slice _ _ _) rfl ?_)))))))
  have hA : A = none := by cases A <;> simp_all
  have hl : ls = [] := by
   rcases Nat.eq_zero_or_pos n with h | h
   ·subst h; exact List.eq_nil_of_length_eq_zero R.len
   ·have := R.some h; rw [hA] at this; cases this
  subst hA; subst hl
  exact ⟨_, _, _, _, rfl, bC.nil 39 10 default, M0.dummy default, rfl⟩
 ·refine aL (aC (aE (aA (cR [] [] rfl dH M0 rfl rfl rfl rfl (dD rfl) (by decide) (fun b1 w1 M1 => (dI rfl rfl (gR 0 ls dH M1 rfl rfl rfl rfl rfl (bC.empty b1) (R.mem M1) h1 (by omega) (fun A2 c2 e2 w2 M2 hR2 hA2 => ?_))))))))
  have hAA := hA2
  refine eJ rfl rfl (aB (aC (aO (cD (.slice _ _ _) rfl ?_))))
  refine ⟨_, _, _, _, rfl, by simpa using hR2, M2, ?_⟩
  rw [hAA rfl]; cases A <;> simp_all
end Go.Proofs.YtaoaknafiegfoaaGreatDoor
