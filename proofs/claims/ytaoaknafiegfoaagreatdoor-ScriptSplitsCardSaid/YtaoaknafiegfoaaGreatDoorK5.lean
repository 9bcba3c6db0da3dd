/- Part of the proof of the laws of this seat: Ty, T26, T25, T20, T20r, T20l, T21, T22, T23, T23l, R5, R6, Bd, Lib, St. No conditions. -/
import Derived.Test.YtaoaknafiegfoaaGreatDoorProg
import Derived.Test.YtaoaknafiegfoaaGreatDoorK2
import Derived.Test.YtaoaknafiegfoaaGreatDoorK3
import Derived.Test.YtaoaknafiegfoaaGreatDoorK4
import Derived.KernelRfl
set_option linter.unusedVariables false
set_option linter.unusedSimpArgs false
set_option linter.unnecessarySimpa false
namespace Go.Proofs.YtaoaknafiegfoaaGreatDoor
open Go.Bil
open Go.Proofs
theorem bW : jA Tryz.prog 35 = true := by kernel_rfl
theorem aV : jA Tryz.prog 21 = true := by kernel_rfl
theorem bM : jE Tryz.prog 37 = some 2 := by kernel_rfl
theorem bP : jE Tryz.prog 39 = some 10 := by kernel_rfl
theorem bMx : aS Tryz.prog 115 = true := by kernel_rfl
theorem bKk : ∀ (d : Nat) (w : World) (x0 x1 y0 y1 : Int), (Op.equalIn (d + 2) 209 (.agg [.int .u32 x0, .int .u32 x1].toArray) (.agg [.int .u32 y0, .int .u32 y1].toArray)).run Tryz.prog w = .ok (decide (x0 = y0 ∧ x1 = y1)) w := fun d w x0 x1 y0 y1 => by
  have h := aVk (P := Tryz.prog) (T := 209) (dd := d + 1) (xs := [.int .u32 x0, .int .u32 x1]) (ys := [.int .u32 y0, .int .u32 y1]) (w := w) Tryz.underlying209 (by kernel_rfl) (aLg rfl (aFd bW rfl) (aFd bW rfl) (bAd (dd := d + 0) Tryz.underlying35) (aLg rfl (aFd bW rfl) (aFd bW rfl) (bAd (dd := d + 0) Tryz.underlying35) (bHq)))
  refine h.trans (congrArg (fun r => Result.ok r w) ?_)
  simp only [Bool.decide_and, Bool.and_true, Bool.and_assoc]
theorem bJz : ∀ (x0 x1 y0 y1 : Int), EqA Tryz.prog 209 [.int .u32 x0, .int .u32 x1] [.int .u32 y0, .int .u32 y1] (decide (x0 = y0 ∧ x1 = y1)) := fun x0 x1 y0 y1 => ⟨by kernel_rfl, fun w => bKk 9998 w x0 x1 y0 y1⟩
theorem jI : jE Tryz.prog 209 = some 2 := by kernel_rfl
theorem bKn : aS Tryz.prog 213 = true := by kernel_rfl
theorem bQn : lX Tryz.prog 209 = some (.agg [.int .u32 0, .int .u32 0].toArray) := by kernel_rfl
theorem iP : jA Tryz.prog 3 = true := by kernel_rfl
theorem pG : jA Tryz.prog 4 = true := by kernel_rfl
theorem lH : eN Tryz.prog 39 1 1 = true := by kernel_rfl
theorem iR : eN Tryz.prog 39 2 2 = true := by kernel_rfl
theorem cS : eN Tryz.prog 37 0 0 = true := by kernel_rfl
theorem aIj : aS Tryz.prog 62 = true := by kernel_rfl
theorem cN : eN Tryz.prog 37 1 1 = true := by kernel_rfl
theorem eG : eN Tryz.prog 39 3 4 = true := by kernel_rfl
theorem nB : eN Tryz.prog 39 4 5 = true := by kernel_rfl
theorem fK : eN Tryz.prog 39 5 6 = true := by kernel_rfl
theorem dW : eN Tryz.prog 39 6 8 = true := by kernel_rfl
theorem dK : fN Tryz.prog 29 39 10 40 = true := by kernel_rfl
theorem dM : eN Tryz.prog 39 0 0 = true := by kernel_rfl
theorem mixed : Tryz.prog.follows .mixedOrders = true := by kernel_rfl
theorem aRr : aS Tryz.prog 139 = true := by kernel_rfl
theorem oK : gL Tryz.prog 194 [.nilFunc, .int .i64 0] [(0, 1), (1, 1)] := eQ Tryz.underlying194 (by kernel_rfl) (by kernel_rfl) (by kernel_rfl)
theorem vW : zP Tryz.prog 196 6 194 2 = true := by kernel_rfl
theorem bGs : gR Tryz.prog 196 = some [.nilFunc, .int .i64 0, .nilFunc, .int .i64 0, .nilFunc, .int .i64 0, .nilFunc, .int .i64 0, .nilFunc, .int .i64 0, .nilFunc, .int .i64 0] := by kernel_rfl
theorem nT : jE Tryz.prog 194 = some 2 := by kernel_rfl
theorem uB : gR Tryz.prog 194 = some [.nilFunc, .int .i64 0] := by kernel_rfl
theorem qU : eN Tryz.prog 194 0 0 = true := by kernel_rfl
theorem aHm : jA Tryz.prog 23 = true := by kernel_rfl
theorem bOx : aS Tryz.prog 137 = true := by kernel_rfl
theorem qK : eN Tryz.prog 194 1 1 = true := by kernel_rfl
theorem tL : jA Tryz.prog 30 = true := by kernel_rfl
theorem bMy : aS Tryz.prog 138 = true := by kernel_rfl
theorem bMd : aS Tryz.prog 140 = true := by kernel_rfl
theorem bLm : aS Tryz.prog 141 = true := by kernel_rfl
theorem bLk : aS Tryz.prog 142 = true := by kernel_rfl
theorem bOs : aS Tryz.prog 143 = true := by kernel_rfl
theorem aQy : aS Tryz.prog 102 = true := by kernel_rfl
theorem lC : eN Tryz.prog 103 1 1 = true := by kernel_rfl
theorem pZ : jA Tryz.prog 101 = true := by kernel_rfl
theorem tX : yT Tryz.prog 101 35 3 .u32 = true := by kernel_rfl
theorem zv3 : lX Tryz.prog 3 = some (.int .i64 0) := by kernel_rfl
theorem gX : eN Tryz.prog 103 0 0 = true := by kernel_rfl
theorem gA : jA Tryz.prog 29 = true := by kernel_rfl
theorem fO : gR Tryz.prog 39 = some [.int .u32 0, .int .i32 0, .int .i32 0, .int .i32 0, .int .i32 0, .int .i32 0, .int .i32 0, .int .i32 0, .int .i32 0, .int .i32 0] := by kernel_rfl
theorem wP : gL Tryz.prog 39 [.int .u32 0, .int .i32 0, .int .i32 0, .int .i32 0, .int .i32 0, .int .i32 0, .int .i32 0, .int .i32 0, .int .i32 0, .int .i32 0] [(0, 1), (1, 1), (2, 2), (4, 1), (5, 1), (6, 2), (8, 2)] := eQ Tryz.underlying39 (by kernel_rfl) (by kernel_rfl) (by kernel_rfl)
theorem aZl : aS Tryz.prog 151 = true := by kernel_rfl
theorem aKb : aS Tryz.prog 116 = true := by kernel_rfl
theorem bPm : aS Tryz.prog 64 = true := by kernel_rfl
theorem bOl : aS Tryz.prog 114 = true := by kernel_rfl
theorem bJi : aS Tryz.prog 27 = true := by kernel_rfl
theorem sH : aS Tryz.prog 99 = true := by kernel_rfl
theorem aIs : aS Tryz.prog 126 = true := by kernel_rfl
theorem bRi : aS Tryz.prog 94 = true := by kernel_rfl
theorem bOh : aS Tryz.prog 119 = true := by kernel_rfl
theorem bNw : aS Tryz.prog 103 = true := by kernel_rfl
theorem us3 : (Tryz.prog.underlying 3).isSome = true := by kernel_rfl
theorem bRl : (Tryz.prog.underlying 178).isSome = true := by kernel_rfl
theorem bDp : aS Tryz.prog 188 = true := by kernel_rfl
theorem bNr : aS Tryz.prog 187 = true := by kernel_rfl
theorem bEe : aS Tryz.prog 253 = true := by kernel_rfl
theorem aJl : gR Tryz.prog 253 = some [.int .i32 0, .int .i32 0, .int .i32 0, .int .i32 0] := by kernel_rfl
theorem bNp : aS Tryz.prog 229 = true := by kernel_rfl
theorem aIf : gL Tryz.prog 253 [.int .i32 0, .int .i32 0, .int .i32 0, .int .i32 0] [(0, 1), (1, 1), (2, 1), (3, 1)] := eQ Tryz.underlying253 (by kernel_rfl) (by kernel_rfl) (by kernel_rfl)
theorem kV : jE Tryz.prog 253 = some 4 := by kernel_rfl
theorem wZ : eN Tryz.prog 253 0 0 = true := by kernel_rfl
theorem xJ : eN Tryz.prog 253 2 2 = true := by kernel_rfl
theorem wU : eN Tryz.prog 253 1 1 = true := by kernel_rfl
theorem yE : eN Tryz.prog 253 3 3 = true := by kernel_rfl
theorem aPx : aS Tryz.prog 231 = true := by kernel_rfl
theorem bLg : aS Tryz.prog 232 = true := by kernel_rfl
theorem rE : gR Tryz.prog 283 = some [.int .i32 0, .int .i32 0] := by kernel_rfl
theorem aGx : gL Tryz.prog 283 [.int .i32 0, .int .i32 0] [(0, 1), (1, 1)] := eQ Tryz.underlying283 (by kernel_rfl) (by kernel_rfl) (by kernel_rfl)
theorem jX : jE Tryz.prog 283 = some 2 := by kernel_rfl
theorem fA : gL Tryz.prog 37 [.int .i32 0, .int .i32 0] [(0, 1), (1, 1)] := eQ Tryz.underlying37 (by kernel_rfl) (by kernel_rfl) (by kernel_rfl)
theorem bDc : aS Tryz.prog 267 = true := by kernel_rfl
theorem bLw : aS Tryz.prog 254 = true := by kernel_rfl
theorem aUn : gR Tryz.prog 4 = some [.bool false] := by kernel_rfl
theorem aCl : eN Tryz.prog 283 1 1 = true := by kernel_rfl
theorem aDw : eN Tryz.prog 283 0 0 = true := by kernel_rfl
theorem bIl : gR Tryz.prog 281 = some [.slice none 0 0] := by kernel_rfl
theorem bMz : aS Tryz.prog 230 = true := by kernel_rfl
theorem bMe : aS Tryz.prog 255 = true := by kernel_rfl
theorem aOq : jA Tryz.prog 281 = true := by kernel_rfl
theorem bCw : fN Tryz.prog 281 283 2 8 = true := by kernel_rfl
theorem dP : (Tryz.prog.underlying 21).isSome = true := by kernel_rfl
theorem aYr : zP Tryz.prog 323 2 35 1 = true := by kernel_rfl
theorem vG : (Tryz.prog.underlying 35).isSome = true := by kernel_rfl
theorem bNg : aS Tryz.prog 245 = true := by kernel_rfl
theorem lW : (Tryz.prog.underlying 2).isSome = true := by kernel_rfl
theorem vP : (Tryz.prog.underlying 237).isSome = true := by kernel_rfl
theorem sR : aS Tryz.prog 222 = true := by kernel_rfl
theorem aOv : aS Tryz.prog 221 = true := by kernel_rfl
theorem bCk : aS Tryz.prog 223 = true := by kernel_rfl
theorem aJo : aS Tryz.prog 224 = true := by kernel_rfl
theorem aJg : aS Tryz.prog 246 = true := by kernel_rfl
theorem aYj : aS Tryz.prog 240 = true := by kernel_rfl
theorem aPi : aS Tryz.prog 216 = true := by kernel_rfl
theorem bLv : aS Tryz.prog 242 = true := by kernel_rfl
theorem iF : gR Tryz.prog 37 = some [.int .i32 0, .int .i32 0] := by kernel_rfl
theorem aZu : aS Tryz.prog 218 = true := by kernel_rfl
theorem aZy : aS Tryz.prog 241 = true := by kernel_rfl
theorem aEw : aS Tryz.prog 239 = true := by kernel_rfl
theorem iZ : jA Tryz.prog 2 = true := by kernel_rfl
theorem aJw : aS Tryz.prog 189 = true := by kernel_rfl
theorem bLd : aS Tryz.prog 282 = true := by kernel_rfl
theorem aCx : gR Tryz.prog 2 = some [.int .i64 0] := by kernel_rfl
theorem aYy : aS Tryz.prog 283 = true := by kernel_rfl
theorem cQ : jA Tryz.prog 237 = true := by kernel_rfl
theorem bHt : gR Tryz.prog 237 = some [.int .u64 0] := by kernel_rfl
theorem zE : zP Tryz.prog 369 2 37 2 = true := by kernel_rfl
theorem aUc : gR Tryz.prog 369 = some [.int .i32 0, .int .i32 0, .int .i32 0, .int .i32 0] := by kernel_rfl
theorem aJk : aS Tryz.prog 277 = true := by kernel_rfl
theorem aKs : aS Tryz.prog 276 = true := by kernel_rfl
theorem bMf : aS Tryz.prog 259 = true := by kernel_rfl
theorem yF : gR Tryz.prog 296 = some [.int .u32 0, .int .i32 0, .int .i32 0, .int .i32 0, .int .i32 0, .int .i32 0, .int .i32 0, .int .i32 0, .int .i32 0, .int .i32 0, .int .i32 0, .int .i32 0, .int .i32 0, .int .i32 0] := by kernel_rfl
theorem bOp : aS Tryz.prog 258 = true := by kernel_rfl
theorem aVy : gL Tryz.prog 296 [.int .u32 0, .int .i32 0, .int .i32 0, .int .i32 0, .int .i32 0, .int .i32 0, .int .i32 0, .int .i32 0, .int .i32 0, .int .i32 0, .int .i32 0, .int .i32 0, .int .i32 0, .int .i32 0] [(0, 10), (10, 2), (12, 2)] := eQ Tryz.underlying296 (by kernel_rfl) (by kernel_rfl) (by kernel_rfl)
theorem nU : jE Tryz.prog 296 = some 14 := by kernel_rfl
theorem aJb : aS Tryz.prog 237 = true := by kernel_rfl
theorem aMb : eN Tryz.prog 296 1 10 = true := by kernel_rfl
theorem aOb : eN Tryz.prog 296 2 12 = true := by kernel_rfl
theorem bKg : aS Tryz.prog 238 = true := by kernel_rfl
theorem yD : eN Tryz.prog 296 0 0 = true := by kernel_rfl
theorem mC : gR Tryz.prog 211 = some [.int .u32 0, .int .u32 0, .int .i32 0, .int .i32 0, .int .i32 0] := by kernel_rfl
theorem bOj : aS Tryz.prog 214 = true := by kernel_rfl
theorem bKi : aS Tryz.prog 215 = true := by kernel_rfl
theorem uX : gL Tryz.prog 211 [.int .u32 0, .int .u32 0, .int .i32 0, .int .i32 0, .int .i32 0] [(0, 2), (2, 2), (4, 1)] := eQ Tryz.underlying211 (by kernel_rfl) (by kernel_rfl) (by kernel_rfl)
theorem eV : jE Tryz.prog 211 = some 5 := by kernel_rfl
theorem yU : gL Tryz.prog 209 [.int .u32 0, .int .u32 0] [(0, 1), (1, 1)] := eQ Tryz.underlying209 (by kernel_rfl) (by kernel_rfl) (by kernel_rfl)
theorem uC : gR Tryz.prog 209 = some [.int .u32 0, .int .u32 0] := by kernel_rfl
theorem bMb : aS Tryz.prog 217 = true := by kernel_rfl
theorem aMt : eN Tryz.prog 250 1 1024 = true := by kernel_rfl
theorem bKz : aS Tryz.prog 204 = true := by kernel_rfl
theorem bJy : aS Tryz.prog 205 = true := by kernel_rfl
theorem bBb : yT Tryz.prog 280 3 4 .i64 = true := by kernel_rfl
theorem zv4 : lX Tryz.prog 4 = some (.bool false) := by kernel_rfl
theorem aDp : eN Tryz.prog 250 0 0 = true := by kernel_rfl
theorem aPp : zP Tryz.prog 248 1024 247 1 = true := by kernel_rfl
theorem aJx : jA Tryz.prog 247 = true := by kernel_rfl
theorem aNk : fN Tryz.prog 247 35 1 4 = true := by kernel_rfl
theorem bDy : fN Tryz.prog 353 3 1 8 = true := by kernel_rfl
theorem gE : eN Tryz.prog 209 0 0 = true := by kernel_rfl
theorem jQ : eN Tryz.prog 209 1 1 = true := by kernel_rfl
theorem bNk : aS Tryz.prog 236 = true := by kernel_rfl
theorem bKh : jA Tryz.prog 287 = true := by kernel_rfl
theorem bNl : aS Tryz.prog 235 = true := by kernel_rfl
theorem aRg : jA Tryz.prog 220 = true := by kernel_rfl
theorem yA : fN Tryz.prog 220 209 2 8 = true := by kernel_rfl
theorem bLs : aS Tryz.prog 256 = true := by kernel_rfl
theorem bNt : aS Tryz.prog 233 = true := by kernel_rfl
theorem bMw : aS Tryz.prog 234 = true := by kernel_rfl
theorem bLn : jE Tryz.prog 248 = some 1024 := by kernel_rfl
theorem bOw : aS Tryz.prog 210 = true := by kernel_rfl
theorem aXw : gL Tryz.prog 288 [] [] := eQ Tryz.underlying288 (by kernel_rfl) (by kernel_rfl) (by kernel_rfl)
theorem bOm : aS Tryz.prog 212 = true := by kernel_rfl
theorem bMj : aS Tryz.prog 211 = true := by kernel_rfl
theorem bMu : aS Tryz.prog 203 = true := by kernel_rfl
theorem aKq : yT Tryz.prog 245 35 253 .u32 = true := by kernel_rfl
theorem bPn : gR Tryz.prog 3 = some [.int .i64 0] := by kernel_rfl
theorem bEu : jA Tryz.prog 245 = true := by kernel_rfl
theorem bBd : lX Tryz.prog 253 = some (.agg [.int .i32 0, .int .i32 0, .int .i32 0, .int .i32 0].toArray) := by kernel_rfl
theorem bLu : aS Tryz.prog 207 = true := by kernel_rfl
theorem bAx : aS Tryz.prog 206 = true := by kernel_rfl
theorem bLr : aS Tryz.prog 209 = true := by kernel_rfl
theorem bNn : aS Tryz.prog 180 = true := by kernel_rfl
theorem bLc : aS Tryz.prog 181 = true := by kernel_rfl
theorem bLz : aS Tryz.prog 182 = true := by kernel_rfl
theorem bKs : aS Tryz.prog 184 = true := by kernel_rfl
theorem bOv : aS Tryz.prog 183 = true := by kernel_rfl
theorem bNc : aS Tryz.prog 208 = true := by kernel_rfl
theorem aEa : eN Tryz.prog 219 0 0 = true := by kernel_rfl
theorem aDm : jA Tryz.prog 217 = true := by kernel_rfl
theorem aCr : yT Tryz.prog 217 35 39 .u32 = true := by kernel_rfl
theorem bIq : lX Tryz.prog 39 = some (.agg [.int .u32 0, .int .i32 0, .int .i32 0, .int .i32 0, .int .i32 0, .int .i32 0, .int .i32 0, .int .i32 0, .int .i32 0, .int .i32 0].toArray) := by kernel_rfl
theorem bCn : aS Tryz.prog 185 = true := by kernel_rfl
theorem sX : eN Tryz.prog 219 1 1 = true := by kernel_rfl
theorem oM : jA Tryz.prog 166 = true := by kernel_rfl
theorem sD : fN Tryz.prog 166 211 5 20 = true := by kernel_rfl
theorem bNv : aS Tryz.prog 159 = true := by kernel_rfl
theorem aWj : gL Tryz.prog 219 [.map none, .slice none 0 0] [(0, 1), (1, 1)] := eQ Tryz.underlying219 (by kernel_rfl) (by kernel_rfl) (by kernel_rfl)
theorem bOu : aS Tryz.prog 157 = true := by kernel_rfl
theorem bOk : aS Tryz.prog 158 = true := by kernel_rfl
theorem uL : gR Tryz.prog 344 = some [.int .u64 0, .int .u64 0, .int .u64 0, .int .u64 0, .int .u64 0, .int .u64 0, .int .u64 0, .int .u64 0] := by kernel_rfl
theorem bU : eN Tryz.prog 344 0 0 = true := by kernel_rfl
theorem cX : zP Tryz.prog 342 8 237 1 = true := by kernel_rfl
theorem nO : jE Tryz.prog 344 = some 8 := by kernel_rfl
theorem bCo : aS Tryz.prog 266 = true := by kernel_rfl
theorem bOa : aS Tryz.prog 265 = true := by kernel_rfl
theorem bBq : aS Tryz.prog 251 = true := by kernel_rfl
theorem bEn : aS Tryz.prog 250 = true := by kernel_rfl
theorem bBv : aS Tryz.prog 252 = true := by kernel_rfl
theorem aZs : aS Tryz.prog 199 = true := by kernel_rfl
theorem bKb : aS Tryz.prog 200 = true := by kernel_rfl
theorem aRm : aS Tryz.prog 177 = true := by kernel_rfl
theorem kW : aS Tryz.prog 152 = true := by kernel_rfl
theorem bAm : aS Tryz.prog 247 = true := by kernel_rfl
theorem bOr : aS Tryz.prog 264 = true := by kernel_rfl
theorem bLo : aS Tryz.prog 248 = true := by kernel_rfl
theorem aZq : aS Tryz.prog 249 = true := by kernel_rfl
theorem xZ : eN Tryz.prog 239 1 2 = true := by kernel_rfl
theorem xY : eN Tryz.prog 239 0 0 = true := by kernel_rfl
theorem aCe : gR Tryz.prog 239 = some [.int .i32 0, .int .i32 0, .int .i32 0, .int .i32 0] := by kernel_rfl
theorem uQ : gL Tryz.prog 239 [.int .i32 0, .int .i32 0, .int .i32 0, .int .i32 0] [(0, 2), (2, 2)] := eQ Tryz.underlying239 (by kernel_rfl) (by kernel_rfl) (by kernel_rfl)
theorem aKf : aS Tryz.prog 226 = true := by kernel_rfl
theorem aTh : fN Tryz.prog 315 239 4 16 = true := by kernel_rfl
theorem mB : jE Tryz.prog 239 = some 4 := by kernel_rfl
theorem aQv : aS Tryz.prog 175 = true := by kernel_rfl
theorem bEf : aS Tryz.prog 197 = true := by kernel_rfl
theorem bEj : aS Tryz.prog 198 = true := by kernel_rfl
theorem bMl : aS Tryz.prog 196 = true := by kernel_rfl
theorem bMc : aS Tryz.prog 174 = true := by kernel_rfl
theorem bMr : aS Tryz.prog 176 = true := by kernel_rfl
theorem aPr : aS Tryz.prog 154 = true := by kernel_rfl
theorem bKl : aS Tryz.prog 284 = true := by kernel_rfl
theorem bLq : aS Tryz.prog 278 = true := by kernel_rfl
theorem gZ : eN Tryz.prog 211 1 2 = true := by kernel_rfl
theorem bKp : aS Tryz.prog 260 = true := by kernel_rfl
theorem bOg : aS Tryz.prog 261 = true := by kernel_rfl
theorem bDk : aS Tryz.prog 262 = true := by kernel_rfl
theorem bBn : aS Tryz.prog 263 = true := by kernel_rfl
theorem qG : eN Tryz.prog 303 0 0 = true := by kernel_rfl
theorem fL : eN Tryz.prog 211 0 0 = true := by kernel_rfl
theorem aIv : aS Tryz.prog 161 = true := by kernel_rfl
theorem bLe : aS Tryz.prog 243 = true := by kernel_rfl
theorem bDa : aS Tryz.prog 244 = true := by kernel_rfl
theorem qV : eN Tryz.prog 303 1 1 = true := by kernel_rfl
theorem nW : jA Tryz.prog 260 = true := by kernel_rfl
theorem qI : eN Tryz.prog 303 2 2 = true := by kernel_rfl
theorem pQ : fN Tryz.prog 260 2 1 8 = true := by kernel_rfl
theorem bMa : aS Tryz.prog 220 = true := by kernel_rfl
theorem aHs : gL Tryz.prog 303 [.slice none 0 0, .slice none 0 0, .slice none 0 0] [(0, 1), (1, 1), (2, 1)] := eQ Tryz.underlying303 (by kernel_rfl) (by kernel_rfl) (by kernel_rfl)
theorem bBi : aS Tryz.prog 219 = true := by kernel_rfl
theorem bLf : aS Tryz.prog 186 = true := by kernel_rfl
theorem aPo : aS Tryz.prog 148 = true := by kernel_rfl
theorem bKo : aS Tryz.prog 160 = true := by kernel_rfl
theorem aDf : eN Tryz.prog 211 2 4 = true := by kernel_rfl
theorem bEo : aS Tryz.prog 190 = true := by kernel_rfl
theorem yP : jA Tryz.prog 127 = true := by kernel_rfl
theorem aDn : fN Tryz.prog 127 177 2 16 = true := by kernel_rfl
theorem aFa : eN Tryz.prog 177 0 0 = true := by kernel_rfl
theorem aFb : eN Tryz.prog 177 1 1 = true := by kernel_rfl
theorem bHl : gR Tryz.prog 177 = some [.int .i64 0, .int .i64 0] := by kernel_rfl
theorem bHh : gR Tryz.prog 127 = some [.slice none 0 0] := by kernel_rfl
theorem bBu : aS Tryz.prog 163 = true := by kernel_rfl
theorem bBy : aS Tryz.prog 162 = true := by kernel_rfl
theorem aHo : fN Tryz.prog 201 174 1 8 = true := by kernel_rfl
theorem bNh : jA Tryz.prog 174 = true := by kernel_rfl
theorem bMk : aS Tryz.prog 111 = true := by kernel_rfl
theorem aDt : aS Tryz.prog 112 = true := by kernel_rfl
theorem bOo : aS Tryz.prog 110 = true := by kernel_rfl
theorem bAv : aS Tryz.prog 109 = true := by kernel_rfl
theorem bKd : aS Tryz.prog 113 = true := by kernel_rfl
theorem bPv : aS Tryz.prog 66 = true := by kernel_rfl
theorem bPw : aS Tryz.prog 67 = true := by kernel_rfl
theorem yB : eN Tryz.prog 168 1 1 = true := by kernel_rfl
theorem qO : eN Tryz.prog 168 3 3 = true := by kernel_rfl
theorem aBx : eN Tryz.prog 58 2 2 = true := by kernel_rfl
theorem aDh : eN Tryz.prog 168 0 0 = true := by kernel_rfl
theorem bNu : aS Tryz.prog 144 = true := by kernel_rfl
theorem xT : eN Tryz.prog 168 2 2 = true := by kernel_rfl
theorem bHz : eN Tryz.prog 58 0 0 = true := by kernel_rfl
theorem aUk : eN Tryz.prog 58 1 1 = true := by kernel_rfl
theorem aRt : aS Tryz.prog 145 = true := by kernel_rfl
theorem bLy : aS Tryz.prog 146 = true := by kernel_rfl
theorem bKm : aS Tryz.prog 147 = true := by kernel_rfl
theorem aIu : gR Tryz.prog 58 = some [.int .i64 0, .int .i64 0, .bool false] := by kernel_rfl
theorem aWn : gL Tryz.prog 168 [.slice none 0 0, .slice none 0 0, .slice none 0 0, .int .i64 0, .int .i64 0, .bool false] [(0, 1), (1, 1), (2, 1), (3, 3)] := eQ Tryz.underlying168 (by kernel_rfl) (by kernel_rfl) (by kernel_rfl)
theorem aEb : zP Tryz.prog 170 4 169 1 = true := by kernel_rfl
theorem bGt : gR Tryz.prog 170 = some [.nilFunc, .nilFunc, .nilFunc, .nilFunc] := by kernel_rfl
theorem aJz : jA Tryz.prog 169 = true := by kernel_rfl
theorem bLh : aS Tryz.prog 105 = true := by kernel_rfl
theorem bKw : aS Tryz.prog 106 = true := by kernel_rfl
theorem bMm : aS Tryz.prog 107 = true := by kernel_rfl
theorem bNs : aS Tryz.prog 108 = true := by kernel_rfl
theorem zV : jE Tryz.prog 58 = some 3 := by kernel_rfl
theorem bRh : aS Tryz.prog 65 = true := by kernel_rfl
theorem bKc : aS Tryz.prog 227 = true := by kernel_rfl
theorem aYh : aS Tryz.prog 228 = true := by kernel_rfl
theorem bBa : aS Tryz.prog 201 = true := by kernel_rfl
theorem aJy : aS Tryz.prog 202 = true := by kernel_rfl
theorem bAb : aS Tryz.prog 178 = true := by kernel_rfl
theorem wC : aS Tryz.prog 153 = true := by kernel_rfl
theorem bMi : aS Tryz.prog 155 = true := by kernel_rfl
theorem bOb : aS Tryz.prog 179 = true := by kernel_rfl
theorem bHo : gR Tryz.prog 214 = some [.int .i64 0, .int .i64 0] := by kernel_rfl
theorem bAq : aS Tryz.prog 156 = true := by kernel_rfl
theorem kZ : eN Tryz.prog 214 0 0 = true := by kernel_rfl
theorem lA : eN Tryz.prog 214 1 1 = true := by kernel_rfl
theorem bKt : jE Tryz.prog 214 = some 2 := by kernel_rfl
theorem aGv : fN Tryz.prog 189 214 2 16 = true := by kernel_rfl
theorem bKx : aS Tryz.prog 128 = true := by kernel_rfl
theorem bKq : aS Tryz.prog 129 = true := by kernel_rfl
theorem bMp : aS Tryz.prog 130 = true := by kernel_rfl
theorem bLj : aS Tryz.prog 132 = true := by kernel_rfl
theorem bOd : aS Tryz.prog 131 = true := by kernel_rfl
theorem gP : fN Tryz.prog 31 5 1 1 = true := by kernel_rfl
theorem aJf : gR Tryz.prog 139 = some [.int .u32 0, .int .u32 0, .int .u32 0, .int .u32 0, .int .u32 0, .int .u32 0, .int .u32 0, .int .u32 0, .int .u32 0, .int .u32 0] := by kernel_rfl
theorem iN : zP Tryz.prog 139 10 35 1 = true := by kernel_rfl
theorem rN : aS Tryz.prog 136 = true := by kernel_rfl
theorem aRu : jE Tryz.prog 139 = some 10 := by kernel_rfl
theorem aGp : jA Tryz.prog 5 = true := by kernel_rfl
theorem us5 : (Tryz.prog.underlying 5).isSome = true := by kernel_rfl
theorem aPf : aS Tryz.prog 118 = true := by kernel_rfl
theorem bJe : aS Tryz.prog 82 = true := by kernel_rfl
theorem bAu : aS Tryz.prog 100 = true := by kernel_rfl
theorem bMn : aS Tryz.prog 101 = true := by kernel_rfl
theorem sV : aS Tryz.prog 79 = true := by kernel_rfl
theorem tU : aS Tryz.prog 80 = true := by kernel_rfl
theorem bPq : aS Tryz.prog 81 = true := by kernel_rfl
theorem aPj : aS Tryz.prog 133 = true := by kernel_rfl
theorem tV : aS Tryz.prog 59 = true := by kernel_rfl
theorem rI : aS Tryz.prog 134 = true := by kernel_rfl
theorem bKf : aS Tryz.prog 135 = true := by kernel_rfl
theorem tR : eN Tryz.prog 107 0 0 = true := by kernel_rfl
theorem bCx : aS Tryz.prog 60 = true := by kernel_rfl
theorem qL : eN Tryz.prog 105 0 0 = true := by kernel_rfl
theorem bJv : aS Tryz.prog 61 = true := by kernel_rfl
theorem bKr : aS Tryz.prog 122 = true := by kernel_rfl
theorem bLi : aS Tryz.prog 117 = true := by kernel_rfl
theorem bRn : aS Tryz.prog 68 = true := by kernel_rfl
theorem bJp : aS Tryz.prog 38 = true := by kernel_rfl
theorem bPx : aS Tryz.prog 58 = true := by kernel_rfl
theorem bQm : aS Tryz.prog 69 = true := by kernel_rfl
theorem bNi : aS Tryz.prog 124 = true := by kernel_rfl
theorem bOt : aS Tryz.prog 125 = true := by kernel_rfl
theorem aXr : gL Tryz.prog 105 [.slice none 0 0, .map none] [(0, 2)] := eQ Tryz.underlying105 (by kernel_rfl) (by kernel_rfl) (by kernel_rfl)
theorem bMq : jE Tryz.prog 105 = some 2 := by kernel_rfl
theorem bIy : aS Tryz.prog 78 = true := by kernel_rfl
theorem bQs : aS Tryz.prog 54 = true := by kernel_rfl
theorem bAa : aS Tryz.prog 127 = true := by kernel_rfl
theorem aKm : gR Tryz.prog 112 = some [.slice none 0 0, .int .i64 0, .int .u32 0, .int .i32 0, .int .i32 0, .int .i32 0, .int .i32 0, .int .i32 0, .int .i32 0, .int .i32 0, .int .i32 0, .int .i32 0, .slice none 0 0, .int .i64 0, .bool false] := by kernel_rfl
theorem aXb : gL Tryz.prog 112 [.slice none 0 0, .int .i64 0, .int .u32 0, .int .i32 0, .int .i32 0, .int .i32 0, .int .i32 0, .int .i32 0, .int .i32 0, .int .i32 0, .int .i32 0, .int .i32 0, .slice none 0 0, .int .i64 0, .bool false] [(0, 1), (1, 1), (2, 10), (12, 1), (13, 1), (14, 1)] := eQ Tryz.underlying112 (by kernel_rfl) (by kernel_rfl) (by kernel_rfl)
theorem fP : jE Tryz.prog 112 = some 15 := by kernel_rfl
theorem aYu : eN Tryz.prog 114 0 0 = true := by kernel_rfl
theorem bDn : eN Tryz.prog 114 1 1 = true := by kernel_rfl
theorem qN : eN Tryz.prog 112 0 0 = true := by kernel_rfl
theorem qJ : eN Tryz.prog 112 1 1 = true := by kernel_rfl
theorem aEu : eN Tryz.prog 114 2 11 = true := by kernel_rfl
theorem bPh : aS Tryz.prog 95 = true := by kernel_rfl
theorem bDd : eN Tryz.prog 114 3 12 = true := by kernel_rfl
theorem bQz : aS Tryz.prog 96 = true := by kernel_rfl
theorem bPt : aS Tryz.prog 97 = true := by kernel_rfl
theorem aNe : eN Tryz.prog 112 4 13 = true := by kernel_rfl
theorem aNi : eN Tryz.prog 112 5 14 = true := by kernel_rfl
theorem bPs : aS Tryz.prog 25 = true := by kernel_rfl
theorem aOc : eN Tryz.prog 112 3 12 = true := by kernel_rfl
theorem tY : jA Tryz.prog 31 = true := by kernel_rfl
theorem bEa : eN Tryz.prog 114 4 14 = true := by kernel_rfl
theorem bPd : aS Tryz.prog 98 = true := by kernel_rfl
theorem bDi : eN Tryz.prog 112 2 2 = true := by kernel_rfl
theorem bHk : eN Tryz.prog 41 1 1 = true := by kernel_rfl
theorem aTc : eN Tryz.prog 41 2 11 = true := by kernel_rfl
theorem bHb : eN Tryz.prog 41 4 14 = true := by kernel_rfl
theorem bQw : aS Tryz.prog 83 = true := by kernel_rfl
theorem mR : yT Tryz.prog 109 3 34 .i64 = true := by kernel_rfl
theorem bRo : aS Tryz.prog 85 = true := by kernel_rfl
theorem bPf : aS Tryz.prog 88 = true := by kernel_rfl
theorem mN : gR Tryz.prog 33 = some [.int .i64 0, .slice none 0 0, .int .i64 0, .bool false] := by kernel_rfl
theorem bEt : jA Tryz.prog 143 = true := by kernel_rfl
theorem bNf : jA Tryz.prog 144 = true := by kernel_rfl
theorem pO : jE Tryz.prog 41 = some 15 := by kernel_rfl
theorem oX : gL Tryz.prog 33 [.int .i64 0, .slice none 0 0, .int .i64 0, .bool false] [(0, 1), (1, 1), (2, 1), (3, 1)] := eQ Tryz.underlying33 (by kernel_rfl) (by kernel_rfl) (by kernel_rfl)
theorem bQb : aS Tryz.prog 84 = true := by kernel_rfl
theorem bQq : aS Tryz.prog 26 = true := by kernel_rfl
theorem iL : jE Tryz.prog 33 = some 4 := by kernel_rfl
theorem bDo : jA Tryz.prog 146 = true := by kernel_rfl
theorem bKa : jA Tryz.prog 148 = true := by kernel_rfl
theorem bRa : aS Tryz.prog 87 = true := by kernel_rfl
theorem bQt : aS Tryz.prog 86 = true := by kernel_rfl
theorem bEm : jA Tryz.prog 150 = true := by kernel_rfl
theorem bMs : jA Tryz.prog 151 = true := by kernel_rfl
theorem bPu : aS Tryz.prog 89 = true := by kernel_rfl
theorem bQy : aS Tryz.prog 74 = true := by kernel_rfl
theorem bGc : eN Tryz.prog 41 3 12 = true := by kernel_rfl
theorem bRe : aS Tryz.prog 91 = true := by kernel_rfl
theorem bRb : aS Tryz.prog 53 = true := by kernel_rfl
theorem bQg : aS Tryz.prog 24 = true := by kernel_rfl
theorem rW : eN Tryz.prog 41 0 0 = true := by kernel_rfl
theorem aFn : aS Tryz.prog 55 = true := by kernel_rfl
theorem aPh : lX Tryz.prog 34 = some (.nilFunc) := by kernel_rfl
theorem bMt : aS Tryz.prog 120 = true := by kernel_rfl
theorem bLx : aS Tryz.prog 121 = true := by kernel_rfl
theorem bLl : aS Tryz.prog 123 = true := by kernel_rfl
theorem bQx : aS Tryz.prog 90 = true := by kernel_rfl
theorem bPo : aS Tryz.prog 92 = true := by kernel_rfl
theorem bRd : aS Tryz.prog 93 = true := by kernel_rfl
theorem bFr : fN Tryz.prog 27 41 15 88 = true := by kernel_rfl
theorem bBp : gR Tryz.prog 41 = some [.int .i64 0, .int .u32 0, .int .i32 0, .int .i32 0, .int .i32 0, .int .i32 0, .int .i32 0, .int .i32 0, .int .i32 0, .int .i32 0, .int .i32 0, .int .u32 0, .int .i32 0, .int .i32 0, .slice none 0 0] := by kernel_rfl
theorem bPk : aS Tryz.prog 20 = true := by kernel_rfl
theorem aCz : fN Tryz.prog 63 33 4 48 = true := by kernel_rfl
theorem bEy : gR Tryz.prog 107 = some [.slice none 0 0, .map none] := by kernel_rfl
theorem aNd : aS Tryz.prog 33 = true := by kernel_rfl
theorem aGl : fN Tryz.prog 22 46 15 88 = true := by kernel_rfl
theorem aIz : eN Tryz.prog 46 4 14 = true := by kernel_rfl
theorem xO : eN Tryz.prog 46 0 0 = true := by kernel_rfl
theorem aYz : gR Tryz.prog 43 = some [.int .i64 0, .slice none 0 0, .int .i64 0, .bool false] := by kernel_rfl
theorem sU : gL Tryz.prog 43 [.int .i64 0, .slice none 0 0, .int .i64 0, .bool false] [(0, 1), (1, 1), (2, 1), (3, 1)] := eQ Tryz.underlying43 (by kernel_rfl) (by kernel_rfl) (by kernel_rfl)
theorem sG : jE Tryz.prog 43 = some 4 := by kernel_rfl
theorem aSk : eN Tryz.prog 46 1 1 = true := by kernel_rfl
theorem aTg : eN Tryz.prog 46 2 11 = true := by kernel_rfl
theorem aSw : eN Tryz.prog 46 3 12 = true := by kernel_rfl
theorem aWh : gL Tryz.prog 114 [.int .i64 0, .int .u32 0, .int .i32 0, .int .i32 0, .int .i32 0, .int .i32 0, .int .i32 0, .int .i32 0, .int .i32 0, .int .i32 0, .int .i32 0, .int .u32 0, .int .i32 0, .int .i32 0, .slice none 0 0] [(0, 1), (1, 10), (11, 1), (12, 2), (14, 1)] := eQ Tryz.underlying114 (by kernel_rfl) (by kernel_rfl) (by kernel_rfl)
theorem bPy : aS Tryz.prog 56 = true := by kernel_rfl
theorem bJu : jE Tryz.prog 46 = some 15 := by kernel_rfl
theorem bQr : aS Tryz.prog 21 = true := by kernel_rfl
theorem bEi : fN Tryz.prog 65 43 4 48 = true := by kernel_rfl
theorem aTd : eN Tryz.prog 43 0 0 = true := by kernel_rfl
theorem aUe : eN Tryz.prog 43 1 1 = true := by kernel_rfl
theorem bPj : aS Tryz.prog 23 = true := by kernel_rfl
theorem aSe : eN Tryz.prog 43 2 2 = true := by kernel_rfl
theorem aUj : eN Tryz.prog 43 3 3 = true := by kernel_rfl
theorem xL : eN Tryz.prog 33 0 0 = true := by kernel_rfl
theorem aTt : eN Tryz.prog 33 1 1 = true := by kernel_rfl
theorem bFa : eN Tryz.prog 33 2 2 = true := by kernel_rfl
theorem bIe : eN Tryz.prog 33 3 3 = true := by kernel_rfl
theorem bQo : aS Tryz.prog 57 = true := by kernel_rfl
theorem qY : gL Tryz.prog 41 [.int .i64 0, .int .u32 0, .int .i32 0, .int .i32 0, .int .i32 0, .int .i32 0, .int .i32 0, .int .i32 0, .int .i32 0, .int .i32 0, .int .i32 0, .int .u32 0, .int .i32 0, .int .i32 0, .slice none 0 0] [(0, 1), (1, 10), (11, 1), (12, 2), (14, 1)] := eQ Tryz.underlying41 (by kernel_rfl) (by kernel_rfl) (by kernel_rfl)
theorem bQi : aS Tryz.prog 39 = true := by kernel_rfl
theorem bAn : aS Tryz.prog 18 = true := by kernel_rfl
theorem aSn : aS Tryz.prog 36 = true := by kernel_rfl
theorem bJb : aS Tryz.prog 32 = true := by kernel_rfl
theorem bQk : aS Tryz.prog 17 = true := by kernel_rfl
theorem aSc : aS Tryz.prog 34 = true := by kernel_rfl
theorem bRk : aS Tryz.prog 35 = true := by kernel_rfl
end Go.Proofs.YtaoaknafiegfoaaGreatDoor

namespace Go.Proofs.YtaoaknafiegfoaaGreatDoor
open Go.Bil
open Go.RowKit (Below)
open Go.Proofs
set_option maxHeartbeats 4000000 in
theorem qQ (w : World) (n l : Int) (h0 : 0 ≤ l) (h1 : l ≤ 2147483647) :
  Calls Tryz.prog 62 #[.int .i32 n, .int .i32 l] w (fun ex w' => ∃ v, ex = .returned v ∧ (fun v w' => v = .bool (decide (vS n l)) ∧ Below w.heap.size w w') v w') := by
 have hneg : IntKind.i32.wrap (-l) = -l := jC _ (by omega) (by omega)
 refine aI #[.tmp 4] 14 Tryz.func62 rfl Tryz.results62 Tryz.ntmps62 rfl ?_
 have M0 := Mem.refl w
 refine aE (aA (wq (aJ (.bool false) rfl) rfl (aB (aC (aE (aA (aP rfl rfl (aP rfl rfl (wq (qZ rfl) rfl ?_)))))))))
 refine aK 7 (.int .i32 (-l)) (iE hneg) (cY rfl rfl rfl rfl (wq (aH (.bool (decide _)) rfl) rfl ?_))
 refine dN 9 rfl (fun g9 => ?_) (fun g9 => ?_)
 ·refine aP rfl rfl (aP rfl rfl (cY rfl rfl rfl rfl (wq (bQ true (.bool (decide _)) rfl rfl) rfl (wq (aJ (.bool (decide _)) rfl) rfl (aB (aC (aO ?_)))))))
  refine cG (.bool (decide _)) rfl ?_
  exact ⟨by unfold vS; first | exact bF (by omega) | exact bD (by omega), M0.below⟩
 ·refine aN rfl rfl (aN rfl rfl (aN rfl rfl (wq (bQ false (.bool false) rfl rfl) rfl (wq (aJ (.bool false) rfl) rfl (aB (aC (aO ?_)))))))
  refine cG (.bool false) rfl ?_
  exact ⟨by unfold vS; first | exact bF (by omega) | exact bD (by omega), M0.below⟩
set_option maxHeartbeats 4000000 in
theorem aAh (w : World) (b : Body) :
  Calls Tryz.prog 27 #[(.agg (aF b).toArray)] w (fun ex w' => ∃ v, ex = .returned v ∧ (fun v w' => v = .int .i64 (check b) ∧ Below w.heap.size w w') v w') := by
 refine aI #[.tmp 2] 63 Tryz.func27 rfl Tryz.results27 Tryz.ntmps27 rfl ?_
 have M0 := Mem.refl w
 refine aE (aA (bJ (.agg (List.toArray _)) M0 rfl rfl rfl (fun b1 w1 M1 => (bH rfl rfl (aB (aC (aE (aE (aA (wq (aD 1 lH rfl) rfl (wq (aM 0 (.int _ _) aV M1 rfl rfl rfl) rfl ?_)))))))))))
 refine cY rfl rfl rfl rfl (wq (aH (.bool (decide _)) rfl) rfl ?_)
 refine dN 6 rfl (fun g6 => ?_) (fun g6 => ?_)
 ·refine aN rfl rfl (aN rfl rfl (aN rfl rfl (wq (bQ true (.bool true) rfl rfl) rfl (aB (aC (cE rfl ?_))))))
  refine aE (aA (bH rfl rfl (aB (aC (aO (cO (cG (.int _ _) rfl ?_)))))))
  exact ⟨iE (by unfold check; unfold vS at *; (repeat' split) <;> omega), M1.below⟩
 ·refine wq (aD 1 lH rfl) rfl (wq (aM 0 (.int _ _) aV M1 rfl rfl rfl) rfl (cY rfl rfl rfl rfl (wq (bQ false (.bool (decide _)) rfl rfl) rfl (aB (aC ?_)))))
  refine aW rfl (fun h10 => ?_) (fun h10 => ?_)
  ·refine aE (aA (bH rfl rfl (aB (aC (aO (cO (cG (.int _ _) rfl ?_)))))))
   exact ⟨iE (by unfold check; unfold vS at *; (repeat' split) <;> omega), M1.below⟩
  ·refine aL (aC (aE (aE (aA (wq (aD 2 iR rfl) rfl (wq (aD 0 cS rfl) rfl (wq (aM 0 (.int _ _) aV M1 rfl rfl rfl) rfl (bY aIj rfl rfl (qQ _ _ _ (by omega) (by omega)) ?_))))))))
   rintro v2 w2 ⟨rfl, hb2⟩
   have M2 := M1.callB hb2
   refine wq (oO rfl) rfl (wq (aH (.bool (decide _)) rfl) rfl ?_)
   refine dN 16 rfl (fun g16 => ?_) (fun g16 => ?_)
   ·refine aN rfl rfl (aN rfl rfl (aN rfl rfl (aN rfl rfl (aN rfl rfl (wq (bQ true (.bool true) rfl rfl) rfl ?_)))))
    refine aB (aC (cE rfl (aE (aA (bH rfl rfl (aB (aC (aO (cO (cG (.int _ _) rfl ?_))))))))))
    exact ⟨iE (by unfold check; unfold vS at *; (repeat' split) <;> omega), M2.below⟩
   ·refine wq (aD 2 iR rfl) rfl (wq (aD 1 cN rfl) rfl (wq (aM 0 (.int _ _) aV M2 rfl rfl rfl) rfl (bY aIj rfl rfl (qQ _ _ _ (by omega) (by omega)) ?_)))
    rintro v3 w3 ⟨rfl, hb3⟩
    have M3 := M2.callB hb3
    refine wq (oO rfl) rfl (wq (bQ false (.bool (decide _)) rfl rfl) rfl (aB (aC ?_)))
    refine aW rfl (fun h22 => ?_) (fun h22 => ?_)
    ·refine aE (aA (bH rfl rfl (aB (aC (aO (cO (cG (.int _ _) rfl ?_)))))))
     exact ⟨iE (by unfold check; unfold vS at *; (repeat' split) <;> omega), M3.below⟩
    ·refine aL (aC (aE (aE (aA (wq (aD 4 eG rfl) rfl (wq (aM 0 (.int _ _) aV M3 rfl rfl rfl) rfl (cY rfl rfl rfl rfl (wq (aH (.bool (decide _)) rfl) rfl ?_))))))))
     refine dN 26 rfl (fun g26 => ?_) (fun g26 => ?_)
     ·refine aN rfl rfl (aN rfl rfl (aN rfl rfl (wq (bQ true (.bool true) rfl rfl) rfl (aB (aC (cE rfl ?_))))))
      refine aE (aA (bH rfl rfl (aB (aC (aO (cO (cG (.int _ _) rfl ?_)))))))
      exact ⟨iE (by unfold check; unfold vS at *; (repeat' split) <;> omega), M3.below⟩
     ·refine wq (aD 4 eG rfl) rfl (wq (aM 0 (.int _ _) aV M3 rfl rfl rfl) rfl (cY rfl rfl rfl rfl (wq (bQ false (.bool (decide _)) rfl rfl) rfl (aB (aC ?_)))))
      refine aW rfl (fun h30 => ?_) (fun h30 => ?_)
      ·refine aE (aA (bH rfl rfl (aB (aC (aO (cO (cG (.int _ _) rfl ?_)))))))
       exact ⟨iE (by unfold check; unfold vS at *; (repeat' split) <;> omega), M3.below⟩
      ·refine aL (aC (aE (aE (aA (wq (aD 5 nB rfl) rfl (wq (aM 0 (.int _ _) aV M3 rfl rfl rfl) rfl (cY rfl rfl rfl rfl (wq (aH (.bool (decide _)) rfl) rfl ?_))))))))
       refine dN 34 rfl (fun g34 => ?_) (fun g34 => ?_)
       ·refine aN rfl rfl (aN rfl rfl (aN rfl rfl (wq (bQ true (.bool true) rfl rfl) rfl (aB (aC (cE rfl ?_))))))
        refine aE (aA (bH rfl rfl (aB (aC (aO (cO (cG (.int _ _) rfl ?_)))))))
        exact ⟨iE (by unfold check; unfold vS at *; (repeat' split) <;> omega), M3.below⟩
       ·refine wq (aD 5 nB rfl) rfl (wq (aM 0 (.int _ _) aV M3 rfl rfl rfl) rfl (cY rfl rfl rfl rfl (wq (bQ false (.bool (decide _)) rfl rfl) rfl (aB (aC ?_)))))
        refine aW rfl (fun h38 => ?_) (fun h38 => ?_)
        ·refine aE (aA (bH rfl rfl (aB (aC (aO (cO (cG (.int _ _) rfl ?_)))))))
         exact ⟨iE (by unfold check; unfold vS at *; (repeat' split) <;> omega), M3.below⟩
        ·refine aL (aC (aE (aE (aA (wq (aD 6 fK rfl) rfl (wq (aD 0 cS rfl) rfl (wq (aM 0 (.int _ _) aV M3 rfl rfl rfl) rfl (bY aIj rfl rfl (qQ _ _ _ (by omega) (by omega)) ?_))))))))
         rintro v4 w4 ⟨rfl, hb4⟩
         have M4 := M3.callB hb4
         refine wq (oO rfl) rfl (wq (aH (.bool (decide _)) rfl) rfl ?_)
         refine dN 44 rfl (fun g44 => ?_) (fun g44 => ?_)
         ·refine aN rfl rfl (aN rfl rfl (aN rfl rfl (aN rfl rfl (aN rfl rfl (wq (bQ true (.bool true) rfl rfl) rfl ?_)))))
          refine aB (aC (cE rfl (aE (aA (bH rfl rfl (aB (aC (aO (cO (cG (.int _ _) rfl ?_))))))))))
          exact ⟨iE (by unfold check; unfold vS at *; (repeat' split) <;> omega), M4.below⟩
         ·refine wq (aD 6 fK rfl) rfl (wq (aD 1 cN rfl) rfl (wq (aM 0 (.int _ _) aV M4 rfl rfl rfl) rfl (bY aIj rfl rfl (qQ _ _ _ (by omega) (by omega)) ?_)))
          rintro v5 w5 ⟨rfl, hb5⟩
          have M5 := M4.callB hb5
          refine wq (oO rfl) rfl (wq (bQ false (.bool (decide _)) rfl rfl) rfl (aB (aC ?_)))
          refine aW rfl (fun h50 => ?_) (fun h50 => ?_)
          ·refine aE (aA (bH rfl rfl (aB (aC (aO (cO (cG (.int _ _) rfl ?_)))))))
           exact ⟨iE (by unfold check; unfold vS at *; (repeat' split) <;> omega), M5.below⟩
          ·refine aL (aC (aE (aE (aA (wq (aD 8 dW rfl) rfl (wq (aD 0 cS rfl) rfl (wq (aM 0 (.int _ _) aV M5 rfl rfl rfl) rfl (bY aIj rfl rfl (qQ _ _ _ (by omega) (by omega)) ?_))))))))
           rintro v6 w6 ⟨rfl, hb6⟩
           have M6 := M5.callB hb6
           refine wq (oO rfl) rfl (wq (aH (.bool (decide _)) rfl) rfl ?_)
           refine dN 56 rfl (fun g56 => ?_) (fun g56 => ?_)
           ·refine aN rfl rfl (aN rfl rfl (aN rfl rfl (aN rfl rfl (aN rfl rfl (wq (bQ true (.bool true) rfl rfl) rfl ?_)))))
            refine aB (aC (cE rfl (aE (aA (bH rfl rfl (aB (aC (aO (cO (cG (.int _ _) rfl ?_))))))))))
            exact ⟨iE (by unfold check; unfold vS at *; (repeat' split) <;> omega), M6.below⟩
           ·refine wq (aD 8 dW rfl) rfl (wq (aD 1 cN rfl) rfl (wq (aM 0 (.int _ _) aV M6 rfl rfl rfl) rfl (bY aIj rfl rfl (qQ _ _ _ (by omega) (by omega)) ?_)))
            rintro v7 w7 ⟨rfl, hb7⟩
            have M7 := M6.callB hb7
            refine wq (oO rfl) rfl (wq (bQ false (.bool (decide _)) rfl rfl) rfl (aB (aC ?_)))
            refine aW rfl (fun h62 => ?_) (fun h62 => ?_)
            ·refine aE (aA (bH rfl rfl (aB (aC (aO (cO (cG (.int _ _) rfl ?_)))))))
             exact ⟨iE (by unfold check; unfold vS at *; (repeat' split) <;> omega), M7.below⟩
            ·refine aL (aC (aE (aA (bH rfl rfl (aB (aC (aO (cG (.int _ _) rfl ?_))))))))
             exact ⟨iE (by unfold check; unfold vS at *; (repeat' split) <;> omega), M7.below⟩
set_option maxHeartbeats 4000000 in
theorem gS (w : World) (key : Int) (A : Option Addr) (n c : Nat) (xs : List Body) (R : Rd w 10 A n (xs.map aF)) :
  Calls Tryz.prog 99 #[.slice A n c, .int .u32 key] w (fun ex w' => ∃ v, ex = .returned v ∧ (fun v w' => v = .int .i64 (dJ key xs) ∧ Below w.heap.size w w') v w') := by
 have hlen : xs.length = n := by simpa using R.len
 have hbd := R.bound
 refine aI #[.tmp 4] 20 Tryz.func99 rfl Tryz.results99 Tryz.ntmps99 rfl ?_
 have M0 := Mem.refl w
 refine aE (aA (bH rfl rfl (aB (aC (aE (aE (aA (bH rfl rfl (aB (aC (aQ (dS (σ := Nat) [0, 1] (fun k => [(5, .int .i64 (k : Int))]) (fun k w' => (k ≤ n ∧ ∀ (j : Nat) (c : Body), j < k → xs[j]? = some c → c.key ≠ key) ∧ Mem w [] [] w') (fun k => n - k) 0 (bB rfl dZ) (⟨⟨by omega, fun j c hj => by omega⟩, M0⟩) ?_))))))))))))
 rintro k ρ1 w1 ⟨⟨hk, hne⟩, hM1⟩
 refine aE (aE (aA (aP rfl rfl (dH rfl rfl (wq (cZ Tryz.underlying29 rfl) rfl (cY rfl rfl rfl rfl (aB (aC ?_))))))))
 refine aW rfl (fun h9 => ?_) (fun h9 => ?_)
 ·obtain ⟨xb, hxb⟩ := cV (k := k) hlen (by omega)
  refine aL (aC (aE (aQ (aE (aA (dH rfl rfl (aP rfl rfl (wq (bO (k) dK rfl rfl rfl ((R.mem hM1).below_len (aG aF hxb)) ((R.mem hM1).someK (aG aF hxb))) rfl (wq (bG 0 dM (R.mem hM1) (Nat.lt_of_le_of_lt (Nat.zero_le _) ((R.mem hM1).below_len (aG aF hxb))) rfl) rfl ?_)))))))))
  refine wq (dX (o := 0) (.int _ _) bW (R.mem hM1) (aG aF hxb) rfl rfl) rfl (aP rfl rfl (cY rfl rfl rfl rfl (aB (aC ?_))))
  refine aW rfl (fun h18 => ?_) (fun h18 => ?_)
  ·refine aE (aA (aP rfl rfl (bH rfl rfl (aB (aC (aO (lD (cO ?_))))))))
   refine tS (lD (cO (cG (.int _ _) rfl ?_)))
   exact ⟨iE (yJ hxb h18 hne).symm, hM1.below⟩
  ·refine aL (cT (aC (aA (aP rfl rfl (wq (aY rfl rfl (by omega) (by omega)) rfl (bH rfl rfl ?_))))))
   refine aB ?_
   refine cD (k + 1) (bB rfl dZ) (cK rfl (cK rfl gW)) ?_ ?_
   ·exact ⟨⟨by omega, rF hne hxb h18⟩, hM1⟩
   ·omega
 ·refine cW (dE (dL (eS (aC (aE (aA (bH rfl rfl ?_)))))))
  refine aB (aC (aO (cG (.int _ _) rfl ?_)))
  have hkn : k = n := by omega
  exact ⟨iE (aHy (fun j b hj => hne j b (by have := (List.getElem?_eq_some_iff.1 hj).1; omega) hj)).symm, hM1.below⟩
set_option maxHeartbeats 4000000 in
theorem uF (w : World) (b : Body) (gone : Bool) (A : Option Addr) (n c : Nat) (xs : List Body) (R : Rd w 10 A n (xs.map aF)) (hn : n ≤ 1048576) :
  Calls Tryz.prog 126 #[.slice A n c, (.agg (aF b).toArray), .bool gone] w (fun ex w' => ∃ v, ex = .returned v ∧ (fun v w' => ∃ A' n' c' e, v = .slice A' n' c' ∧ bC 39 10 A' n' c' ((wE xs b gone).map aF) e ∧ Mem w [] [e] w') v w') := by
 have hlen : xs.length = n := by simpa using R.len
 have hbd := R.bound
 refine aI #[.tmp 6] 55 Tryz.func126 rfl Tryz.results126 Tryz.ntmps126 rfl ?_
 have M0 := Mem.refl w
 refine aE (aA (bJ (.agg (List.toArray _)) M0 rfl rfl rfl (fun b1 w1 M1 => (eI rfl rfl (aB (aC (aE (aA (eI rfl rfl ?_)))))))))
 have M2 := M1.dummy default
 refine aB (aC (aE (aA (wq (aH (.bool _) rfl) rfl (wq (aJ (.bool _) rfl) rfl (aB (aC (aE (aE (aA (bH rfl rfl (aB (aC (aQ ?_))))))))))))))
 refine dS (σ := Nat × List Body × Bool × Row) [0, 4, 6] (fun (k, acc, done, r) => [(7, .slice r.A r.n r.c), (8, .bool done), (9, .int .i64 (k : Int))]) (fun (k, acc, done, r) w' => (k ≤ n ∧ jL b gone (xs.take k) = (acc, done) ∧ bC 39 10 r.A r.n r.c (acc.map aF) r.e) ∧ Mem w [] [(some b1, bc (aF b) 39), r.e] w') (fun (k, acc, done, r) => n - k) (0, [], gone, ⟨none, 0, 0, (none, default)⟩) (bB rfl (bB rfl (bB rfl dZ))) (⟨⟨by omega, rfl, bC.nil _ _ _⟩, M2⟩) ?_
 rintro ⟨k, acc, done, r⟩ ρ3 w3 ⟨⟨hk, heq, hr⟩, hM3⟩
 have hra : acc.length = r.n := by simpa using hr.1
 have hrl : acc.length ≤ k + 1 := by have h := aPm b gone xs k; rw [heq] at h; exact h
 refine aE (aE (aA (aP rfl rfl (dH rfl rfl (wq (cZ Tryz.underlying29 rfl) rfl (cY rfl rfl rfl rfl (aB (aC ?_))))))))
 refine aW rfl (fun h14 => ?_) (fun h14 => ?_)
 ·obtain ⟨xb, hxb⟩ := cV (k := k) hlen (by omega)
  refine aL (aC (aE (aQ (aE (aE (bR [(0, 0), (1, 0), (2, 0), (3, 0), (4, 0), (5, 1), (6, 1), (7, 1), (8, 0), (9, 1), (10, 0), (11, 0)] mixed rfl (by kernel_rfl) (fun w4 hb4 hh4 => ?_)))))))
  have M4 := hM3.drew hb4 hh4
  refine aU rfl rfl rfl (fun _ => aH (.bool _) rfl) (aU rfl rfl rfl (fun _ => gI _ rfl rfl) (aU rfl rfl rfl (fun _ => aH (.bool _) rfl) ?_))
  refine aTj 19 _ rfl (fun g19 => ?_) (fun g19 => ?_)
  ·have hd : done = false := by simpa using g19
   refine kN rfl rfl rfl (eB rfl rfl rfl (bS rfl rfl rfl (bO (k) dK rfl rfl rfl ((R.mem M4).below_len (aG aF hxb)) ((R.mem M4).someK (aG aF hxb))) (bS rfl rfl rfl (bG 0 dM (R.mem M4) (Nat.lt_of_le_of_lt (Nat.zero_le _) ((R.mem M4).below_len (aG aF hxb))) rfl) ?_)))
   refine bS rfl rfl rfl (dX (o := 0) (.int _ _) bW (R.mem M4) (aG aF hxb) rfl rfl) (aU rfl rfl rfl (fun _ => aD 0 dM rfl) (bS rfl rfl rfl (aM 0 (.int _ _) bW M4 rfl rfl rfl) (aU rfl rfl rfl (fun _ => cA (.bool (decide _)) rfl rfl rfl) (aU rfl rfl rfl (fun _ => bQ true (.bool (decide _)) rfl rfl) ?_))))
   refine bX (aC ?_)
   refine aW rfl (fun h28 => ?_) (fun h28 => ?_)
   ·refine aE (aA (wq (aJ (.bool true) rfl) rfl (aB (aC (aA (dH rfl rfl (wq (aX 0 bP M4 rfl rfl rfl) rfl (cR [.agg (List.toArray _)] _ rfl dK M4 rfl rfl rfl rfl (dD rfl) (by decide) (fun b5 w5 M5 => ?_)))))))))
    refine dG 1 [aF b] dK M5 rfl rfl rfl rfl rfl hr rfl (by simpa using ⟨iB b, iC b⟩) (dV.ofMem 2 M5 rfl) (by omega) (fun A6 c6 e6 w6 M6 hR6 => (eI rfl rfl (aB (aC (aE (bR [(0, 0), (1, 0), (2, 1), (3, 1), (4, 1), (5, 0), (6, 1), (7, 0)] mixed rfl (by kernel_rfl) (fun w7 hb7 hh7 => ?_)))))))
    have M7 := M6.drew hb7 hh7
    refine kN rfl rfl rfl (eB rfl rfl rfl (bS rfl rfl rfl (bO (k) dK rfl rfl rfl ((R.mem M7).below_len (aG aF hxb)) ((R.mem M7).someK (aG aF hxb))) (bS rfl rfl rfl (bG 0 dM (R.mem M7) (Nat.lt_of_le_of_lt (Nat.zero_le _) ((R.mem M7).below_len (aG aF hxb))) rfl) ?_)))
    refine bS rfl rfl rfl (dX (o := 0) (.int _ _) bW (R.mem M7) (aG aF hxb) rfl rfl) (aU rfl rfl rfl (fun _ => aD 0 dM rfl) (bS rfl rfl rfl (aM 0 (.int _ _) bW M7 rfl rfl rfl) (aU rfl rfl rfl (fun _ => cA (.bool (decide _)) rfl rfl rfl) (bX (aC ?_)))))
    refine aW rfl (fun h40 => ?_) (fun h40 => ?_)
    ·refine aA (dH rfl rfl (dH rfl rfl (aP rfl rfl (wq (bO (k) dK rfl rfl rfl ((R.mem M7).below_len (aG aF hxb)) ((R.mem M7).someK (aG aF hxb))) rfl (wq (dI _ bP (R.mem M7) (aG aF hxb) rfl) rfl ?_)))))
     refine cR [.agg (List.toArray _)] _ rfl dK M7 rfl rfl rfl rfl (dD rfl) (by decide) (fun b8 w8 M8 => (dG 1 [aF xb] dK M8 rfl rfl rfl rfl rfl hR6 rfl (by simpa using ⟨iB xb, iC xb⟩) (dV.ofMem 3 M8 rfl) (by omega) (fun A9 c9 e9 w9 M9 hR9 => (eI rfl rfl (aB ?_)))))
     refine cT (aC (aA (aP rfl rfl (wq (aY rfl rfl (by omega) (by omega)) rfl (bH rfl rfl (aB ?_))))))
     refine cD (k + 1, (jL b gone (xs.take (k + 1))).1, (jL b gone (xs.take (k + 1))).2, ⟨A9, r.n + 1 + 1, c9, e9⟩) (bB rfl (bB (bv rfl (by rw [gC b gone hxb, heq]; simp [fQ, *])) (bB rfl dZ))) (cK rfl (cK rfl (cK rfl gW))) ?_ ?_
     ·exact ⟨⟨by omega, rfl, by rw [gC b gone hxb, heq]; simpa [fQ, *] using hR9⟩, M9.keep [true, true, false, false]⟩
     ·(show n - (k + 1) < n - k; omega)
    ·refine aL (cT (aC (aA (aP rfl rfl (wq (aY rfl rfl (by omega) (by omega)) rfl (bH rfl rfl ?_))))))
     refine aB ?_
     refine cD (k + 1, (jL b gone (xs.take (k + 1))).1, (jL b gone (xs.take (k + 1))).2, ⟨A6, r.n + 1, c6, e6⟩) (bB rfl (bB (bv rfl (by rw [gC b gone hxb, heq]; simp [fQ, *])) (bB rfl dZ))) (cK rfl (cK rfl (cK rfl gW))) ?_ ?_
     ·exact ⟨⟨by omega, rfl, by rw [gC b gone hxb, heq]; simpa [fQ, *] using hR6⟩, M7.keep [true, true, false]⟩
     ·(show n - (k + 1) < n - k; omega)
   ·refine aL (aC (aE (bR [(0, 0), (1, 0), (2, 1), (3, 1), (4, 1), (5, 0), (6, 1), (7, 0)] mixed rfl (by kernel_rfl) (fun w10 hb10 hh10 => ?_))))
    have M10 := M4.drew hb10 hh10
    refine kN rfl rfl rfl (eB rfl rfl rfl (bS rfl rfl rfl (bO (k) dK rfl rfl rfl ((R.mem M10).below_len (aG aF hxb)) ((R.mem M10).someK (aG aF hxb))) (bS rfl rfl rfl (bG 0 dM (R.mem M10) (Nat.lt_of_le_of_lt (Nat.zero_le _) ((R.mem M10).below_len (aG aF hxb))) rfl) ?_)))
    refine bS rfl rfl rfl (dX (o := 0) (.int _ _) bW (R.mem M10) (aG aF hxb) rfl rfl) (aU rfl rfl rfl (fun _ => aD 0 dM rfl) (bS rfl rfl rfl (aM 0 (.int _ _) bW M10 rfl rfl rfl) (aU rfl rfl rfl (fun _ => cA (.bool (decide _)) rfl rfl rfl) (bX (aC ?_)))))
    refine aW rfl (fun h40 => ?_) (fun h40 => ?_)
    ·refine aA (dH rfl rfl (dH rfl rfl (aP rfl rfl (wq (bO (k) dK rfl rfl rfl ((R.mem M10).below_len (aG aF hxb)) ((R.mem M10).someK (aG aF hxb))) rfl (wq (dI _ bP (R.mem M10) (aG aF hxb) rfl) rfl ?_)))))
     refine cR [.agg (List.toArray _)] _ rfl dK M10 rfl rfl rfl rfl (dD rfl) (by decide) (fun b11 w11 M11 => (dG 1 [aF xb] dK M11 rfl rfl rfl rfl rfl hr rfl (by simpa using ⟨iB xb, iC xb⟩) (dV.ofMem 2 M11 rfl) (by omega) (fun A12 c12 e12 w12 M12 hR12 => (eI rfl rfl ?_))))
     refine aB (cT (aC (aA (aP rfl rfl (wq (aY rfl rfl (by omega) (by omega)) rfl (bH rfl rfl ?_))))))
     refine aB ?_
     refine cD (k + 1, (jL b gone (xs.take (k + 1))).1, (jL b gone (xs.take (k + 1))).2, ⟨A12, r.n + 1, c12, e12⟩) (bB rfl (bB (bv rfl (by rw [gC b gone hxb, heq]; simp [fQ, *])) (bB rfl dZ))) (cK rfl (cK rfl (cK rfl gW))) ?_ ?_
     ·exact ⟨⟨by omega, rfl, by rw [gC b gone hxb, heq]; simpa [fQ, *] using hR12⟩, M12.keep [true, true, false]⟩
     ·(show n - (k + 1) < n - k; omega)
    ·refine aL (cT (aC (aA (aP rfl rfl (wq (aY rfl rfl (by omega) (by omega)) rfl (bH rfl rfl ?_))))))
     refine aB ?_
     refine cD (k + 1, (jL b gone (xs.take (k + 1))).1, (jL b gone (xs.take (k + 1))).2, r) (bB rfl (bB (bv rfl (by rw [gC b gone hxb, heq]; simp [fQ, *])) (bB rfl dZ))) (cK rfl (cK rfl (cK rfl gW))) ?_ ?_
     ·exact ⟨⟨by omega, rfl, by rw [gC b gone hxb, heq]; simpa [fQ, *] using hr⟩, M10.keep [true, true]⟩
     ·(show n - (k + 1) < n - k; omega)
  ·have hd : done = true := by simpa using g19
   refine rB rfl rfl rfl (rB rfl rfl rfl (nN rfl rfl rfl (nN rfl rfl rfl (nN rfl rfl rfl (rB rfl rfl rfl ?_)))))
   refine nN rfl rfl rfl (rB rfl rfl rfl (aU rfl rfl rfl (fun _ => bQ false (.bool false) rfl rfl) (bX (aC (cJ rfl ?_)))))
   refine aL (aC (aE (bR [(0, 0), (1, 0), (2, 1), (3, 1), (4, 1), (5, 0), (6, 1), (7, 0)] mixed rfl (by kernel_rfl) (fun w13 hb13 hh13 => ?_))))
   have M13 := M4.drew hb13 hh13
   refine kN rfl rfl rfl (eB rfl rfl rfl (bS rfl rfl rfl (bO (k) dK rfl rfl rfl ((R.mem M13).below_len (aG aF hxb)) ((R.mem M13).someK (aG aF hxb))) (bS rfl rfl rfl (bG 0 dM (R.mem M13) (Nat.lt_of_le_of_lt (Nat.zero_le _) ((R.mem M13).below_len (aG aF hxb))) rfl) ?_)))
   refine bS rfl rfl rfl (dX (o := 0) (.int _ _) bW (R.mem M13) (aG aF hxb) rfl rfl) (aU rfl rfl rfl (fun _ => aD 0 dM rfl) (bS rfl rfl rfl (aM 0 (.int _ _) bW M13 rfl rfl rfl) (aU rfl rfl rfl (fun _ => cA (.bool (decide _)) rfl rfl rfl) (bX (aC ?_)))))
   refine aW rfl (fun h40 => ?_) (fun h40 => ?_)
   ·refine aA (dH rfl rfl (dH rfl rfl (aP rfl rfl (wq (bO (k) dK rfl rfl rfl ((R.mem M13).below_len (aG aF hxb)) ((R.mem M13).someK (aG aF hxb))) rfl (wq (dI _ bP (R.mem M13) (aG aF hxb) rfl) rfl ?_)))))
    refine cR [.agg (List.toArray _)] _ rfl dK M13 rfl rfl rfl rfl (dD rfl) (by decide) (fun b14 w14 M14 => (dG 1 [aF xb] dK M14 rfl rfl rfl rfl rfl hr rfl (by simpa using ⟨iB xb, iC xb⟩) (dV.ofMem 2 M14 rfl) (by omega) (fun A15 c15 e15 w15 M15 hR15 => (eI rfl rfl ?_))))
    refine aB (cT (aC (aA (aP rfl rfl (wq (aY rfl rfl (by omega) (by omega)) rfl (bH rfl rfl ?_))))))
    refine aB ?_
    refine cD (k + 1, (jL b gone (xs.take (k + 1))).1, (jL b gone (xs.take (k + 1))).2, ⟨A15, r.n + 1, c15, e15⟩) (bB rfl (bB (bv rfl (by rw [gC b gone hxb, heq]; simp [fQ, *])) (bB rfl dZ))) (cK rfl (cK rfl (cK rfl gW))) ?_ ?_
    ·exact ⟨⟨by omega, rfl, by rw [gC b gone hxb, heq]; simpa [fQ, *] using hR15⟩, M15.keep [true, true, false]⟩
    ·(show n - (k + 1) < n - k; omega)
   ·refine aL (cT (aC (aA (aP rfl rfl (wq (aY rfl rfl (by omega) (by omega)) rfl (bH rfl rfl ?_))))))
    refine aB ?_
    refine cD (k + 1, (jL b gone (xs.take (k + 1))).1, (jL b gone (xs.take (k + 1))).2, r) (bB rfl (bB (bv rfl (by rw [gC b gone hxb, heq]; simp [fQ, *])) (bB rfl dZ))) (cK rfl (cK rfl (cK rfl gW))) ?_ ?_
    ·exact ⟨⟨by omega, rfl, by rw [gC b gone hxb, heq]; simpa [fQ, *] using hr⟩, M13.keep [true, true]⟩
    ·(show n - (k + 1) < n - k; omega)
 ·have hkn : k = n := by omega
  subst hkn
  rw [List.take_of_length_le (by omega)] at heq
  refine cW (dE (dL (eS (aC (aE (aE (aA (wq (aH (.bool _) rfl) rfl ?_))))))))
  refine wq (gI _ rfl rfl) rfl (aB (aC ?_))
  refine iD _ rfl (fun h49 => ?_) (fun h49 => ?_)
  ·have hd : done = false := by simpa using h49
   refine aA (dH rfl rfl (wq (aX 0 bP hM3 rfl rfl rfl) rfl (cR [.agg (List.toArray _)] _ rfl dK hM3 rfl rfl rfl rfl (dD rfl) (by decide) (fun b16 w16 M16 => (dG 1 [aF b] dK M16 rfl rfl rfl rfl rfl hr rfl (by simpa using ⟨iB b, iC b⟩) (dV.ofMem 2 M16 rfl) (by omega) (fun A17 c17 e17 w17 M17 hR17 => ?_))))))
   refine eI rfl rfl (aB (aC (aE (aA (dH rfl rfl (eI rfl rfl (aB (aC (aO (cG (.slice _ _ _) rfl ?_))))))))))
   exact ⟨_, _, _, _, rfl, by unfold wE; rw [heq]; simpa [*] using hR17, M17.keep [false, true, false]⟩
  ·have hd : done = true := by simpa using h49
   refine aL (aC (aE (aA (dH rfl rfl (eI rfl rfl (aB (aC (aO (cG (.slice _ _ _) rfl ?_)))))))))
   exact ⟨_, _, _, _, rfl, by unfold wE; rw [heq]; simpa [*] using hr, hM3.keep [false, true]⟩
set_option maxHeartbeats 4000000 in
theorem tI (w : World) (x y l : Int) (h0 : 0 ≤ l) (h1 : l ≤ 2147483647) :
  Calls Tryz.prog 139 #[.agg [.int .i32 x, .int .i32 y].toArray, .int .i32 l] w (fun ex w' => ∃ v, ex = .returned v ∧ (fun v w' => v = .bool (decide (-l ≤ x ∧ x ≤ l ∧ -l ≤ y ∧ y ≤ l)) ∧ Below w.heap.size w w') v w') := by
 have hneg : IntKind.i32.wrap (-l) = -l := jC _ (by omega) (by omega)
 refine aI #[.tmp 4] 29 Tryz.func139 rfl Tryz.results139 Tryz.ntmps139 rfl ?_
 have M0 := Mem.refl w
 refine aE (aA (bJ (.agg (List.toArray _)) M0 rfl rfl rfl (fun b1 w1 M1 => (wq (aJ (.bool false) rfl) rfl (aB (aC (aE (aA (aP rfl rfl (wq (qZ rfl) rfl ?_))))))))))
 refine aK 6 (.int .i32 (-l)) (iE hneg) (wq (aD 0 cS rfl) rfl (wq (aM 0 (.int _ _) aV M1 rfl rfl rfl) rfl (cY rfl rfl rfl rfl (wq (aH (.bool (decide _)) rfl) rfl ?_))))
 refine dN 10 rfl (fun g10 => ?_) (fun g10 => ?_)
 ·refine wq (aD 0 cS rfl) rfl (wq (aM 0 (.int _ _) aV M1 rfl rfl rfl) rfl (aP rfl rfl (cY rfl rfl rfl rfl (wq (bQ true (.bool (decide _)) rfl rfl) rfl (wq (aH (.bool (decide _)) rfl) rfl ?_)))))
  refine dN 16 rfl (fun g16 => ?_) (fun g16 => ?_)
  ·refine aP rfl rfl (wq (qZ rfl) rfl (aK 18 (.int .i32 (-l)) (iE hneg) (wq (aD 1 cN rfl) rfl (wq (aM 0 (.int _ _) aV M1 rfl rfl rfl) rfl (cY rfl rfl rfl rfl ?_)))))
   refine wq (bQ true (.bool (decide _)) rfl rfl) rfl (wq (aH (.bool (decide _)) rfl) rfl ?_)
   refine dN 23 rfl (fun g23 => ?_) (fun g23 => ?_)
   ·refine wq (aD 1 cN rfl) rfl (wq (aM 0 (.int _ _) aV M1 rfl rfl rfl) rfl (aP rfl rfl (cY rfl rfl rfl rfl (wq (bQ true (.bool (decide _)) rfl rfl) rfl (wq (aJ (.bool (decide _)) rfl) rfl ?_)))))
    refine aB (aC (aO (cG (.bool (decide _)) rfl ?_)))
    exact ⟨by first | exact bF (by omega) | exact bT (by omega) | exact bD (by omega), M1.below⟩
   ·refine aN rfl rfl (aN rfl rfl (aN rfl rfl (aN rfl rfl (wq (bQ false (.bool false) rfl rfl) rfl (wq (aJ (.bool false) rfl) rfl ?_)))))
    refine aB (aC (aO (cG (.bool false) rfl ?_)))
    exact ⟨by first | exact bF (by omega) | exact bT (by omega) | exact bD (by omega), M1.below⟩
  ·refine aN rfl rfl (aN rfl rfl (aN rfl rfl (aN rfl rfl (aN rfl rfl (wq (bQ false (.bool false) rfl rfl) rfl ?_)))))
   refine wq (aH (.bool false) rfl) rfl (aN rfl rfl (aN rfl rfl (aN rfl rfl (aN rfl rfl (wq (bQ false (.bool false) rfl rfl) rfl ?_)))))
   refine wq (aJ (.bool false) rfl) rfl (aB (aC (aO (cG (.bool false) rfl ?_))))
   exact ⟨by first | exact bF (by omega) | exact bT (by omega) | exact bD (by omega), M1.below⟩
 ·refine aN rfl rfl (aN rfl rfl (aN rfl rfl (aN rfl rfl (wq (bQ false (.bool false) rfl rfl) rfl (wq (aH (.bool false) rfl) rfl ?_)))))
  refine aN rfl rfl (aN rfl rfl (aN rfl rfl (aN rfl rfl (aN rfl rfl (wq (bQ false (.bool false) rfl rfl) rfl ?_)))))
  refine wq (aH (.bool false) rfl) rfl (aN rfl rfl (aN rfl rfl (aN rfl rfl (aN rfl rfl (wq (bQ false (.bool false) rfl rfl) rfl ?_)))))
  refine wq (aJ (.bool false) rfl) rfl (aB (aC (aO (cG (.bool false) rfl ?_))))
  exact ⟨by first | exact bF (by omega) | exact bT (by omega) | exact bD (by omega), M1.below⟩
set_option maxHeartbeats 4000000 in
theorem aOi (w : World) (b : Body) (p : Nat) (R : Rd w 10 (some ⟨p, 0, none⟩) 1 [aF b]) :
  Calls Tryz.prog 137 #[.pointer (some ⟨p, 0, none⟩)] w (fun ex w' => ∃ v, ex = .returned v ∧ (fun v w' => v = .bool (decide (4096 ≤ b.radius ∧ b.radius ≤ 4194304)) ∧ Below w.heap.size w w') v w') := by
 rw [← gQ p]
 refine aI #[.tmp 1] 10 Tryz.func137 rfl Tryz.results137 Tryz.ntmps137 rfl ?_
 have M0 := Mem.refl w
 refine aE (aA (wq (aJ (.bool false) rfl) rfl (aB (aC (aE (aA (wq (bG 1 lH R (Nat.lt_of_le_of_lt (Nat.zero_le _) (R.below_len (show [aF b][0]? = some (aF b) from rfl))) rfl) rfl (wq (dX (o := 1) (.int _ _) aV R (show [aF b][0]? = some (aF b) from rfl) rfl rfl) rfl ?_))))))))
 refine cY rfl rfl rfl rfl (wq (aH (.bool (decide _)) rfl) rfl ?_)
 refine dN 5 rfl (fun g5 => ?_) (fun g5 => ?_)
 ·refine wq (bG 1 lH R (Nat.lt_of_le_of_lt (Nat.zero_le _) (R.below_len (show [aF b][0]? = some (aF b) from rfl))) rfl) rfl (wq (dX (o := 1) (.int _ _) aV R (show [aF b][0]? = some (aF b) from rfl) rfl rfl) rfl (cY rfl rfl rfl rfl (wq (bQ true (.bool (decide _)) rfl rfl) rfl ?_)))
  refine wq (aJ (.bool (decide _)) rfl) rfl (aB (aC (aO (cG (.bool (decide _)) rfl ?_))))
  exact ⟨by first | exact bF (by omega) | exact bT (by omega) | exact bD (by omega), M0.below⟩
 ·refine aN rfl rfl (aN rfl rfl (aN rfl rfl (wq (bQ false (.bool false) rfl rfl) rfl (wq (aJ (.bool false) rfl) rfl (aB (aC (aO ?_)))))))
  refine cG (.bool false) rfl ?_
  exact ⟨by first | exact bF (by omega) | exact bT (by omega) | exact bD (by omega), M0.below⟩
set_option maxHeartbeats 4000000 in
theorem aNq (w : World) (b : Body) (p : Nat) (R : Rd w 10 (some ⟨p, 0, none⟩) 1 [aF b]) :
  Calls Tryz.prog 138 #[.pointer (some ⟨p, 0, none⟩)] w (fun ex w' => ∃ v, ex = .returned v ∧ (fun v w' => v = .bool (decide (-4194304 ≤ b.ax ∧ b.ax ≤ 4194304 ∧ -4194304 ≤ b.ay ∧ b.ay ≤ 4194304)) ∧ Below w.heap.size w w') v w') := by
 rw [← gQ p]
 refine aI #[.tmp 1] 5 Tryz.func138 rfl Tryz.results138 Tryz.ntmps138 rfl ?_
 have M0 := Mem.refl w
 refine aE (aA (wq (aJ (.bool false) rfl) rfl (aB (aC (aE (aA (wq (bG 2 iR R (Nat.lt_of_le_of_lt (Nat.zero_le _) (R.below_len (show [aF b][0]? = some (aF b) from rfl))) rfl) rfl (wq (aFj (o := 2) _ bM R (show [aF b][0]? = some (aF b) from rfl) rfl rfl rfl) rfl ?_))))))))
 refine bY aRr rfl rfl (tI _ _ _ _ (by omega) (by omega)) ?_
 rintro v1 w1 ⟨rfl, hb1⟩
 have M1 := M0.callB hb1
 refine wq (aJ (.bool (decide _)) rfl) rfl (aB (aC (aO (cG (.bool (decide _)) rfl ?_))))
 exact ⟨by first | exact bF (by omega) | exact bT (by omega) | exact bD (by omega), M1.below⟩
set_option maxHeartbeats 4000000 in
theorem aLh (w : World) (b : Body) (p : Nat) (R : Rd w 10 (some ⟨p, 0, none⟩) 1 [aF b]) :
  Calls Tryz.prog 140 #[.pointer (some ⟨p, 0, none⟩)] w (fun ex w' => ∃ v, ex = .returned v ∧ (fun v w' => v = .bool (decide (0 ≤ b.mass ∧ b.mass ≤ 1048576)) ∧ Below w.heap.size w w') v w') := by
 rw [← gQ p]
 refine aI #[.tmp 1] 10 Tryz.func140 rfl Tryz.results140 Tryz.ntmps140 rfl ?_
 have M0 := Mem.refl w
 refine aE (aA (wq (aJ (.bool false) rfl) rfl (aB (aC (aE (aA (wq (bG 4 eG R (Nat.lt_of_le_of_lt (Nat.zero_le _) (R.below_len (show [aF b][0]? = some (aF b) from rfl))) rfl) rfl (wq (dX (o := 4) (.int _ _) aV R (show [aF b][0]? = some (aF b) from rfl) rfl rfl) rfl ?_))))))))
 refine cY rfl rfl rfl rfl (wq (aH (.bool (decide _)) rfl) rfl ?_)
 refine dN 5 rfl (fun g5 => ?_) (fun g5 => ?_)
 ·refine wq (bG 4 eG R (Nat.lt_of_le_of_lt (Nat.zero_le _) (R.below_len (show [aF b][0]? = some (aF b) from rfl))) rfl) rfl (wq (dX (o := 4) (.int _ _) aV R (show [aF b][0]? = some (aF b) from rfl) rfl rfl) rfl (cY rfl rfl rfl rfl (wq (bQ true (.bool (decide _)) rfl rfl) rfl ?_)))
  refine wq (aJ (.bool (decide _)) rfl) rfl (aB (aC (aO (cG (.bool (decide _)) rfl ?_))))
  exact ⟨by first | exact bF (by omega) | exact bT (by omega) | exact bD (by omega), M0.below⟩
 ·refine aN rfl rfl (aN rfl rfl (aN rfl rfl (wq (bQ false (.bool false) rfl rfl) rfl (wq (aJ (.bool false) rfl) rfl (aB (aC (aO ?_)))))))
  refine cG (.bool false) rfl ?_
  exact ⟨by first | exact bF (by omega) | exact bT (by omega) | exact bD (by omega), M0.below⟩
set_option maxHeartbeats 4000000 in
theorem aNs (w : World) (b : Body) (p : Nat) (R : Rd w 10 (some ⟨p, 0, none⟩) 1 [aF b]) :
  Calls Tryz.prog 141 #[.pointer (some ⟨p, 0, none⟩)] w (fun ex w' => ∃ v, ex = .returned v ∧ (fun v w' => v = .bool (decide (0 ≤ b.bounce ∧ b.bounce ≤ 65536)) ∧ Below w.heap.size w w') v w') := by
 rw [← gQ p]
 refine aI #[.tmp 1] 10 Tryz.func141 rfl Tryz.results141 Tryz.ntmps141 rfl ?_
 have M0 := Mem.refl w
 refine aE (aA (wq (aJ (.bool false) rfl) rfl (aB (aC (aE (aA (wq (bG 5 nB R (Nat.lt_of_le_of_lt (Nat.zero_le _) (R.below_len (show [aF b][0]? = some (aF b) from rfl))) rfl) rfl (wq (dX (o := 5) (.int _ _) aV R (show [aF b][0]? = some (aF b) from rfl) rfl rfl) rfl ?_))))))))
 refine cY rfl rfl rfl rfl (wq (aH (.bool (decide _)) rfl) rfl ?_)
 refine dN 5 rfl (fun g5 => ?_) (fun g5 => ?_)
 ·refine wq (bG 5 nB R (Nat.lt_of_le_of_lt (Nat.zero_le _) (R.below_len (show [aF b][0]? = some (aF b) from rfl))) rfl) rfl (wq (dX (o := 5) (.int _ _) aV R (show [aF b][0]? = some (aF b) from rfl) rfl rfl) rfl (cY rfl rfl rfl rfl (wq (bQ true (.bool (decide _)) rfl rfl) rfl ?_)))
  refine wq (aJ (.bool (decide _)) rfl) rfl (aB (aC (aO (cG (.bool (decide _)) rfl ?_))))
  exact ⟨by first | exact bF (by omega) | exact bT (by omega) | exact bD (by omega), M0.below⟩
 ·refine aN rfl rfl (aN rfl rfl (aN rfl rfl (wq (bQ false (.bool false) rfl rfl) rfl (wq (aJ (.bool false) rfl) rfl (aB (aC (aO ?_)))))))
  refine cG (.bool false) rfl ?_
  exact ⟨by first | exact bF (by omega) | exact bT (by omega) | exact bD (by omega), M0.below⟩
set_option maxHeartbeats 4000000 in
theorem aMn (w : World) (b : Body) (p : Nat) (R : Rd w 10 (some ⟨p, 0, none⟩) 1 [aF b]) :
  Calls Tryz.prog 142 #[.pointer (some ⟨p, 0, none⟩)] w (fun ex w' => ∃ v, ex = .returned v ∧ (fun v w' => v = .bool (decide (-1073741824 ≤ b.px ∧ b.px ≤ 1073741824 ∧ -1073741824 ≤ b.py ∧ b.py ≤ 1073741824)) ∧ Below w.heap.size w w') v w') := by
 rw [← gQ p]
 refine aI #[.tmp 1] 5 Tryz.func142 rfl Tryz.results142 Tryz.ntmps142 rfl ?_
 have M0 := Mem.refl w
 refine aE (aA (wq (aJ (.bool false) rfl) rfl (aB (aC (aE (aA (wq (bG 6 fK R (Nat.lt_of_le_of_lt (Nat.zero_le _) (R.below_len (show [aF b][0]? = some (aF b) from rfl))) rfl) rfl (wq (aFj (o := 6) _ bM R (show [aF b][0]? = some (aF b) from rfl) rfl rfl rfl) rfl ?_))))))))
 refine bY aRr rfl rfl (tI _ _ _ _ (by omega) (by omega)) ?_
 rintro v1 w1 ⟨rfl, hb1⟩
 have M1 := M0.callB hb1
 refine wq (aJ (.bool (decide _)) rfl) rfl (aB (aC (aO (cG (.bool (decide _)) rfl ?_))))
 exact ⟨by first | exact bF (by omega) | exact bT (by omega) | exact bD (by omega), M1.below⟩
set_option maxHeartbeats 4000000 in
theorem aLv (w : World) (b : Body) (p : Nat) (R : Rd w 10 (some ⟨p, 0, none⟩) 1 [aF b]) :
  Calls Tryz.prog 143 #[.pointer (some ⟨p, 0, none⟩)] w (fun ex w' => ∃ v, ex = .returned v ∧ (fun v w' => v = .bool (decide (-16777216 ≤ b.vx ∧ b.vx ≤ 16777216 ∧ -16777216 ≤ b.vy ∧ b.vy ≤ 16777216)) ∧ Below w.heap.size w w') v w') := by
 rw [← gQ p]
 refine aI #[.tmp 1] 5 Tryz.func143 rfl Tryz.results143 Tryz.ntmps143 rfl ?_
 have M0 := Mem.refl w
 refine aE (aA (wq (aJ (.bool false) rfl) rfl (aB (aC (aE (aA (wq (bG 8 dW R (Nat.lt_of_le_of_lt (Nat.zero_le _) (R.below_len (show [aF b][0]? = some (aF b) from rfl))) rfl) rfl (wq (aFj (o := 8) _ bM R (show [aF b][0]? = some (aF b) from rfl) rfl rfl rfl) rfl ?_))))))))
 refine bY aRr rfl rfl (tI _ _ _ _ (by omega) (by omega)) ?_
 rintro v1 w1 ⟨rfl, hb1⟩
 have M1 := M0.callB hb1
 refine wq (aJ (.bool (decide _)) rfl) rfl (aB (aC (aO (cG (.bool (decide _)) rfl ?_))))
 exact ⟨by first | exact bF (by omega) | exact bT (by omega) | exact bD (by omega), M1.below⟩
set_option maxHeartbeats 4000000 in
theorem wD (w : World) (b : Body) :
  Calls Tryz.prog 102 #[(.agg (aF b).toArray)] w (fun ex w' => ∃ v, ex = .returned v ∧ (fun v w' => v = .int .i64 (check b) ∧ Below w.heap.size w w') v w') := by
 refine aI #[.tmp 2] 28 Tryz.func102 rfl Tryz.results102 Tryz.ntmps102 rfl ?_
 have M0 := Mem.refl w
 refine aE (aA (bJ (.agg (List.toArray _)) M0 rfl rfl rfl (fun b1 w1 M1 => (bH rfl rfl (aB (aC (aE (aE (aA (wq (dR [] [.pointer _] rfl rfl) rfl (wq (cF [(0, .func _ _ _), (1, .int _ _)] _ oK rfl rfl) rfl ?_)))))))))))
 refine wq (dR [] [.pointer _] rfl rfl) rfl (wq (cF [(0, .func _ _ _), (1, .int _ _)] _ oK rfl rfl) rfl (wq (dR [] [.pointer _] rfl rfl) rfl (wq (cF [(0, .func _ _ _), (1, .int _ _)] _ oK rfl rfl) rfl (wq (dR [] [.pointer _] rfl rfl) rfl (wq (cF [(0, .func _ _ _), (1, .int _ _)] _ oK rfl rfl) rfl ?_)))))
 refine wq (dR [] [.pointer _] rfl rfl) rfl (wq (cF [(0, .func _ _ _), (1, .int _ _)] _ oK rfl rfl) rfl (wq (dR [] [.pointer _] rfl rfl) rfl (wq (cF [(0, .func _ _ _), (1, .int _ _)] _ oK rfl rfl) rfl (wq (tA [.agg (List.toArray _), .agg (List.toArray _), .agg (List.toArray _), .agg (List.toArray _), .agg (List.toArray _), .agg (List.toArray _)] vW bGs rfl rfl (dD rfl)) rfl ?_))))
 refine aP rfl rfl (aB (aC (aQ (iU 7 (fI (aE (aA (cY rfl rfl rfl rfl (kH 19 rfl (by first | decide | omega) ?_)))))))))
 refine aB (aC (aE (cE rfl (aL (aC (aE (aQ (aE (aA (wq (qC 0 _ vW nT rfl rfl (by decide) (by decide) rfl rfl) rfl (aT uB M1 rfl rfl (fun b2 w2 M2 => (bI 1 _ nT M2 rfl rfl rfl rfl rfl (aR rfl) rfl (fun w3 M3 => ?_))))))))))))))
 refine aB (aC (aE (aA (wq (aD 0 qU rfl) rfl (wq (aM 1 (.func _ _ _) aHm M3 rfl rfl rfl) rfl (bY bOx rfl rfl (aOi _ b _ (pF 0 M3 rfl rfl)) ?_))))))
 rintro v4 w4 ⟨rfl, hb4⟩
 have M4 := M3.callB hb4
 refine wq (oO rfl) rfl (aB (aC ?_))
 refine aW rfl (fun h24 => ?_) (fun h24 => ?_)
 ·refine aE (aA (wq (aD 1 qK rfl) rfl (wq (aM 1 (.int _ _) tL M4 rfl rfl rfl) rfl (bH rfl rfl (aB (aC (aO (lD ?_))))))))
  refine cO (cO (lD (cO (cG (.int _ _) rfl ?_))))
  exact ⟨iE (aUf b (by omega)).symm, M4.below⟩
 ·refine aL (cT (aC (aA (wq (aY rfl rfl (by first | decide | omega) (by first | decide | omega)) rfl (aK 27 (.int .i64 1) (iE (by first | decide | omega)) (aP rfl rfl ?_))))))
  refine aB (aC (fI (aE (aA (cY rfl rfl rfl rfl (kH 19 rfl (by first | decide | omega) (aB (aC (aE ?_)))))))))
  refine cE rfl (aL (aC (aE (aQ (aE (aA (wq (qC 1 _ vW nT rfl rfl (by decide) (by decide) rfl rfl) rfl (aT uB M4 rfl rfl (fun b5 w5 M5 => (bI 2 _ nT M5 rfl rfl rfl rfl rfl (aR rfl) rfl (fun w6 M6 => (aB (aC (aE (aA ?_)))))))))))))))
  refine wq (aD 0 qU rfl) rfl (wq (aM 2 (.func _ _ _) aHm M6 rfl rfl rfl) rfl (bY bMy rfl rfl (aNq _ b _ (pF 0 M6 rfl rfl)) ?_))
  rintro v7 w7 ⟨rfl, hb7⟩
  have M7 := M6.callB hb7
  refine wq (oO rfl) rfl (aB (aC ?_))
  refine aW rfl (fun h24 => ?_) (fun h24 => ?_)
  ·refine aE (aA (wq (aD 1 qK rfl) rfl (wq (aM 2 (.int _ _) tL M7 rfl rfl rfl) rfl (bH rfl rfl (aB (aC (aO (lD ?_))))))))
   refine cO (cO (lD (cO (cG (.int _ _) rfl ?_))))
   exact ⟨iE (aTu b (by omega) (by omega)).symm, M7.below⟩
  ·refine aL (cT (aC (aA (wq (aY rfl rfl (by first | decide | omega) (by first | decide | omega)) rfl (aK 27 (.int .i64 2) (iE (by first | decide | omega)) (aP rfl rfl ?_))))))
   refine aB (aC (fI (aE (aA (cY rfl rfl rfl rfl (kH 19 rfl (by first | decide | omega) (aB (aC (aE ?_)))))))))
   refine cE rfl (aL (aC (aE (aQ (aE (aA (wq (qC 2 _ vW nT rfl rfl (by decide) (by decide) rfl rfl) rfl (aT uB M7 rfl rfl (fun b8 w8 M8 => (bI 3 _ nT M8 rfl rfl rfl rfl rfl (aR rfl) rfl (fun w9 M9 => (aB (aC (aE (aA ?_)))))))))))))))
   refine wq (aD 0 qU rfl) rfl (wq (aM 3 (.func _ _ _) aHm M9 rfl rfl rfl) rfl (bY bMd rfl rfl (aLh _ b _ (pF 0 M9 rfl rfl)) ?_))
   rintro v10 w10 ⟨rfl, hb10⟩
   have M10 := M9.callB hb10
   refine wq (oO rfl) rfl (aB (aC ?_))
   refine aW rfl (fun h24 => ?_) (fun h24 => ?_)
   ·refine aE (aA (wq (aD 1 qK rfl) rfl (wq (aM 3 (.int _ _) tL M10 rfl rfl rfl) rfl (bH rfl rfl (aB (aC (aO (lD ?_))))))))
    refine cO (cO (lD (cO (cG (.int _ _) rfl ?_))))
    exact ⟨iE (aUp b (by omega) (by omega) (by omega)).symm, M10.below⟩
   ·refine aL (cT (aC (aA (wq (aY rfl rfl (by first | decide | omega) (by first | decide | omega)) rfl (aK 27 (.int .i64 3) (iE (by first | decide | omega)) (aP rfl rfl ?_))))))
    refine aB (aC (fI (aE (aA (cY rfl rfl rfl rfl (kH 19 rfl (by first | decide | omega) (aB (aC (aE ?_)))))))))
    refine cE rfl (aL (aC (aE (aQ (aE (aA (wq (qC 3 _ vW nT rfl rfl (by decide) (by decide) rfl rfl) rfl (aT uB M10 rfl rfl (fun b11 w11 M11 => (bI 4 _ nT M11 rfl rfl rfl rfl rfl (aR rfl) rfl (fun w12 M12 => (aB (aC (aE (aA ?_)))))))))))))))
    refine wq (aD 0 qU rfl) rfl (wq (aM 4 (.func _ _ _) aHm M12 rfl rfl rfl) rfl (bY bLm rfl rfl (aNs _ b _ (pF 0 M12 rfl rfl)) ?_))
    rintro v13 w13 ⟨rfl, hb13⟩
    have M13 := M12.callB hb13
    refine wq (oO rfl) rfl (aB (aC ?_))
    refine aW rfl (fun h24 => ?_) (fun h24 => ?_)
    ·refine aE (aA (wq (aD 1 qK rfl) rfl (wq (aM 4 (.int _ _) tL M13 rfl rfl rfl) rfl (bH rfl rfl (aB (aC (aO (lD ?_))))))))
     refine cO (cO (lD (cO (cG (.int _ _) rfl ?_))))
     exact ⟨iE (aSf b (by omega) (by omega) (by omega) (by omega)).symm, M13.below⟩
    ·refine aL (cT (aC (aA (wq (aY rfl rfl (by first | decide | omega) (by first | decide | omega)) rfl (aK 27 (.int .i64 4) (iE (by first | decide | omega)) (aP rfl rfl ?_))))))
     refine aB (aC (fI (aE (aA (cY rfl rfl rfl rfl (kH 19 rfl (by first | decide | omega) (aB (aC (aE ?_)))))))))
     refine cE rfl (aL (aC (aE (aQ (aE (aA (wq (qC 4 _ vW nT rfl rfl (by decide) (by decide) rfl rfl) rfl (aT uB M13 rfl rfl (fun b14 w14 M14 => (bI 5 _ nT M14 rfl rfl rfl rfl rfl (aR rfl) rfl (fun w15 M15 => (aB (aC (aE (aA ?_)))))))))))))))
     refine wq (aD 0 qU rfl) rfl (wq (aM 5 (.func _ _ _) aHm M15 rfl rfl rfl) rfl (bY bLk rfl rfl (aMn _ b _ (pF 0 M15 rfl rfl)) ?_))
     rintro v16 w16 ⟨rfl, hb16⟩
     have M16 := M15.callB hb16
     refine wq (oO rfl) rfl (aB (aC ?_))
     refine aW rfl (fun h24 => ?_) (fun h24 => ?_)
     ·refine aE (aA (wq (aD 1 qK rfl) rfl (wq (aM 5 (.int _ _) tL M16 rfl rfl rfl) rfl (bH rfl rfl (aB (aC (aO (lD ?_))))))))
      refine cO (cO (lD (cO (cG (.int _ _) rfl ?_))))
      exact ⟨iE (aSj b (by omega) (by omega) (by omega) (by omega) (by omega)).symm, M16.below⟩
     ·refine aL (cT (aC (aA (wq (aY rfl rfl (by first | decide | omega) (by first | decide | omega)) rfl (aK 27 (.int .i64 5) (iE (by first | decide | omega)) (aP rfl rfl ?_))))))
      refine aB (aC (fI (aE (aA (cY rfl rfl rfl rfl (kH 19 rfl (by first | decide | omega) (aB (aC (aE ?_)))))))))
      refine cE rfl (aL (aC (aE (aQ (aE (aA (wq (qC 5 _ vW nT rfl rfl (by decide) (by decide) rfl rfl) rfl (aT uB M16 rfl rfl (fun b17 w17 M17 => (bI 6 _ nT M17 rfl rfl rfl rfl rfl (aR rfl) rfl (fun w18 M18 => (aB (aC (aE (aA ?_)))))))))))))))
      refine wq (aD 0 qU rfl) rfl (wq (aM 6 (.func _ _ _) aHm M18 rfl rfl rfl) rfl (bY bOs rfl rfl (aLv _ b _ (pF 0 M18 rfl rfl)) ?_))
      rintro v19 w19 ⟨rfl, hb19⟩
      have M19 := M18.callB hb19
      refine wq (oO rfl) rfl (aB (aC ?_))
      refine aW rfl (fun h24 => ?_) (fun h24 => ?_)
      ·refine aE (aA (wq (aD 1 qK rfl) rfl (wq (aM 6 (.int _ _) tL M19 rfl rfl rfl) rfl (bH rfl rfl (aB (aC (aO (lD ?_))))))))
       refine cO (cO (lD (cO (cG (.int _ _) rfl ?_))))
       exact ⟨iE (aTl b (by omega) (by omega) (by omega) (by omega) (by omega) (by omega)).symm, M19.below⟩
      ·refine aL (cT (aC (aA (wq (aY rfl rfl (by first | decide | omega) (by first | decide | omega)) rfl (aK 27 (.int .i64 6) (iE (by first | decide | omega)) (aP rfl rfl ?_))))))
       refine aB (aC (fI (aE (aA (cY rfl rfl rfl rfl (oG 19 rfl (by first | decide | omega) (aB (aC (aE ?_)))))))))
       refine cJ rfl (cW (dE (dE (eS (aC (aE (aA (bH rfl rfl ?_))))))))
       refine aB (aC (aO (cG (.int _ _) rfl ?_)))
       exact ⟨iE (bIp b (by omega) (by omega) (by omega) (by omega) (by omega) (by omega)).symm, M19.below⟩
set_option maxHeartbeats 4000000 in
theorem aAj (w : World) (x : Int) :
  Calls Tryz.prog 151 #[.int .u32 x] w (fun ex w' => ∃ v, ex = .returned v ∧ (fun v w' => v = .bool false ∧ w' = w) v w') := by
 refine aI #[.tmp 2] 6 Tryz.func151 rfl Tryz.results151 Tryz.ntmps151 rfl ?_
 have M0 := Mem.refl w
 refine aE (aA (wq (aJ (.bool false) rfl) rfl (aB (aC (aE (aA (aP rfl rfl (aP rfl rfl (cY rfl rfl rfl rfl ?_)))))))))
 refine wq (aJ (.bool (decide _)) rfl) rfl (aB (aC (aO (cG (.bool (decide _)) rfl ?_))))
 exact ⟨(bF (by omega)).symm, rfl⟩
set_option maxHeartbeats 4000000 in
theorem mZ (w : World) (x y : Int) :
  Calls Tryz.prog 116 #[.int .u32 x, .int .u32 y] w (fun ex w' => ∃ v, ex = .returned v ∧ (fun v w' => v = .int .i64 (pD x y) ∧ w' = w) v w') := by
 refine aI #[.tmp 4] 20 Tryz.func116 rfl Tryz.results116 Tryz.ntmps116 rfl ?_
 have M0 := Mem.refl w
 refine aE (aA (bH rfl rfl (aB (aC (aE (aA (aP rfl rfl (bY aZl rfl rfl (aAj _ _) ?_))))))))
 rintro v1 w1 ⟨rfl, rfl⟩
 have M1 : Mem _ _ [] _ := M0
 refine wq (aJ (.bool false) rfl) rfl (aB (aC (aE (aA (aP rfl rfl (bY aZl rfl rfl (aAj _ _) ?_))))))
 rintro v2 w2 ⟨rfl, rfl⟩
 have M2 : Mem _ _ [] _ := M1
 refine wq (aJ (.bool false) rfl) rfl (aB (aC (aE (aE (aA (wq (aH (.bool false) rfl) rfl (aB (aC (cJ rfl (aL (aC (aE (aE (aA ?_))))))))))))))
 refine wq (aH (.bool false) rfl) rfl (aB (aC (cJ rfl (aL (aC (aE (aE (aA (aP rfl rfl (aP rfl rfl ?_))))))))))
 refine cY rfl rfl rfl rfl (aB (aC ?_))
 refine aW rfl (fun h16 => ?_) (fun h16 => ?_)
 ·refine aE (aA (bH rfl rfl (aB (aC (aO (cO (cG (.int _ _) rfl ?_)))))))
  exact ⟨iE (by unfold pD; (repeat' split) <;> omega), rfl⟩
 ·refine aL (aC (aE (aE (aA (aP rfl rfl (aP rfl rfl (cY rfl rfl rfl rfl (aB (aC ?_)))))))))
  refine aW rfl (fun h19 => ?_) (fun h19 => ?_)
  ·refine aE (aA (bH rfl rfl (aB (aC (aO (cO (cG (.int _ _) rfl ?_)))))))
   exact ⟨iE (by unfold pD; (repeat' split) <;> omega), rfl⟩
  ·refine aL (aC (aE (aA (bH rfl rfl (aB (aC (aO (cG (.int _ _) rfl ?_))))))))
   exact ⟨iE (by unfold pD; (repeat' split) <;> omega), rfl⟩
set_option maxHeartbeats 4000000 in
theorem aGe (a b : Body) (w : World) :
  Calls Tryz.prog 115 #[(.agg (aF a).toArray), (.agg (aF b).toArray)] w (fun ex w' => ∃ v, ex = .returned v ∧ (fun v w' => v = .int .i64 (pD a.key b.key) ∧ ∃ q os, w' = Go.Sort.grow (w.drewN q) os) v w') := by
 refine aI #[.tmp 4] 10 Tryz.func115 rfl Tryz.results115 Tryz.ntmps115 rfl ?_
 have M0 := Mem.refl w
 refine aE (aA (aBv (.agg (List.toArray _)) M0 rfl rfl rfl (fun M1 => (aBv (.agg (List.toArray _)) M1 rfl rfl rfl (fun M2 => (bH rfl rfl (aB (aC (aE (aA (wq (aD 0 dM rfl) rfl ?_)))))))))))
 refine wq (aM 0 (.int _ _) bW M2 rfl rfl rfl) rfl (wq (aD 0 dM rfl) rfl (wq (aM 1 (.int _ _) bW M2 rfl rfl rfl) rfl (bY aKb rfl rfl (mZ _ _ _) ?_)))
 rintro v3 w3 ⟨rfl, rfl⟩
 have M3 : Mem _ _ [_, _] _ := M2
 refine bH rfl rfl (aB (aC (aO (cG (.int _ _) rfl ?_))))
 exact ⟨rfl, bPc _ _ _⟩
set_option maxHeartbeats 4000000 in
theorem aGi (w : World) (A : Option Addr) (n c : Nat) (ls : List (List Value)) (R : Rd w 10 A n ls) (h1 : ∀ y ∈ ls, ∀ u ∈ y, one u = true) (hn : n ≤ 1048576) :
  Calls Tryz.prog 64 #[.slice A n c] w (fun ex w' => ∃ v, ex = .returned v ∧ (fun v w' => ∃ A' n' c' e, v = .slice A' n' c' ∧ bC 39 10 A' n' c' ls e ∧ Mem w [] [e] w' ∧ A'.isSome = A.isSome) v w') := by
 refine aI #[.tmp 2] 8 Tryz.func64 rfl Tryz.results64 Tryz.ntmps64 rfl ?_
 have M0 := Mem.refl w
 refine aE (aA (eI rfl rfl (aB (aC (aE (aE (aA (dH rfl rfl (wq (aKo _ Tryz.underlying29 rfl rfl) rfl (aB (aC ?_)))))))))))
 refine iD _ rfl (fun h4 => ?_) (fun h4 => ?_)
 ·refine aE (aA (eI rfl rfl (aB (aC (aO (cO (cG (.slice _ _ _) rfl ?_)))))))
  have hA : A = none := by cases A <;> simp_all
  have hl : ls = [] := by
   rcases Nat.eq_zero_or_pos n with h | h
   ·subst h; exact List.eq_nil_of_length_eq_zero R.len
   ·have := R.some h; rw [hA] at this; cases this
  subst hA; subst hl
  exact ⟨_, _, _, _, rfl, bC.nil 39 10 default, M0.dummy default, rfl⟩
 ·refine aL (aC (aE (aA (cR [] [] rfl dK M0 rfl rfl rfl rfl (dD rfl) (by decide) (fun b1 w1 M1 => (dH rfl rfl (gT 0 ls dK M1 rfl rfl rfl rfl rfl (bC.empty b1) (R.mem M1) h1 (by omega) (fun A2 c2 e2 w2 M2 hR2 hA2 => ?_))))))))
  have hAA := hA2
  refine eI rfl rfl (aB (aC (aO (cG (.slice _ _ _) rfl ?_))))
  refine ⟨_, _, _, _, rfl, by simpa using hR2, M2, ?_⟩
  rw [hAA rfl]; cases A <;> simp_all
end Go.Proofs.YtaoaknafiegfoaaGreatDoor
