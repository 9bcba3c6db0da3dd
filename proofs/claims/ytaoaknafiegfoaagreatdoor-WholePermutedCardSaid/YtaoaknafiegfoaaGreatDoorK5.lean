/- Part of the proof of the laws of this seat: Ty, T26, T25, T20, T20r, T20l, T21, T22, T23, T23l, T24, R5, R6, Bd, Lib, St. No conditions. -/
import Derived.Test.YtaoaknafiegfoaaGreatDoorProg
import Derived.Test.YtaoaknafiegfoaaGreatDoorK2
import Derived.Test.YtaoaknafiegfoaaGreatDoorK3
import Derived.Test.YtaoaknafiegfoaaGreatDoorK4
import Derived.KernelRfl
set_option linter.unusedVariables false
set_option linter.unusedSimpArgs false
set_option linter.unnecessarySimpa false
namespace Go.Proofs.YtaoaknafiegfoaaGreatDoor
open Go.Bil
open Go.Proofs
theorem cC : fU Tryz.prog 35 = true := by kernel_rfl
theorem aU : fU Tryz.prog 21 = true := by kernel_rfl
theorem aNo : ∀ (d : Nat) (w : World) (x0 x1 y0 y1 : Int), (Op.equalIn (d + 2) 37 (.agg [.int .i32 x0, .int .i32 x1].toArray) (.agg [.int .i32 y0, .int .i32 y1].toArray)).run Tryz.prog w = .ok (decide (x0 = y0 ∧ x1 = y1)) w := fun d w x0 x1 y0 y1 => by
  have h := uL (P := Tryz.prog) (T := 37) (dd := d + 1) (xs := [.int .i32 x0, .int .i32 x1]) (ys := [.int .i32 y0, .int .i32 y1]) (w := w) Tryz.underlying37 (by kernel_rfl) (iA rfl (jL aU rfl) (jL aU rfl) (pH (dd := d + 0) Tryz.underlying21) (iA rfl (jL aU rfl) (jL aU rfl) (pH (dd := d + 0) Tryz.underlying21) (aEp)))
  refine h.trans (congrArg (fun r => Result.ok r w) ?_)
  simp only [Bool.decide_and, Bool.and_true, Bool.and_assoc]
theorem bM : gV Tryz.prog 37 = some 2 := by kernel_rfl
theorem bHt : ∀ (d : Nat) (w : World) (x0 x1 x2 x3 x4 x5 x6 x7 x8 x9 y0 y1 y2 y3 y4 y5 y6 y7 y8 y9 : Int), (Op.equalIn (d + 3) 39 (.agg [.int .u32 x0, .int .i32 x1, .int .i32 x2, .int .i32 x3, .int .i32 x4, .int .i32 x5, .int .i32 x6, .int .i32 x7, .int .i32 x8, .int .i32 x9].toArray) (.agg [.int .u32 y0, .int .i32 y1, .int .i32 y2, .int .i32 y3, .int .i32 y4, .int .i32 y5, .int .i32 y6, .int .i32 y7, .int .i32 y8, .int .i32 y9].toArray)).run Tryz.prog w = .ok (decide (x0 = y0 ∧ x1 = y1 ∧ x2 = y2 ∧ x3 = y3 ∧ x4 = y4 ∧ x5 = y5 ∧ x6 = y6 ∧ x7 = y7 ∧ x8 = y8 ∧ x9 = y9)) w := fun d w x0 x1 x2 x3 x4 x5 x6 x7 x8 x9 y0 y1 y2 y3 y4 y5 y6 y7 y8 y9 => by
  have h := uL (P := Tryz.prog) (T := 39) (dd := d + 2) (xs := [.int .u32 x0, .int .i32 x1, .int .i32 x2, .int .i32 x3, .int .i32 x4, .int .i32 x5, .int .i32 x6, .int .i32 x7, .int .i32 x8, .int .i32 x9]) (ys := [.int .u32 y0, .int .i32 y1, .int .i32 y2, .int .i32 y3, .int .i32 y4, .int .i32 y5, .int .i32 y6, .int .i32 y7, .int .i32 y8, .int .i32 y9]) (w := w) Tryz.underlying39 (by kernel_rfl) (iA rfl (jL cC rfl) (jL cC rfl) (pH (dd := d + 1) Tryz.underlying35) (iA rfl (jL aU rfl) (jL aU rfl) (pH (dd := d + 1) Tryz.underlying21) (iA rfl (yH bM rfl) (yH bM rfl) (aNo (d + 0) w x2 x3 y2 y3) (iA rfl (jL aU rfl) (jL aU rfl) (pH (dd := d + 1) Tryz.underlying21) (iA rfl (jL aU rfl) (jL aU rfl) (pH (dd := d + 1) Tryz.underlying21) (iA rfl (yH bM rfl) (yH bM rfl) (aNo (d + 0) w x6 x7 y6 y7) (iA rfl (yH bM rfl) (yH bM rfl) (aNo (d + 0) w x8 x9 y8 y9) (aEp))))))))
  refine h.trans (congrArg (fun r => Result.ok r w) ?_)
  simp only [Bool.decide_and, Bool.and_true, Bool.and_assoc]
theorem bJt : ∀ (x0 x1 x2 x3 x4 x5 x6 x7 x8 x9 y0 y1 y2 y3 y4 y5 y6 y7 y8 y9 : Int), EqA Tryz.prog 39 [.int .u32 x0, .int .i32 x1, .int .i32 x2, .int .i32 x3, .int .i32 x4, .int .i32 x5, .int .i32 x6, .int .i32 x7, .int .i32 x8, .int .i32 x9] [.int .u32 y0, .int .i32 y1, .int .i32 y2, .int .i32 y3, .int .i32 y4, .int .i32 y5, .int .i32 y6, .int .i32 y7, .int .i32 y8, .int .i32 y9] (decide (x0 = y0 ∧ x1 = y1 ∧ x2 = y2 ∧ x3 = y3 ∧ x4 = y4 ∧ x5 = y5 ∧ x6 = y6 ∧ x7 = y7 ∧ x8 = y8 ∧ x9 = y9)) := fun x0 x1 x2 x3 x4 x5 x6 x7 x8 x9 y0 y1 y2 y3 y4 y5 y6 y7 y8 y9 => ⟨by kernel_rfl, fun w => bHt 9997 w x0 x1 x2 x3 x4 x5 x6 x7 x8 x9 y0 y1 y2 y3 y4 y5 y6 y7 y8 y9⟩
theorem bS : gV Tryz.prog 39 = some 10 := by kernel_rfl
theorem bGh : aP Tryz.prog 115 = true := by kernel_rfl
theorem bHi : ∀ (d : Nat) (w : World) (x0 x1 y0 y1 : Int), (Op.equalIn (d + 2) 209 (.agg [.int .u32 x0, .int .u32 x1].toArray) (.agg [.int .u32 y0, .int .u32 y1].toArray)).run Tryz.prog w = .ok (decide (x0 = y0 ∧ x1 = y1)) w := fun d w x0 x1 y0 y1 => by
  have h := uL (P := Tryz.prog) (T := 209) (dd := d + 1) (xs := [.int .u32 x0, .int .u32 x1]) (ys := [.int .u32 y0, .int .u32 y1]) (w := w) Tryz.underlying209 (by kernel_rfl) (iA rfl (jL cC rfl) (jL cC rfl) (pH (dd := d + 0) Tryz.underlying35) (iA rfl (jL cC rfl) (jL cC rfl) (pH (dd := d + 0) Tryz.underlying35) (aEp)))
  refine h.trans (congrArg (fun r => Result.ok r w) ?_)
  simp only [Bool.decide_and, Bool.and_true, Bool.and_assoc]
theorem bEu : ∀ (x0 x1 y0 y1 : Int), EqA Tryz.prog 209 [.int .u32 x0, .int .u32 x1] [.int .u32 y0, .int .u32 y1] (decide (x0 = y0 ∧ x1 = y1)) := fun x0 x1 y0 y1 => ⟨by kernel_rfl, fun w => bHi 9998 w x0 x1 y0 y1⟩
theorem gG : gV Tryz.prog 209 = some 2 := by kernel_rfl
theorem bGm : aP Tryz.prog 213 = true := by kernel_rfl
theorem bHv : jM Tryz.prog 209 = some (.agg [.int .u32 0, .int .u32 0].toArray) := by kernel_rfl
theorem jC : fU Tryz.prog 3 = true := by kernel_rfl
theorem nV : fU Tryz.prog 4 = true := by kernel_rfl
theorem lE : eB Tryz.prog 39 1 1 = true := by kernel_rfl
theorem jK : eB Tryz.prog 39 2 2 = true := by kernel_rfl
theorem dR : eB Tryz.prog 37 0 0 = true := by kernel_rfl
theorem aDf : aP Tryz.prog 62 = true := by kernel_rfl
theorem dJ : eB Tryz.prog 37 1 1 = true := by kernel_rfl
theorem fB : eB Tryz.prog 39 3 4 = true := by kernel_rfl
theorem oX : eB Tryz.prog 39 4 5 = true := by kernel_rfl
theorem fR : eB Tryz.prog 39 5 6 = true := by kernel_rfl
theorem fA : eB Tryz.prog 39 6 8 = true := by kernel_rfl
theorem dW : eD Tryz.prog 29 39 10 40 = true := by kernel_rfl
theorem eP : eB Tryz.prog 39 0 0 = true := by kernel_rfl
theorem mixed : Tryz.prog.follows .mixedOrders = true := by kernel_rfl
theorem aJj : aP Tryz.prog 139 = true := by kernel_rfl
theorem lI : fQ Tryz.prog 194 [.nilFunc, .int .i64 0] [(0, 1), (1, 1)] := dY Tryz.underlying194 (by kernel_rfl) (by kernel_rfl) (by kernel_rfl)
theorem rU : wR Tryz.prog 196 6 194 2 = true := by kernel_rfl
theorem bBj : fM Tryz.prog 196 = some [.nilFunc, .int .i64 0, .nilFunc, .int .i64 0, .nilFunc, .int .i64 0, .nilFunc, .int .i64 0, .nilFunc, .int .i64 0, .nilFunc, .int .i64 0] := by kernel_rfl
theorem kS : gV Tryz.prog 194 = some 2 := by kernel_rfl
theorem qV : fM Tryz.prog 194 = some [.nilFunc, .int .i64 0] := by kernel_rfl
theorem nJ : eB Tryz.prog 194 0 0 = true := by kernel_rfl
theorem aCb : fU Tryz.prog 23 = true := by kernel_rfl
theorem bFt : aP Tryz.prog 137 = true := by kernel_rfl
theorem nM : eB Tryz.prog 194 1 1 = true := by kernel_rfl
theorem vR : fU Tryz.prog 30 = true := by kernel_rfl
theorem bDd : aP Tryz.prog 138 = true := by kernel_rfl
theorem bGd : aP Tryz.prog 140 = true := by kernel_rfl
theorem bGt : aP Tryz.prog 141 = true := by kernel_rfl
theorem bHc : aP Tryz.prog 142 = true := by kernel_rfl
theorem bDc : aP Tryz.prog 143 = true := by kernel_rfl
theorem aLt : aP Tryz.prog 102 = true := by kernel_rfl
theorem iX : eB Tryz.prog 103 1 1 = true := by kernel_rfl
theorem mX : fU Tryz.prog 101 = true := by kernel_rfl
theorem pX : uY Tryz.prog 101 35 3 .u32 = true := by kernel_rfl
theorem zv3 : jM Tryz.prog 3 = some (.int .i64 0) := by kernel_rfl
theorem fD : eB Tryz.prog 103 0 0 = true := by kernel_rfl
theorem fI : fU Tryz.prog 29 = true := by kernel_rfl
theorem gS : fM Tryz.prog 39 = some [.int .u32 0, .int .i32 0, .int .i32 0, .int .i32 0, .int .i32 0, .int .i32 0, .int .i32 0, .int .i32 0, .int .i32 0, .int .i32 0] := by kernel_rfl
theorem zW : fQ Tryz.prog 39 [.int .u32 0, .int .i32 0, .int .i32 0, .int .i32 0, .int .i32 0, .int .i32 0, .int .i32 0, .int .i32 0, .int .i32 0, .int .i32 0] [(0, 1), (1, 1), (2, 2), (4, 1), (5, 1), (6, 2), (8, 2)] := dY Tryz.underlying39 (by kernel_rfl) (by kernel_rfl) (by kernel_rfl)
theorem aUj : aP Tryz.prog 151 = true := by kernel_rfl
theorem aEw : aP Tryz.prog 116 = true := by kernel_rfl
theorem bIq : aP Tryz.prog 64 = true := by kernel_rfl
theorem bGf : aP Tryz.prog 114 = true := by kernel_rfl
theorem aTo : aP Tryz.prog 27 = true := by kernel_rfl
theorem bDb : aP Tryz.prog 119 = true := by kernel_rfl
theorem us3 : (Tryz.prog.underlying 3).isSome = true := by kernel_rfl
theorem bIl : (Tryz.prog.underlying 178).isSome = true := by kernel_rfl
theorem aUw : aP Tryz.prog 188 = true := by kernel_rfl
theorem bDt : aP Tryz.prog 187 = true := by kernel_rfl
theorem aUk : aP Tryz.prog 253 = true := by kernel_rfl
theorem aDs : fM Tryz.prog 253 = some [.int .i32 0, .int .i32 0, .int .i32 0, .int .i32 0] := by kernel_rfl
theorem bEt : aP Tryz.prog 229 = true := by kernel_rfl
theorem aCr : fQ Tryz.prog 253 [.int .i32 0, .int .i32 0, .int .i32 0, .int .i32 0] [(0, 1), (1, 1), (2, 1), (3, 1)] := dY Tryz.underlying253 (by kernel_rfl) (by kernel_rfl) (by kernel_rfl)
theorem iT : gV Tryz.prog 253 = some 4 := by kernel_rfl
theorem tR : eB Tryz.prog 253 0 0 = true := by kernel_rfl
theorem sW : eB Tryz.prog 253 2 2 = true := by kernel_rfl
theorem tP : eB Tryz.prog 253 1 1 = true := by kernel_rfl
theorem sU : eB Tryz.prog 253 3 3 = true := by kernel_rfl
theorem aJu : aP Tryz.prog 231 = true := by kernel_rfl
theorem bEs : aP Tryz.prog 232 = true := by kernel_rfl
theorem oQ : fM Tryz.prog 283 = some [.int .i32 0, .int .i32 0] := by kernel_rfl
theorem aBv : fQ Tryz.prog 283 [.int .i32 0, .int .i32 0] [(0, 1), (1, 1)] := dY Tryz.underlying283 (by kernel_rfl) (by kernel_rfl) (by kernel_rfl)
theorem gT : gV Tryz.prog 283 = some 2 := by kernel_rfl
theorem fE : fQ Tryz.prog 37 [.int .i32 0, .int .i32 0] [(0, 1), (1, 1)] := dY Tryz.underlying37 (by kernel_rfl) (by kernel_rfl) (by kernel_rfl)
theorem aTy : aP Tryz.prog 267 = true := by kernel_rfl
theorem bDp : aP Tryz.prog 254 = true := by kernel_rfl
theorem aMx : fM Tryz.prog 4 = some [.bool false] := by kernel_rfl
theorem yF : eB Tryz.prog 283 1 1 = true := by kernel_rfl
theorem zG : eB Tryz.prog 283 0 0 = true := by kernel_rfl
theorem bAu : fM Tryz.prog 281 = some [.slice none 0 0] := by kernel_rfl
theorem bDi : aP Tryz.prog 230 = true := by kernel_rfl
theorem bGk : aP Tryz.prog 255 = true := by kernel_rfl
theorem aMl : fU Tryz.prog 281 = true := by kernel_rfl
theorem aTw : eD Tryz.prog 281 283 2 8 = true := by kernel_rfl
theorem fW : (Tryz.prog.underlying 21).isSome = true := by kernel_rfl
theorem aUg : wR Tryz.prog 323 2 35 1 = true := by kernel_rfl
theorem sJ : (Tryz.prog.underlying 35).isSome = true := by kernel_rfl
theorem bGz : aP Tryz.prog 245 = true := by kernel_rfl
theorem us2 : (Tryz.prog.underlying 2).isSome = true := by kernel_rfl
theorem aCi : (Tryz.prog.underlying 237).isSome = true := by kernel_rfl
theorem pV : aP Tryz.prog 222 = true := by kernel_rfl
theorem aJq : aP Tryz.prog 221 = true := by kernel_rfl
theorem aUl : aP Tryz.prog 223 = true := by kernel_rfl
theorem aEv : aP Tryz.prog 224 = true := by kernel_rfl
theorem aDv : aP Tryz.prog 246 = true := by kernel_rfl
theorem aTf : aP Tryz.prog 240 = true := by kernel_rfl
theorem aJv : aP Tryz.prog 216 = true := by kernel_rfl
theorem bEv : aP Tryz.prog 242 = true := by kernel_rfl
theorem gL : fM Tryz.prog 37 = some [.int .i32 0, .int .i32 0] := by kernel_rfl
theorem aVm : aP Tryz.prog 218 = true := by kernel_rfl
theorem aTk : aP Tryz.prog 241 = true := by kernel_rfl
theorem aAd : aP Tryz.prog 239 = true := by kernel_rfl
theorem lS : fU Tryz.prog 2 = true := by kernel_rfl
theorem aFn : aP Tryz.prog 189 = true := by kernel_rfl
theorem bDu : aP Tryz.prog 282 = true := by kernel_rfl
theorem xV : fM Tryz.prog 2 = some [.int .i64 0] := by kernel_rfl
theorem aXb : aP Tryz.prog 283 = true := by kernel_rfl
theorem pM : fU Tryz.prog 237 = true := by kernel_rfl
theorem bBt : fM Tryz.prog 237 = some [.int .u64 0] := by kernel_rfl
theorem vF : wR Tryz.prog 369 2 37 2 = true := by kernel_rfl
theorem aOl : fM Tryz.prog 369 = some [.int .i32 0, .int .i32 0, .int .i32 0, .int .i32 0] := by kernel_rfl
theorem aFh : aP Tryz.prog 277 = true := by kernel_rfl
theorem aFf : aP Tryz.prog 276 = true := by kernel_rfl
theorem bEi : aP Tryz.prog 259 = true := by kernel_rfl
theorem sT : fM Tryz.prog 296 = some [.int .u32 0, .int .i32 0, .int .i32 0, .int .i32 0, .int .i32 0, .int .i32 0, .int .i32 0, .int .i32 0, .int .i32 0, .int .i32 0, .int .i32 0, .int .i32 0, .int .i32 0, .int .i32 0] := by kernel_rfl
theorem bEb : aP Tryz.prog 258 = true := by kernel_rfl
theorem aQr : fQ Tryz.prog 296 [.int .u32 0, .int .i32 0, .int .i32 0, .int .i32 0, .int .i32 0, .int .i32 0, .int .i32 0, .int .i32 0, .int .i32 0, .int .i32 0, .int .i32 0, .int .i32 0, .int .i32 0, .int .i32 0] [(0, 10), (10, 2), (12, 2)] := dY Tryz.underlying296 (by kernel_rfl) (by kernel_rfl) (by kernel_rfl)
theorem kV : gV Tryz.prog 296 = some 14 := by kernel_rfl
theorem aEo : aP Tryz.prog 237 = true := by kernel_rfl
theorem aGl : eB Tryz.prog 296 1 10 = true := by kernel_rfl
theorem aIn : eB Tryz.prog 296 2 12 = true := by kernel_rfl
theorem bFl : aP Tryz.prog 238 = true := by kernel_rfl
theorem tD : eB Tryz.prog 296 0 0 = true := by kernel_rfl
theorem uB : fM Tryz.prog 211 = some [.int .u32 0, .int .u32 0, .int .i32 0, .int .i32 0, .int .i32 0] := by kernel_rfl
theorem bGo : aP Tryz.prog 214 = true := by kernel_rfl
theorem bGp : aP Tryz.prog 215 = true := by kernel_rfl
theorem aDh : fQ Tryz.prog 211 [.int .u32 0, .int .u32 0, .int .i32 0, .int .i32 0, .int .i32 0] [(0, 2), (2, 2), (4, 1)] := dY Tryz.underlying211 (by kernel_rfl) (by kernel_rfl) (by kernel_rfl)
theorem gI : gV Tryz.prog 211 = some 5 := by kernel_rfl
theorem aBx : fQ Tryz.prog 209 [.int .u32 0, .int .u32 0] [(0, 1), (1, 1)] := dY Tryz.underlying209 (by kernel_rfl) (by kernel_rfl) (by kernel_rfl)
theorem qT : fM Tryz.prog 209 = some [.int .u32 0, .int .u32 0] := by kernel_rfl
theorem bFz : aP Tryz.prog 217 = true := by kernel_rfl
theorem aIt : eB Tryz.prog 250 1 1024 = true := by kernel_rfl
theorem bGa : aP Tryz.prog 204 = true := by kernel_rfl
theorem bGv : aP Tryz.prog 205 = true := by kernel_rfl
theorem aXn : uY Tryz.prog 280 3 4 .i64 = true := by kernel_rfl
theorem zv4 : jM Tryz.prog 4 = some (.bool false) := by kernel_rfl
theorem yE : eB Tryz.prog 250 0 0 = true := by kernel_rfl
theorem aKf : wR Tryz.prog 248 1024 247 1 = true := by kernel_rfl
theorem aFd : fU Tryz.prog 247 = true := by kernel_rfl
theorem aGq : eD Tryz.prog 247 35 1 4 = true := by kernel_rfl
theorem aTs : eD Tryz.prog 353 3 1 8 = true := by kernel_rfl
theorem nQ : eB Tryz.prog 209 0 0 = true := by kernel_rfl
theorem nU : eB Tryz.prog 209 1 1 = true := by kernel_rfl
theorem bDh : aP Tryz.prog 236 = true := by kernel_rfl
theorem bFd : fU Tryz.prog 287 = true := by kernel_rfl
theorem bEx : aP Tryz.prog 235 = true := by kernel_rfl
theorem aKz : fU Tryz.prog 220 = true := by kernel_rfl
theorem sY : eD Tryz.prog 220 209 2 8 = true := by kernel_rfl
theorem bHe : aP Tryz.prog 256 = true := by kernel_rfl
theorem bDn : aP Tryz.prog 233 = true := by kernel_rfl
theorem bEm : aP Tryz.prog 234 = true := by kernel_rfl
theorem bEl : gV Tryz.prog 248 = some 1024 := by kernel_rfl
theorem bEe : aP Tryz.prog 210 = true := by kernel_rfl
theorem aRh : fQ Tryz.prog 288 [] [] := dY Tryz.underlying288 (by kernel_rfl) (by kernel_rfl) (by kernel_rfl)
theorem bGr : aP Tryz.prog 212 = true := by kernel_rfl
theorem bFo : aP Tryz.prog 211 = true := by kernel_rfl
theorem bEz : aP Tryz.prog 203 = true := by kernel_rfl
theorem aDo : uY Tryz.prog 245 35 253 .u32 = true := by kernel_rfl
theorem bJb : fM Tryz.prog 3 = some [.int .i64 0] := by kernel_rfl
theorem aXx : fU Tryz.prog 245 = true := by kernel_rfl
theorem aYc : jM Tryz.prog 253 = some (.agg [.int .i32 0, .int .i32 0, .int .i32 0, .int .i32 0].toArray) := by kernel_rfl
theorem bFx : aP Tryz.prog 207 = true := by kernel_rfl
theorem aTt : aP Tryz.prog 206 = true := by kernel_rfl
theorem bGb : aP Tryz.prog 209 = true := by kernel_rfl
theorem bFm : aP Tryz.prog 180 = true := by kernel_rfl
theorem bFj : aP Tryz.prog 181 = true := by kernel_rfl
theorem bDz : aP Tryz.prog 182 = true := by kernel_rfl
theorem bDk : aP Tryz.prog 184 = true := by kernel_rfl
theorem bFs : aP Tryz.prog 183 = true := by kernel_rfl
theorem bDa : aP Tryz.prog 208 = true := by kernel_rfl
theorem yC : eB Tryz.prog 219 0 0 = true := by kernel_rfl
theorem xU : fU Tryz.prog 217 = true := by kernel_rfl
theorem xX : uY Tryz.prog 217 35 39 .u32 = true := by kernel_rfl
theorem aZd : jM Tryz.prog 39 = some (.agg [.int .u32 0, .int .i32 0, .int .i32 0, .int .i32 0, .int .i32 0, .int .i32 0, .int .i32 0, .int .i32 0, .int .i32 0, .int .i32 0].toArray) := by kernel_rfl
theorem aTp : aP Tryz.prog 185 = true := by kernel_rfl
theorem qB : eB Tryz.prog 219 1 1 = true := by kernel_rfl
theorem mA : fU Tryz.prog 166 = true := by kernel_rfl
theorem aDi : eD Tryz.prog 166 211 5 20 = true := by kernel_rfl
theorem bGl : aP Tryz.prog 159 = true := by kernel_rfl
theorem aRt : fQ Tryz.prog 219 [.map none, .slice none 0 0] [(0, 1), (1, 1)] := dY Tryz.underlying219 (by kernel_rfl) (by kernel_rfl) (by kernel_rfl)
theorem bDg : aP Tryz.prog 157 = true := by kernel_rfl
theorem bDm : aP Tryz.prog 158 = true := by kernel_rfl
theorem bHh : aP Tryz.prog 284 = true := by kernel_rfl
theorem bEh : aP Tryz.prog 278 = true := by kernel_rfl
theorem oC : eB Tryz.prog 211 1 2 = true := by kernel_rfl
theorem bEa : aP Tryz.prog 260 = true := by kernel_rfl
theorem bFn : aP Tryz.prog 261 = true := by kernel_rfl
theorem aVr : aP Tryz.prog 262 = true := by kernel_rfl
theorem aWr : aP Tryz.prog 263 = true := by kernel_rfl
theorem nO : eB Tryz.prog 303 0 0 = true := by kernel_rfl
theorem sZ : eB Tryz.prog 211 0 0 = true := by kernel_rfl
theorem aEd : aP Tryz.prog 161 = true := by kernel_rfl
theorem bHj : aP Tryz.prog 243 = true := by kernel_rfl
theorem aSq : aP Tryz.prog 244 = true := by kernel_rfl
theorem nL : eB Tryz.prog 303 1 1 = true := by kernel_rfl
theorem kW : fU Tryz.prog 260 = true := by kernel_rfl
theorem oE : eB Tryz.prog 303 2 2 = true := by kernel_rfl
theorem mO : eD Tryz.prog 260 2 1 8 = true := by kernel_rfl
theorem bEo : aP Tryz.prog 220 = true := by kernel_rfl
theorem aCo : fQ Tryz.prog 303 [.slice none 0 0, .slice none 0 0, .slice none 0 0] [(0, 1), (1, 1), (2, 1)] := dY Tryz.underlying303 (by kernel_rfl) (by kernel_rfl) (by kernel_rfl)
theorem aUa : aP Tryz.prog 219 = true := by kernel_rfl
theorem bDo : aP Tryz.prog 186 = true := by kernel_rfl
theorem aLi : aP Tryz.prog 148 = true := by kernel_rfl
theorem bFg : aP Tryz.prog 160 = true := by kernel_rfl
theorem aTg : eB Tryz.prog 211 2 4 = true := by kernel_rfl
theorem aVf : aP Tryz.prog 190 = true := by kernel_rfl
theorem vC : fU Tryz.prog 127 = true := by kernel_rfl
theorem zC : eD Tryz.prog 127 177 2 16 = true := by kernel_rfl
theorem aAp : eB Tryz.prog 177 0 0 = true := by kernel_rfl
theorem zD : eB Tryz.prog 177 1 1 = true := by kernel_rfl
theorem bBh : fM Tryz.prog 177 = some [.int .i64 0, .int .i64 0] := by kernel_rfl
theorem bBg : fM Tryz.prog 127 = some [.slice none 0 0] := by kernel_rfl
theorem aWq : aP Tryz.prog 163 = true := by kernel_rfl
theorem aUf : aP Tryz.prog 162 = true := by kernel_rfl
theorem aBz : eD Tryz.prog 201 174 1 8 = true := by kernel_rfl
theorem bDs : fU Tryz.prog 174 = true := by kernel_rfl
theorem bEd : aP Tryz.prog 111 = true := by kernel_rfl
theorem aAf : aP Tryz.prog 112 = true := by kernel_rfl
theorem bGj : aP Tryz.prog 110 = true := by kernel_rfl
theorem aWo : aP Tryz.prog 109 = true := by kernel_rfl
theorem bFr : aP Tryz.prog 113 = true := by kernel_rfl
theorem bJx : aP Tryz.prog 66 = true := by kernel_rfl
theorem bJv : aP Tryz.prog 67 = true := by kernel_rfl
theorem tW : eB Tryz.prog 168 1 1 = true := by kernel_rfl
theorem oB : eB Tryz.prog 168 3 3 = true := by kernel_rfl
theorem sO : eB Tryz.prog 58 2 2 = true := by kernel_rfl
theorem aAo : eB Tryz.prog 168 0 0 = true := by kernel_rfl
theorem bHa : aP Tryz.prog 144 = true := by kernel_rfl
theorem tZ : eB Tryz.prog 168 2 2 = true := by kernel_rfl
theorem aNz : eB Tryz.prog 58 0 0 = true := by kernel_rfl
theorem aFi : eB Tryz.prog 58 1 1 = true := by kernel_rfl
theorem aKl : aP Tryz.prog 145 = true := by kernel_rfl
theorem bGx : aP Tryz.prog 146 = true := by kernel_rfl
theorem bEn : aP Tryz.prog 147 = true := by kernel_rfl
theorem sL : fM Tryz.prog 58 = some [.int .i64 0, .int .i64 0, .bool false] := by kernel_rfl
theorem aRp : fQ Tryz.prog 168 [.slice none 0 0, .slice none 0 0, .slice none 0 0, .int .i64 0, .int .i64 0, .bool false] [(0, 1), (1, 1), (2, 1), (3, 3)] := dY Tryz.underlying168 (by kernel_rfl) (by kernel_rfl) (by kernel_rfl)
theorem yB : wR Tryz.prog 170 4 169 1 = true := by kernel_rfl
theorem bAw : fM Tryz.prog 170 = some [.nilFunc, .nilFunc, .nilFunc, .nilFunc] := by kernel_rfl
theorem aEq : fU Tryz.prog 169 = true := by kernel_rfl
theorem bGy : aP Tryz.prog 105 = true := by kernel_rfl
theorem bGq : aP Tryz.prog 106 = true := by kernel_rfl
theorem bFb : aP Tryz.prog 107 = true := by kernel_rfl
theorem bEk : aP Tryz.prog 108 = true := by kernel_rfl
theorem nP : gV Tryz.prog 58 = some 3 := by kernel_rfl
theorem bCp : aP Tryz.prog 65 = true := by kernel_rfl
theorem mL : eD Tryz.prog 31 5 1 1 = true := by kernel_rfl
theorem aEt : fM Tryz.prog 139 = some [.int .u32 0, .int .u32 0, .int .u32 0, .int .u32 0, .int .u32 0, .int .u32 0, .int .u32 0, .int .u32 0, .int .u32 0, .int .u32 0] := by kernel_rfl
theorem fN : wR Tryz.prog 139 10 35 1 = true := by kernel_rfl
theorem oH : aP Tryz.prog 136 = true := by kernel_rfl
theorem aMn : gV Tryz.prog 139 = some 10 := by kernel_rfl
theorem aRz : fU Tryz.prog 5 = true := by kernel_rfl
theorem us5 : (Tryz.prog.underlying 5).isSome = true := by kernel_rfl
theorem aJn : aP Tryz.prog 118 = true := by kernel_rfl
theorem bCu : aP Tryz.prog 82 = true := by kernel_rfl
theorem aTr : aP Tryz.prog 100 = true := by kernel_rfl
theorem bFi : aP Tryz.prog 101 = true := by kernel_rfl
theorem pL : aP Tryz.prog 79 = true := by kernel_rfl
theorem pY : aP Tryz.prog 80 = true := by kernel_rfl
theorem bJr : aP Tryz.prog 81 = true := by kernel_rfl
theorem pS : eB Tryz.prog 107 0 0 = true := by kernel_rfl
theorem aXy : aP Tryz.prog 60 = true := by kernel_rfl
theorem nH : eB Tryz.prog 105 0 0 = true := by kernel_rfl
theorem bCq : aP Tryz.prog 61 = true := by kernel_rfl
theorem bGu : aP Tryz.prog 122 = true := by kernel_rfl
theorem bFv : aP Tryz.prog 117 = true := by kernel_rfl
theorem bIy : aP Tryz.prog 68 = true := by kernel_rfl
theorem aOg : aP Tryz.prog 38 = true := by kernel_rfl
theorem bIs : aP Tryz.prog 58 = true := by kernel_rfl
theorem bIw : aP Tryz.prog 69 = true := by kernel_rfl
theorem bHg : aP Tryz.prog 124 = true := by kernel_rfl
theorem bGg : aP Tryz.prog 125 = true := by kernel_rfl
theorem aSl : fQ Tryz.prog 105 [.slice none 0 0, .map none] [(0, 2)] := dY Tryz.underlying105 (by kernel_rfl) (by kernel_rfl) (by kernel_rfl)
theorem bEr : gV Tryz.prog 105 = some 2 := by kernel_rfl
theorem aTl : aP Tryz.prog 78 = true := by kernel_rfl
theorem bCo : aP Tryz.prog 54 = true := by kernel_rfl
theorem aFv : fU Tryz.prog 31 = true := by kernel_rfl
theorem bBl : eB Tryz.prog 41 1 1 = true := by kernel_rfl
theorem aOc : eB Tryz.prog 41 2 11 = true := by kernel_rfl
theorem bAr : eB Tryz.prog 41 4 14 = true := by kernel_rfl
theorem bIz : aP Tryz.prog 83 = true := by kernel_rfl
theorem kD : uY Tryz.prog 109 3 34 .i64 = true := by kernel_rfl
theorem bIc : aP Tryz.prog 85 = true := by kernel_rfl
theorem bIi : aP Tryz.prog 88 = true := by kernel_rfl
theorem jU : fM Tryz.prog 33 = some [.int .i64 0, .slice none 0 0, .int .i64 0, .bool false] := by kernel_rfl
theorem aUz : fU Tryz.prog 143 = true := by kernel_rfl
theorem bGs : fU Tryz.prog 144 = true := by kernel_rfl
theorem mE : gV Tryz.prog 41 = some 15 := by kernel_rfl
theorem lT : fQ Tryz.prog 33 [.int .i64 0, .slice none 0 0, .int .i64 0, .bool false] [(0, 1), (1, 1), (2, 1), (3, 1)] := dY Tryz.underlying33 (by kernel_rfl) (by kernel_rfl) (by kernel_rfl)
theorem bIx : aP Tryz.prog 84 = true := by kernel_rfl
theorem aOd : aP Tryz.prog 26 = true := by kernel_rfl
theorem gH : gV Tryz.prog 33 = some 4 := by kernel_rfl
theorem aUq : fU Tryz.prog 146 = true := by kernel_rfl
theorem bEg : fU Tryz.prog 148 = true := by kernel_rfl
theorem bIb : aP Tryz.prog 87 = true := by kernel_rfl
theorem bJw : aP Tryz.prog 86 = true := by kernel_rfl
theorem aVz : fU Tryz.prog 150 = true := by kernel_rfl
theorem bHd : fU Tryz.prog 151 = true := by kernel_rfl
theorem bIa : aP Tryz.prog 89 = true := by kernel_rfl
theorem bIv : aP Tryz.prog 74 = true := by kernel_rfl
theorem aYz : eB Tryz.prog 41 3 12 = true := by kernel_rfl
theorem bJp : aP Tryz.prog 91 = true := by kernel_rfl
theorem bCv : aP Tryz.prog 53 = true := by kernel_rfl
theorem aCn : aP Tryz.prog 24 = true := by kernel_rfl
theorem oN : eB Tryz.prog 41 0 0 = true := by kernel_rfl
theorem xS : aP Tryz.prog 55 = true := by kernel_rfl
theorem aKs : jM Tryz.prog 34 = some (.nilFunc) := by kernel_rfl
theorem bEj : aP Tryz.prog 120 = true := by kernel_rfl
theorem bHk : aP Tryz.prog 121 = true := by kernel_rfl
theorem bEp : aP Tryz.prog 123 = true := by kernel_rfl
theorem bHs : aP Tryz.prog 90 = true := by kernel_rfl
theorem bJq : aP Tryz.prog 92 = true := by kernel_rfl
theorem bIf : aP Tryz.prog 93 = true := by kernel_rfl
theorem aLm : eD Tryz.prog 27 41 15 88 = true := by kernel_rfl
theorem bHb : fM Tryz.prog 41 = some [.int .i64 0, .int .u32 0, .int .i32 0, .int .i32 0, .int .i32 0, .int .i32 0, .int .i32 0, .int .i32 0, .int .i32 0, .int .i32 0, .int .i32 0, .int .u32 0, .int .i32 0, .int .i32 0, .slice none 0 0] := by kernel_rfl
theorem aTz : aP Tryz.prog 20 = true := by kernel_rfl
theorem bHw : eD Tryz.prog 63 33 4 48 = true := by kernel_rfl
theorem bBs : fM Tryz.prog 107 = some [.slice none 0 0, .map none] := by kernel_rfl
theorem bIp : aP Tryz.prog 33 = true := by kernel_rfl
theorem aIf : eD Tryz.prog 22 46 15 88 = true := by kernel_rfl
theorem aNp : eB Tryz.prog 46 4 14 = true := by kernel_rfl
theorem aNd : eB Tryz.prog 46 0 0 = true := by kernel_rfl
theorem aZv : eB Tryz.prog 46 1 1 = true := by kernel_rfl
theorem aYs : eB Tryz.prog 46 2 11 = true := by kernel_rfl
theorem bBm : eB Tryz.prog 46 3 12 = true := by kernel_rfl
theorem aWa : aP Tryz.prog 23 = true := by kernel_rfl
theorem aOi : eB Tryz.prog 33 0 0 = true := by kernel_rfl
theorem aOb : eB Tryz.prog 33 1 1 = true := by kernel_rfl
theorem aOh : eB Tryz.prog 33 2 2 = true := by kernel_rfl
theorem aNs : eB Tryz.prog 33 3 3 = true := by kernel_rfl
theorem sQ : fQ Tryz.prog 41 [.int .i64 0, .int .u32 0, .int .i32 0, .int .i32 0, .int .i32 0, .int .i32 0, .int .i32 0, .int .i32 0, .int .i32 0, .int .i32 0, .int .i32 0, .int .u32 0, .int .i32 0, .int .i32 0, .slice none 0 0] [(0, 1), (1, 10), (11, 1), (12, 2), (14, 1)] := dY Tryz.underlying41 (by kernel_rfl) (by kernel_rfl) (by kernel_rfl)
theorem aVu : aP Tryz.prog 18 = true := by kernel_rfl
theorem bJc : aP Tryz.prog 17 = true := by kernel_rfl
theorem bJo : aP Tryz.prog 37 = true := by kernel_rfl
theorem aNj : aP Tryz.prog 52 = true := by kernel_rfl
theorem bCg : ∀ (x0 x1 y0 y1 : Int), EqA Tryz.prog 37 [.int .i32 x0, .int .i32 x1] [.int .i32 y0, .int .i32 y1] (decide (x0 = y0 ∧ x1 = y1)) := fun x0 x1 y0 y1 => ⟨by kernel_rfl, fun w => aNo 9998 w x0 x1 y0 y1⟩
theorem aMr : aP Tryz.prog 16 = true := by kernel_rfl
theorem aXa : jY Tryz.prog 4 39 = some [.u32, .i32, .i32, .i32, .i32, .i32, .i32, .i32, .i32, .i32] := by kernel_rfl
theorem bJi : aP Tryz.prog 19 = true := by kernel_rfl
theorem bIu : aP Tryz.prog 28 = true := by kernel_rfl
end Go.Proofs.YtaoaknafiegfoaaGreatDoor

namespace Go.Proofs.YtaoaknafiegfoaaGreatDoor
open Go.Bil
open Go.RowKit (Below)
open Go.Proofs
set_option maxHeartbeats 4000000 in
theorem nF (w : World) (n l : Int) (h0 : 0 ≤ l) (h1 : l ≤ 2147483647) :
  Calls Tryz.prog 62 #[.int .i32 n, .int .i32 l] w (fun ex w' => ∃ v, ex = .returned v ∧ (fun v w' => v = .bool (decide (sA n l)) ∧ Below w.heap.size w w') v w') := by
 have hneg : IntKind.i32.wrap (-l) = -l := lV _ (by omega) (by omega)
 refine aH #[.tmp 4] 14 Tryz.func62 rfl Tryz.results62 Tryz.ntmps62 rfl ?_
 have M0 := Mem.refl w
 refine aD (aA (wq (aI (.bool false) rfl) rfl (aB (aC (aD (aA (aY rfl rfl (aY rfl rfl (wq (yM rfl) rfl ?_)))))))))
 refine aT 7 (.int .i32 (-l)) (iE hneg) (dA rfl rfl rfl rfl (wq (aG (.bool (decide _)) rfl) rfl ?_))
 refine cU 9 rfl (fun g9 => ?_) (fun g9 => ?_)
 ·refine aY rfl rfl (aY rfl rfl (dA rfl rfl rfl rfl (wq (bQ true (.bool (decide _)) rfl rfl) rfl (wq (aI (.bool (decide _)) rfl) rfl (aB (aC (aM ?_)))))))
  refine bW (.bool (decide _)) rfl ?_
  exact ⟨by unfold sA; first | exact bF (by omega) | exact bD (by omega), M0.below⟩
 ·refine aN rfl rfl (aN rfl rfl (aN rfl rfl (wq (bQ false (.bool false) rfl rfl) rfl (wq (aI (.bool false) rfl) rfl (aB (aC (aM ?_)))))))
  refine bW (.bool false) rfl ?_
  exact ⟨by unfold sA; first | exact bF (by omega) | exact bD (by omega), M0.below⟩
set_option maxHeartbeats 4000000 in
theorem qI (w : World) (b : Body) :
  Calls Tryz.prog 27 #[(.agg (aF b).toArray)] w (fun ex w' => ∃ v, ex = .returned v ∧ (fun v w' => v = .int .i64 (check b) ∧ Below w.heap.size w w') v w') := by
 refine aH #[.tmp 2] 63 Tryz.func27 rfl Tryz.results27 Tryz.ntmps27 rfl ?_
 have M0 := Mem.refl w
 refine aD (aA (bG (.agg (List.toArray _)) M0 rfl rfl rfl (fun b1 w1 M1 => (bP rfl rfl (aB (aC (aD (aD (aA (wq (aE 1 lE rfl) rfl (wq (aL 0 (.int _ _) aU M1 rfl rfl rfl) rfl ?_)))))))))))
 refine dA rfl rfl rfl rfl (wq (aG (.bool (decide _)) rfl) rfl ?_)
 refine cU 6 rfl (fun g6 => ?_) (fun g6 => ?_)
 ·refine aN rfl rfl (aN rfl rfl (aN rfl rfl (wq (bQ true (.bool true) rfl rfl) rfl (aB (aC (cM rfl ?_))))))
  refine aD (aA (bP rfl rfl (aB (aC (aM (cE (bW (.int _ _) rfl ?_)))))))
  exact ⟨iE (by unfold check; unfold sA at *; (repeat' split) <;> omega), M1.below⟩
 ·refine wq (aE 1 lE rfl) rfl (wq (aL 0 (.int _ _) aU M1 rfl rfl rfl) rfl (dA rfl rfl rfl rfl (wq (bQ false (.bool (decide _)) rfl rfl) rfl (aB (aC ?_)))))
  refine aZ rfl (fun h10 => ?_) (fun h10 => ?_)
  ·refine aD (aA (bP rfl rfl (aB (aC (aM (cE (bW (.int _ _) rfl ?_)))))))
   exact ⟨iE (by unfold check; unfold sA at *; (repeat' split) <;> omega), M1.below⟩
  ·refine aK (aC (aD (aD (aA (wq (aE 2 jK rfl) rfl (wq (aE 0 dR rfl) rfl (wq (aL 0 (.int _ _) aU M1 rfl rfl rfl) rfl (bX aDf rfl rfl (nF _ _ _ (by omega) (by omega)) ?_))))))))
   rintro v2 w2 ⟨rfl, hb2⟩
   have M2 := M1.callB hb2
   refine wq (lM rfl) rfl (wq (aG (.bool (decide _)) rfl) rfl ?_)
   refine cU 16 rfl (fun g16 => ?_) (fun g16 => ?_)
   ·refine aN rfl rfl (aN rfl rfl (aN rfl rfl (aN rfl rfl (aN rfl rfl (wq (bQ true (.bool true) rfl rfl) rfl ?_)))))
    refine aB (aC (cM rfl (aD (aA (bP rfl rfl (aB (aC (aM (cE (bW (.int _ _) rfl ?_))))))))))
    exact ⟨iE (by unfold check; unfold sA at *; (repeat' split) <;> omega), M2.below⟩
   ·refine wq (aE 2 jK rfl) rfl (wq (aE 1 dJ rfl) rfl (wq (aL 0 (.int _ _) aU M2 rfl rfl rfl) rfl (bX aDf rfl rfl (nF _ _ _ (by omega) (by omega)) ?_)))
    rintro v3 w3 ⟨rfl, hb3⟩
    have M3 := M2.callB hb3
    refine wq (lM rfl) rfl (wq (bQ false (.bool (decide _)) rfl rfl) rfl (aB (aC ?_)))
    refine aZ rfl (fun h22 => ?_) (fun h22 => ?_)
    ·refine aD (aA (bP rfl rfl (aB (aC (aM (cE (bW (.int _ _) rfl ?_)))))))
     exact ⟨iE (by unfold check; unfold sA at *; (repeat' split) <;> omega), M3.below⟩
    ·refine aK (aC (aD (aD (aA (wq (aE 4 fB rfl) rfl (wq (aL 0 (.int _ _) aU M3 rfl rfl rfl) rfl (dA rfl rfl rfl rfl (wq (aG (.bool (decide _)) rfl) rfl ?_))))))))
     refine cU 26 rfl (fun g26 => ?_) (fun g26 => ?_)
     ·refine aN rfl rfl (aN rfl rfl (aN rfl rfl (wq (bQ true (.bool true) rfl rfl) rfl (aB (aC (cM rfl ?_))))))
      refine aD (aA (bP rfl rfl (aB (aC (aM (cE (bW (.int _ _) rfl ?_)))))))
      exact ⟨iE (by unfold check; unfold sA at *; (repeat' split) <;> omega), M3.below⟩
     ·refine wq (aE 4 fB rfl) rfl (wq (aL 0 (.int _ _) aU M3 rfl rfl rfl) rfl (dA rfl rfl rfl rfl (wq (bQ false (.bool (decide _)) rfl rfl) rfl (aB (aC ?_)))))
      refine aZ rfl (fun h30 => ?_) (fun h30 => ?_)
      ·refine aD (aA (bP rfl rfl (aB (aC (aM (cE (bW (.int _ _) rfl ?_)))))))
       exact ⟨iE (by unfold check; unfold sA at *; (repeat' split) <;> omega), M3.below⟩
      ·refine aK (aC (aD (aD (aA (wq (aE 5 oX rfl) rfl (wq (aL 0 (.int _ _) aU M3 rfl rfl rfl) rfl (dA rfl rfl rfl rfl (wq (aG (.bool (decide _)) rfl) rfl ?_))))))))
       refine cU 34 rfl (fun g34 => ?_) (fun g34 => ?_)
       ·refine aN rfl rfl (aN rfl rfl (aN rfl rfl (wq (bQ true (.bool true) rfl rfl) rfl (aB (aC (cM rfl ?_))))))
        refine aD (aA (bP rfl rfl (aB (aC (aM (cE (bW (.int _ _) rfl ?_)))))))
        exact ⟨iE (by unfold check; unfold sA at *; (repeat' split) <;> omega), M3.below⟩
       ·refine wq (aE 5 oX rfl) rfl (wq (aL 0 (.int _ _) aU M3 rfl rfl rfl) rfl (dA rfl rfl rfl rfl (wq (bQ false (.bool (decide _)) rfl rfl) rfl (aB (aC ?_)))))
        refine aZ rfl (fun h38 => ?_) (fun h38 => ?_)
        ·refine aD (aA (bP rfl rfl (aB (aC (aM (cE (bW (.int _ _) rfl ?_)))))))
         exact ⟨iE (by unfold check; unfold sA at *; (repeat' split) <;> omega), M3.below⟩
        ·refine aK (aC (aD (aD (aA (wq (aE 6 fR rfl) rfl (wq (aE 0 dR rfl) rfl (wq (aL 0 (.int _ _) aU M3 rfl rfl rfl) rfl (bX aDf rfl rfl (nF _ _ _ (by omega) (by omega)) ?_))))))))
         rintro v4 w4 ⟨rfl, hb4⟩
         have M4 := M3.callB hb4
         refine wq (lM rfl) rfl (wq (aG (.bool (decide _)) rfl) rfl ?_)
         refine cU 44 rfl (fun g44 => ?_) (fun g44 => ?_)
         ·refine aN rfl rfl (aN rfl rfl (aN rfl rfl (aN rfl rfl (aN rfl rfl (wq (bQ true (.bool true) rfl rfl) rfl ?_)))))
          refine aB (aC (cM rfl (aD (aA (bP rfl rfl (aB (aC (aM (cE (bW (.int _ _) rfl ?_))))))))))
          exact ⟨iE (by unfold check; unfold sA at *; (repeat' split) <;> omega), M4.below⟩
         ·refine wq (aE 6 fR rfl) rfl (wq (aE 1 dJ rfl) rfl (wq (aL 0 (.int _ _) aU M4 rfl rfl rfl) rfl (bX aDf rfl rfl (nF _ _ _ (by omega) (by omega)) ?_)))
          rintro v5 w5 ⟨rfl, hb5⟩
          have M5 := M4.callB hb5
          refine wq (lM rfl) rfl (wq (bQ false (.bool (decide _)) rfl rfl) rfl (aB (aC ?_)))
          refine aZ rfl (fun h50 => ?_) (fun h50 => ?_)
          ·refine aD (aA (bP rfl rfl (aB (aC (aM (cE (bW (.int _ _) rfl ?_)))))))
           exact ⟨iE (by unfold check; unfold sA at *; (repeat' split) <;> omega), M5.below⟩
          ·refine aK (aC (aD (aD (aA (wq (aE 8 fA rfl) rfl (wq (aE 0 dR rfl) rfl (wq (aL 0 (.int _ _) aU M5 rfl rfl rfl) rfl (bX aDf rfl rfl (nF _ _ _ (by omega) (by omega)) ?_))))))))
           rintro v6 w6 ⟨rfl, hb6⟩
           have M6 := M5.callB hb6
           refine wq (lM rfl) rfl (wq (aG (.bool (decide _)) rfl) rfl ?_)
           refine cU 56 rfl (fun g56 => ?_) (fun g56 => ?_)
           ·refine aN rfl rfl (aN rfl rfl (aN rfl rfl (aN rfl rfl (aN rfl rfl (wq (bQ true (.bool true) rfl rfl) rfl ?_)))))
            refine aB (aC (cM rfl (aD (aA (bP rfl rfl (aB (aC (aM (cE (bW (.int _ _) rfl ?_))))))))))
            exact ⟨iE (by unfold check; unfold sA at *; (repeat' split) <;> omega), M6.below⟩
           ·refine wq (aE 8 fA rfl) rfl (wq (aE 1 dJ rfl) rfl (wq (aL 0 (.int _ _) aU M6 rfl rfl rfl) rfl (bX aDf rfl rfl (nF _ _ _ (by omega) (by omega)) ?_)))
            rintro v7 w7 ⟨rfl, hb7⟩
            have M7 := M6.callB hb7
            refine wq (lM rfl) rfl (wq (bQ false (.bool (decide _)) rfl rfl) rfl (aB (aC ?_)))
            refine aZ rfl (fun h62 => ?_) (fun h62 => ?_)
            ·refine aD (aA (bP rfl rfl (aB (aC (aM (cE (bW (.int _ _) rfl ?_)))))))
             exact ⟨iE (by unfold check; unfold sA at *; (repeat' split) <;> omega), M7.below⟩
            ·refine aK (aC (aD (aA (bP rfl rfl (aB (aC (aM (bW (.int _ _) rfl ?_))))))))
             exact ⟨iE (by unfold check; unfold sA at *; (repeat' split) <;> omega), M7.below⟩
theorem aVd (a b : Body) : EqA Tryz.prog 39 (aF a) (aF b) (decide (a = b)) := by
 have h := bJt a.key a.radius a.ax a.ay a.mass a.bounce a.px a.py a.vx a.vy b.key b.radius b.ax b.ay b.mass b.bounce b.px b.py b.vx b.vy
 rw [decide_eq_decide.2 (aTa (a := a) (b := b))]
 exact h
set_option maxHeartbeats 4000000 in
theorem aKv (w : World) (A : Option Addr) (n c : Nat) (xs : List Body) (R : Rd w 10 A n (xs.map aF)) (B : Option Addr) (m c' : Nat) (ys : List Body) (R' : Rd w 10 B m (ys.map aF)) :
  Calls Tryz.prog 37 #[.slice A n c, .slice B m c'] w (fun ex w' => ∃ v, ex = .returned v ∧ (fun v w' => v = .bool (decide (xs = ys)) ∧ Below w.heap.size w w') v w') := by
 have hlen : xs.length = n := by simpa using R.len
 have hbd := R.bound
 have hlen' : ys.length = m := by simpa using R'.len
 have hbd' := R'.bound
 refine aH #[.tmp 4] 26 Tryz.func37 rfl Tryz.results37 Tryz.ntmps37 rfl ?_
 have M0 := Mem.refl w
 refine aD (aA (wq (aI (.bool false) rfl) rfl (aB (aC (aD (aD (aA (eG rfl rfl (wq (cP Tryz.underlying29 rfl) rfl (eG rfl rfl ?_))))))))))
 refine wq (cP Tryz.underlying29 rfl) rfl (dA rfl rfl rfl rfl (aB (aC ?_)))
 refine aZ rfl (fun h10 => ?_) (fun h10 => ?_)
 ·refine aD (aA (wq (aI (.bool false) rfl) rfl (aB (aC (aM (cE (bW (.bool false) rfl ?_)))))))
  exact ⟨bF (fun e => h10 (by rw [← hlen, ← hlen', e])), M0.below⟩
 ·have hnm : n = m := by omega
  refine aK (aC (aD (aD (aA (bP rfl rfl (aB (aC (aS (dK (σ := Nat) [0, 1] (fun k => [(5, .int .i64 (k : Int))]) (fun k w' => (k ≤ n ∧ ∀ (j : Nat) (x : Body), j < k → xs[j]? = some x → ys[j]? = some x) ∧ Mem w [] [] w') (fun k => n - k) 0 (bR rfl eZ) (⟨⟨by omega, fun j c hj => by omega⟩, M0⟩) ?_)))))))))
  rintro k ρ1 w1 ⟨⟨hk, hne⟩, hM1⟩
  refine aD (aD (aA (aY rfl rfl (eG rfl rfl (wq (cP Tryz.underlying29 rfl) rfl (dA rfl rfl rfl rfl (aB (aC ?_))))))))
  refine aZ rfl (fun h14 => ?_) (fun h14 => ?_)
  ·obtain ⟨xb, hxb⟩ := cI (k := k) hlen (by omega)
   obtain ⟨yb, hyb⟩ := cI (k := k) hlen' (by omega)
   refine aK (aC (aD (aS (aD (bO [(0, 0), (1, 0), (2, 1), (3, 1), (4, 0), (5, 0), (6, 1), (7, 1), (8, 0)] mixed rfl (by kernel_rfl) (fun w2 hb2 hh2 => ?_))))))
   have M2 := hM1.drew hb2 hh2
   refine oF rfl rfl rfl (fV rfl rfl rfl (bV rfl rfl rfl (bN (k) dW rfl rfl rfl ((R.mem M2).below_len (aJ aF hxb)) ((R.mem M2).someK (aJ aF hxb))) (bV rfl rfl rfl (dC _ bS (R.mem M2) (aJ aF hxb) rfl) (oF rfl rfl rfl (fV rfl rfl rfl ?_)))))
   refine bV rfl rfl rfl (bN (k) dW rfl rfl rfl ((R'.mem M2).below_len (aJ aF hyb)) ((R'.mem M2).someK (aJ aF hyb))) (bV rfl rfl rfl (dC _ bS (R'.mem M2) (aJ aF hyb) rfl) (aV rfl rfl rfl (fun _ => bJl (aVd xb yb) rfl rfl) (cD (aC ?_))))
   refine aZ rfl (fun h25 => ?_) (fun h25 => ?_)
   ·refine aD (aA (wq (aI (.bool false) rfl) rfl (aB (aC (aM (iY (cE (qD ?_))))))))
    refine iY (cE (bW (.bool false) rfl ?_))
    exact ⟨bF (fun e => h25 (by rw [e] at hxb; rw [hxb] at hyb; injection hyb)), M2.below⟩
   ·refine aK (dE (aC (aA (aY rfl rfl (wq (bU rfl rfl (by omega) (by omega)) rfl (bP rfl rfl ?_))))))
    refine aB ?_
    refine cS (k + 1) (bR rfl eZ) (cV rfl (cV rfl jQ)) ?_ ?_
    ·exact ⟨⟨by omega, oK (p := fun j x => ys[j]? = some x) hne hxb (by rw [hyb, Decidable.not_not.1 h25])⟩, M2⟩
    ·omega
  ·refine cR (cZ (cX (eQ (aC (aD (aA (wq (aI (.bool true) rfl) rfl ?_)))))))
   refine aB (aC (aM (bW (.bool true) rfl ?_)))
   exact ⟨bT (List.ext_getElem? fun j => by
   by_cases hj : j < xs.length
   ·obtain ⟨x, hx⟩ := cI (k := j) rfl hj
    rw [hx, hne j x (by omega) hx]
   ·rw [List.getElem?_eq_none (by omega), List.getElem?_eq_none (by omega)]), hM1.below⟩
set_option maxHeartbeats 4000000 in
theorem pU (w : World) (x y l : Int) (h0 : 0 ≤ l) (h1 : l ≤ 2147483647) :
  Calls Tryz.prog 139 #[.agg [.int .i32 x, .int .i32 y].toArray, .int .i32 l] w (fun ex w' => ∃ v, ex = .returned v ∧ (fun v w' => v = .bool (decide (-l ≤ x ∧ x ≤ l ∧ -l ≤ y ∧ y ≤ l)) ∧ Below w.heap.size w w') v w') := by
 have hneg : IntKind.i32.wrap (-l) = -l := lV _ (by omega) (by omega)
 refine aH #[.tmp 4] 29 Tryz.func139 rfl Tryz.results139 Tryz.ntmps139 rfl ?_
 have M0 := Mem.refl w
 refine aD (aA (bG (.agg (List.toArray _)) M0 rfl rfl rfl (fun b1 w1 M1 => (wq (aI (.bool false) rfl) rfl (aB (aC (aD (aA (aY rfl rfl (wq (yM rfl) rfl ?_))))))))))
 refine aT 6 (.int .i32 (-l)) (iE hneg) (wq (aE 0 dR rfl) rfl (wq (aL 0 (.int _ _) aU M1 rfl rfl rfl) rfl (dA rfl rfl rfl rfl (wq (aG (.bool (decide _)) rfl) rfl ?_))))
 refine cU 10 rfl (fun g10 => ?_) (fun g10 => ?_)
 ·refine wq (aE 0 dR rfl) rfl (wq (aL 0 (.int _ _) aU M1 rfl rfl rfl) rfl (aY rfl rfl (dA rfl rfl rfl rfl (wq (bQ true (.bool (decide _)) rfl rfl) rfl (wq (aG (.bool (decide _)) rfl) rfl ?_)))))
  refine cU 16 rfl (fun g16 => ?_) (fun g16 => ?_)
  ·refine aY rfl rfl (wq (yM rfl) rfl (aT 18 (.int .i32 (-l)) (iE hneg) (wq (aE 1 dJ rfl) rfl (wq (aL 0 (.int _ _) aU M1 rfl rfl rfl) rfl (dA rfl rfl rfl rfl ?_)))))
   refine wq (bQ true (.bool (decide _)) rfl rfl) rfl (wq (aG (.bool (decide _)) rfl) rfl ?_)
   refine cU 23 rfl (fun g23 => ?_) (fun g23 => ?_)
   ·refine wq (aE 1 dJ rfl) rfl (wq (aL 0 (.int _ _) aU M1 rfl rfl rfl) rfl (aY rfl rfl (dA rfl rfl rfl rfl (wq (bQ true (.bool (decide _)) rfl rfl) rfl (wq (aI (.bool (decide _)) rfl) rfl ?_)))))
    refine aB (aC (aM (bW (.bool (decide _)) rfl ?_)))
    exact ⟨by first | exact bF (by omega) | exact bT (by omega) | exact bD (by omega), M1.below⟩
   ·refine aN rfl rfl (aN rfl rfl (aN rfl rfl (aN rfl rfl (wq (bQ false (.bool false) rfl rfl) rfl (wq (aI (.bool false) rfl) rfl ?_)))))
    refine aB (aC (aM (bW (.bool false) rfl ?_)))
    exact ⟨by first | exact bF (by omega) | exact bT (by omega) | exact bD (by omega), M1.below⟩
  ·refine aN rfl rfl (aN rfl rfl (aN rfl rfl (aN rfl rfl (aN rfl rfl (wq (bQ false (.bool false) rfl rfl) rfl ?_)))))
   refine wq (aG (.bool false) rfl) rfl (aN rfl rfl (aN rfl rfl (aN rfl rfl (aN rfl rfl (wq (bQ false (.bool false) rfl rfl) rfl ?_)))))
   refine wq (aI (.bool false) rfl) rfl (aB (aC (aM (bW (.bool false) rfl ?_))))
   exact ⟨by first | exact bF (by omega) | exact bT (by omega) | exact bD (by omega), M1.below⟩
 ·refine aN rfl rfl (aN rfl rfl (aN rfl rfl (aN rfl rfl (wq (bQ false (.bool false) rfl rfl) rfl (wq (aG (.bool false) rfl) rfl ?_)))))
  refine aN rfl rfl (aN rfl rfl (aN rfl rfl (aN rfl rfl (aN rfl rfl (wq (bQ false (.bool false) rfl rfl) rfl ?_)))))
  refine wq (aG (.bool false) rfl) rfl (aN rfl rfl (aN rfl rfl (aN rfl rfl (aN rfl rfl (wq (bQ false (.bool false) rfl rfl) rfl ?_)))))
  refine wq (aI (.bool false) rfl) rfl (aB (aC (aM (bW (.bool false) rfl ?_))))
  exact ⟨by first | exact bF (by omega) | exact bT (by omega) | exact bD (by omega), M1.below⟩
set_option maxHeartbeats 4000000 in
theorem aIc (w : World) (b : Body) (p : Nat) (R : Rd w 10 (some ⟨p, 0, none⟩) 1 [aF b]) :
  Calls Tryz.prog 137 #[.pointer (some ⟨p, 0, none⟩)] w (fun ex w' => ∃ v, ex = .returned v ∧ (fun v w' => v = .bool (decide (4096 ≤ b.radius ∧ b.radius ≤ 4194304)) ∧ Below w.heap.size w w') v w') := by
 rw [← eT p]
 refine aH #[.tmp 1] 10 Tryz.func137 rfl Tryz.results137 Tryz.ntmps137 rfl ?_
 have M0 := Mem.refl w
 refine aD (aA (wq (aI (.bool false) rfl) rfl (aB (aC (aD (aA (wq (bJ 1 lE R (Nat.lt_of_le_of_lt (Nat.zero_le _) (R.below_len (show [aF b][0]? = some (aF b) from rfl))) rfl) rfl (wq (eJ (o := 1) (.int _ _) aU R (show [aF b][0]? = some (aF b) from rfl) rfl rfl) rfl ?_))))))))
 refine dA rfl rfl rfl rfl (wq (aG (.bool (decide _)) rfl) rfl ?_)
 refine cU 5 rfl (fun g5 => ?_) (fun g5 => ?_)
 ·refine wq (bJ 1 lE R (Nat.lt_of_le_of_lt (Nat.zero_le _) (R.below_len (show [aF b][0]? = some (aF b) from rfl))) rfl) rfl (wq (eJ (o := 1) (.int _ _) aU R (show [aF b][0]? = some (aF b) from rfl) rfl rfl) rfl (dA rfl rfl rfl rfl (wq (bQ true (.bool (decide _)) rfl rfl) rfl ?_)))
  refine wq (aI (.bool (decide _)) rfl) rfl (aB (aC (aM (bW (.bool (decide _)) rfl ?_))))
  exact ⟨by first | exact bF (by omega) | exact bT (by omega) | exact bD (by omega), M0.below⟩
 ·refine aN rfl rfl (aN rfl rfl (aN rfl rfl (wq (bQ false (.bool false) rfl rfl) rfl (wq (aI (.bool false) rfl) rfl (aB (aC (aM ?_)))))))
  refine bW (.bool false) rfl ?_
  exact ⟨by first | exact bF (by omega) | exact bT (by omega) | exact bD (by omega), M0.below⟩
set_option maxHeartbeats 4000000 in
theorem aGw (w : World) (b : Body) (p : Nat) (R : Rd w 10 (some ⟨p, 0, none⟩) 1 [aF b]) :
  Calls Tryz.prog 138 #[.pointer (some ⟨p, 0, none⟩)] w (fun ex w' => ∃ v, ex = .returned v ∧ (fun v w' => v = .bool (decide (-4194304 ≤ b.ax ∧ b.ax ≤ 4194304 ∧ -4194304 ≤ b.ay ∧ b.ay ≤ 4194304)) ∧ Below w.heap.size w w') v w') := by
 rw [← eT p]
 refine aH #[.tmp 1] 5 Tryz.func138 rfl Tryz.results138 Tryz.ntmps138 rfl ?_
 have M0 := Mem.refl w
 refine aD (aA (wq (aI (.bool false) rfl) rfl (aB (aC (aD (aA (wq (bJ 2 jK R (Nat.lt_of_le_of_lt (Nat.zero_le _) (R.below_len (show [aF b][0]? = some (aF b) from rfl))) rfl) rfl (wq (oV (o := 2) _ bM R (show [aF b][0]? = some (aF b) from rfl) rfl rfl rfl) rfl ?_))))))))
 refine bX aJj rfl rfl (pU _ _ _ _ (by omega) (by omega)) ?_
 rintro v1 w1 ⟨rfl, hb1⟩
 have M1 := M0.callB hb1
 refine wq (aI (.bool (decide _)) rfl) rfl (aB (aC (aM (bW (.bool (decide _)) rfl ?_))))
 exact ⟨by first | exact bF (by omega) | exact bT (by omega) | exact bD (by omega), M1.below⟩
set_option maxHeartbeats 4000000 in
theorem aIe (w : World) (b : Body) (p : Nat) (R : Rd w 10 (some ⟨p, 0, none⟩) 1 [aF b]) :
  Calls Tryz.prog 140 #[.pointer (some ⟨p, 0, none⟩)] w (fun ex w' => ∃ v, ex = .returned v ∧ (fun v w' => v = .bool (decide (0 ≤ b.mass ∧ b.mass ≤ 1048576)) ∧ Below w.heap.size w w') v w') := by
 rw [← eT p]
 refine aH #[.tmp 1] 10 Tryz.func140 rfl Tryz.results140 Tryz.ntmps140 rfl ?_
 have M0 := Mem.refl w
 refine aD (aA (wq (aI (.bool false) rfl) rfl (aB (aC (aD (aA (wq (bJ 4 fB R (Nat.lt_of_le_of_lt (Nat.zero_le _) (R.below_len (show [aF b][0]? = some (aF b) from rfl))) rfl) rfl (wq (eJ (o := 4) (.int _ _) aU R (show [aF b][0]? = some (aF b) from rfl) rfl rfl) rfl ?_))))))))
 refine dA rfl rfl rfl rfl (wq (aG (.bool (decide _)) rfl) rfl ?_)
 refine cU 5 rfl (fun g5 => ?_) (fun g5 => ?_)
 ·refine wq (bJ 4 fB R (Nat.lt_of_le_of_lt (Nat.zero_le _) (R.below_len (show [aF b][0]? = some (aF b) from rfl))) rfl) rfl (wq (eJ (o := 4) (.int _ _) aU R (show [aF b][0]? = some (aF b) from rfl) rfl rfl) rfl (dA rfl rfl rfl rfl (wq (bQ true (.bool (decide _)) rfl rfl) rfl ?_)))
  refine wq (aI (.bool (decide _)) rfl) rfl (aB (aC (aM (bW (.bool (decide _)) rfl ?_))))
  exact ⟨by first | exact bF (by omega) | exact bT (by omega) | exact bD (by omega), M0.below⟩
 ·refine aN rfl rfl (aN rfl rfl (aN rfl rfl (wq (bQ false (.bool false) rfl rfl) rfl (wq (aI (.bool false) rfl) rfl (aB (aC (aM ?_)))))))
  refine bW (.bool false) rfl ?_
  exact ⟨by first | exact bF (by omega) | exact bT (by omega) | exact bD (by omega), M0.below⟩
set_option maxHeartbeats 4000000 in
theorem aIx (w : World) (b : Body) (p : Nat) (R : Rd w 10 (some ⟨p, 0, none⟩) 1 [aF b]) :
  Calls Tryz.prog 141 #[.pointer (some ⟨p, 0, none⟩)] w (fun ex w' => ∃ v, ex = .returned v ∧ (fun v w' => v = .bool (decide (0 ≤ b.bounce ∧ b.bounce ≤ 65536)) ∧ Below w.heap.size w w') v w') := by
 rw [← eT p]
 refine aH #[.tmp 1] 10 Tryz.func141 rfl Tryz.results141 Tryz.ntmps141 rfl ?_
 have M0 := Mem.refl w
 refine aD (aA (wq (aI (.bool false) rfl) rfl (aB (aC (aD (aA (wq (bJ 5 oX R (Nat.lt_of_le_of_lt (Nat.zero_le _) (R.below_len (show [aF b][0]? = some (aF b) from rfl))) rfl) rfl (wq (eJ (o := 5) (.int _ _) aU R (show [aF b][0]? = some (aF b) from rfl) rfl rfl) rfl ?_))))))))
 refine dA rfl rfl rfl rfl (wq (aG (.bool (decide _)) rfl) rfl ?_)
 refine cU 5 rfl (fun g5 => ?_) (fun g5 => ?_)
 ·refine wq (bJ 5 oX R (Nat.lt_of_le_of_lt (Nat.zero_le _) (R.below_len (show [aF b][0]? = some (aF b) from rfl))) rfl) rfl (wq (eJ (o := 5) (.int _ _) aU R (show [aF b][0]? = some (aF b) from rfl) rfl rfl) rfl (dA rfl rfl rfl rfl (wq (bQ true (.bool (decide _)) rfl rfl) rfl ?_)))
  refine wq (aI (.bool (decide _)) rfl) rfl (aB (aC (aM (bW (.bool (decide _)) rfl ?_))))
  exact ⟨by first | exact bF (by omega) | exact bT (by omega) | exact bD (by omega), M0.below⟩
 ·refine aN rfl rfl (aN rfl rfl (aN rfl rfl (wq (bQ false (.bool false) rfl rfl) rfl (wq (aI (.bool false) rfl) rfl (aB (aC (aM ?_)))))))
  refine bW (.bool false) rfl ?_
  exact ⟨by first | exact bF (by omega) | exact bT (by omega) | exact bD (by omega), M0.below⟩
set_option maxHeartbeats 4000000 in
theorem aHf (w : World) (b : Body) (p : Nat) (R : Rd w 10 (some ⟨p, 0, none⟩) 1 [aF b]) :
  Calls Tryz.prog 142 #[.pointer (some ⟨p, 0, none⟩)] w (fun ex w' => ∃ v, ex = .returned v ∧ (fun v w' => v = .bool (decide (-1073741824 ≤ b.px ∧ b.px ≤ 1073741824 ∧ -1073741824 ≤ b.py ∧ b.py ≤ 1073741824)) ∧ Below w.heap.size w w') v w') := by
 rw [← eT p]
 refine aH #[.tmp 1] 5 Tryz.func142 rfl Tryz.results142 Tryz.ntmps142 rfl ?_
 have M0 := Mem.refl w
 refine aD (aA (wq (aI (.bool false) rfl) rfl (aB (aC (aD (aA (wq (bJ 6 fR R (Nat.lt_of_le_of_lt (Nat.zero_le _) (R.below_len (show [aF b][0]? = some (aF b) from rfl))) rfl) rfl (wq (oV (o := 6) _ bM R (show [aF b][0]? = some (aF b) from rfl) rfl rfl rfl) rfl ?_))))))))
 refine bX aJj rfl rfl (pU _ _ _ _ (by omega) (by omega)) ?_
 rintro v1 w1 ⟨rfl, hb1⟩
 have M1 := M0.callB hb1
 refine wq (aI (.bool (decide _)) rfl) rfl (aB (aC (aM (bW (.bool (decide _)) rfl ?_))))
 exact ⟨by first | exact bF (by omega) | exact bT (by omega) | exact bD (by omega), M1.below⟩
set_option maxHeartbeats 4000000 in
theorem aId (w : World) (b : Body) (p : Nat) (R : Rd w 10 (some ⟨p, 0, none⟩) 1 [aF b]) :
  Calls Tryz.prog 143 #[.pointer (some ⟨p, 0, none⟩)] w (fun ex w' => ∃ v, ex = .returned v ∧ (fun v w' => v = .bool (decide (-16777216 ≤ b.vx ∧ b.vx ≤ 16777216 ∧ -16777216 ≤ b.vy ∧ b.vy ≤ 16777216)) ∧ Below w.heap.size w w') v w') := by
 rw [← eT p]
 refine aH #[.tmp 1] 5 Tryz.func143 rfl Tryz.results143 Tryz.ntmps143 rfl ?_
 have M0 := Mem.refl w
 refine aD (aA (wq (aI (.bool false) rfl) rfl (aB (aC (aD (aA (wq (bJ 8 fA R (Nat.lt_of_le_of_lt (Nat.zero_le _) (R.below_len (show [aF b][0]? = some (aF b) from rfl))) rfl) rfl (wq (oV (o := 8) _ bM R (show [aF b][0]? = some (aF b) from rfl) rfl rfl rfl) rfl ?_))))))))
 refine bX aJj rfl rfl (pU _ _ _ _ (by omega) (by omega)) ?_
 rintro v1 w1 ⟨rfl, hb1⟩
 have M1 := M0.callB hb1
 refine wq (aI (.bool (decide _)) rfl) rfl (aB (aC (aM (bW (.bool (decide _)) rfl ?_))))
 exact ⟨by first | exact bF (by omega) | exact bT (by omega) | exact bD (by omega), M1.below⟩
set_option maxHeartbeats 4000000 in
theorem sE (w : World) (b : Body) :
  Calls Tryz.prog 102 #[(.agg (aF b).toArray)] w (fun ex w' => ∃ v, ex = .returned v ∧ (fun v w' => v = .int .i64 (check b) ∧ Below w.heap.size w w') v w') := by
 refine aH #[.tmp 2] 28 Tryz.func102 rfl Tryz.results102 Tryz.ntmps102 rfl ?_
 have M0 := Mem.refl w
 refine aD (aA (bG (.agg (List.toArray _)) M0 rfl rfl rfl (fun b1 w1 M1 => (bP rfl rfl (aB (aC (aD (aD (aA (wq (cO [] [.pointer _] rfl rfl) rfl (wq (cH [(0, .func _ _ _), (1, .int _ _)] _ lI rfl rfl) rfl ?_)))))))))))
 refine wq (cO [] [.pointer _] rfl rfl) rfl (wq (cH [(0, .func _ _ _), (1, .int _ _)] _ lI rfl rfl) rfl (wq (cO [] [.pointer _] rfl rfl) rfl (wq (cH [(0, .func _ _ _), (1, .int _ _)] _ lI rfl rfl) rfl (wq (cO [] [.pointer _] rfl rfl) rfl (wq (cH [(0, .func _ _ _), (1, .int _ _)] _ lI rfl rfl) rfl ?_)))))
 refine wq (cO [] [.pointer _] rfl rfl) rfl (wq (cH [(0, .func _ _ _), (1, .int _ _)] _ lI rfl rfl) rfl (wq (cO [] [.pointer _] rfl rfl) rfl (wq (cH [(0, .func _ _ _), (1, .int _ _)] _ lI rfl rfl) rfl (wq (pN [.agg (List.toArray _), .agg (List.toArray _), .agg (List.toArray _), .agg (List.toArray _), .agg (List.toArray _), .agg (List.toArray _)] rU bBj rfl rfl (dI rfl)) rfl ?_))))
 refine aY rfl rfl (aB (aC (aS (lZ 7 (gZ (aD (aA (dA rfl rfl rfl rfl (rI 19 rfl (by first | decide | omega) ?_)))))))))
 refine aB (aC (aD (cM rfl (aK (aC (aD (aS (aD (aA (wq (nD 0 _ rU kS rfl rfl (by decide) (by decide) rfl rfl) rfl (aQ qV M1 rfl rfl (fun b2 w2 M2 => (bB 1 _ kS M2 rfl rfl rfl rfl rfl (aR rfl) rfl (fun w3 M3 => ?_))))))))))))))
 refine aB (aC (aD (aA (wq (aE 0 nJ rfl) rfl (wq (aL 1 (.func _ _ _) aCb M3 rfl rfl rfl) rfl (bX bFt rfl rfl (aIc _ b _ (mI 0 M3 rfl rfl)) ?_))))))
 rintro v4 w4 ⟨rfl, hb4⟩
 have M4 := M3.callB hb4
 refine wq (lM rfl) rfl (aB (aC ?_))
 refine aZ rfl (fun h24 => ?_) (fun h24 => ?_)
 ·refine aD (aA (wq (aE 1 nM rfl) rfl (wq (aL 1 (.int _ _) vR M4 rfl rfl rfl) rfl (bP rfl rfl (aB (aC (aM (iY ?_))))))))
  refine cE (cE (iY (cE (bW (.int _ _) rfl ?_))))
  exact ⟨iE (aOm b (by omega)).symm, M4.below⟩
 ·refine aK (dE (aC (aA (wq (bU rfl rfl (by first | decide | omega) (by first | decide | omega)) rfl (aT 27 (.int .i64 1) (iE (by first | decide | omega)) (aY rfl rfl ?_))))))
  refine aB (aC (gZ (aD (aA (dA rfl rfl rfl rfl (rI 19 rfl (by first | decide | omega) (aB (aC (aD ?_)))))))))
  refine cM rfl (aK (aC (aD (aS (aD (aA (wq (nD 1 _ rU kS rfl rfl (by decide) (by decide) rfl rfl) rfl (aQ qV M4 rfl rfl (fun b5 w5 M5 => (bB 2 _ kS M5 rfl rfl rfl rfl rfl (aR rfl) rfl (fun w6 M6 => (aB (aC (aD (aA ?_)))))))))))))))
  refine wq (aE 0 nJ rfl) rfl (wq (aL 2 (.func _ _ _) aCb M6 rfl rfl rfl) rfl (bX bDd rfl rfl (aGw _ b _ (mI 0 M6 rfl rfl)) ?_))
  rintro v7 w7 ⟨rfl, hb7⟩
  have M7 := M6.callB hb7
  refine wq (lM rfl) rfl (aB (aC ?_))
  refine aZ rfl (fun h24 => ?_) (fun h24 => ?_)
  ·refine aD (aA (wq (aE 1 nM rfl) rfl (wq (aL 2 (.int _ _) vR M7 rfl rfl rfl) rfl (bP rfl rfl (aB (aC (aM (iY ?_))))))))
   refine cE (cE (iY (cE (bW (.int _ _) rfl ?_))))
   exact ⟨iE (aMq b (by omega) (by omega)).symm, M7.below⟩
  ·refine aK (dE (aC (aA (wq (bU rfl rfl (by first | decide | omega) (by first | decide | omega)) rfl (aT 27 (.int .i64 2) (iE (by first | decide | omega)) (aY rfl rfl ?_))))))
   refine aB (aC (gZ (aD (aA (dA rfl rfl rfl rfl (rI 19 rfl (by first | decide | omega) (aB (aC (aD ?_)))))))))
   refine cM rfl (aK (aC (aD (aS (aD (aA (wq (nD 2 _ rU kS rfl rfl (by decide) (by decide) rfl rfl) rfl (aQ qV M7 rfl rfl (fun b8 w8 M8 => (bB 3 _ kS M8 rfl rfl rfl rfl rfl (aR rfl) rfl (fun w9 M9 => (aB (aC (aD (aA ?_)))))))))))))))
   refine wq (aE 0 nJ rfl) rfl (wq (aL 3 (.func _ _ _) aCb M9 rfl rfl rfl) rfl (bX bGd rfl rfl (aIe _ b _ (mI 0 M9 rfl rfl)) ?_))
   rintro v10 w10 ⟨rfl, hb10⟩
   have M10 := M9.callB hb10
   refine wq (lM rfl) rfl (aB (aC ?_))
   refine aZ rfl (fun h24 => ?_) (fun h24 => ?_)
   ·refine aD (aA (wq (aE 1 nM rfl) rfl (wq (aL 3 (.int _ _) vR M10 rfl rfl rfl) rfl (bP rfl rfl (aB (aC (aM (iY ?_))))))))
    refine cE (cE (iY (cE (bW (.int _ _) rfl ?_))))
    exact ⟨iE (aMs b (by omega) (by omega) (by omega)).symm, M10.below⟩
   ·refine aK (dE (aC (aA (wq (bU rfl rfl (by first | decide | omega) (by first | decide | omega)) rfl (aT 27 (.int .i64 3) (iE (by first | decide | omega)) (aY rfl rfl ?_))))))
    refine aB (aC (gZ (aD (aA (dA rfl rfl rfl rfl (rI 19 rfl (by first | decide | omega) (aB (aC (aD ?_)))))))))
    refine cM rfl (aK (aC (aD (aS (aD (aA (wq (nD 3 _ rU kS rfl rfl (by decide) (by decide) rfl rfl) rfl (aQ qV M10 rfl rfl (fun b11 w11 M11 => (bB 4 _ kS M11 rfl rfl rfl rfl rfl (aR rfl) rfl (fun w12 M12 => (aB (aC (aD (aA ?_)))))))))))))))
    refine wq (aE 0 nJ rfl) rfl (wq (aL 4 (.func _ _ _) aCb M12 rfl rfl rfl) rfl (bX bGt rfl rfl (aIx _ b _ (mI 0 M12 rfl rfl)) ?_))
    rintro v13 w13 ⟨rfl, hb13⟩
    have M13 := M12.callB hb13
    refine wq (lM rfl) rfl (aB (aC ?_))
    refine aZ rfl (fun h24 => ?_) (fun h24 => ?_)
    ·refine aD (aA (wq (aE 1 nM rfl) rfl (wq (aL 4 (.int _ _) vR M13 rfl rfl rfl) rfl (bP rfl rfl (aB (aC (aM (iY ?_))))))))
     refine cE (cE (iY (cE (bW (.int _ _) rfl ?_))))
     exact ⟨iE (aNe b (by omega) (by omega) (by omega) (by omega)).symm, M13.below⟩
    ·refine aK (dE (aC (aA (wq (bU rfl rfl (by first | decide | omega) (by first | decide | omega)) rfl (aT 27 (.int .i64 4) (iE (by first | decide | omega)) (aY rfl rfl ?_))))))
     refine aB (aC (gZ (aD (aA (dA rfl rfl rfl rfl (rI 19 rfl (by first | decide | omega) (aB (aC (aD ?_)))))))))
     refine cM rfl (aK (aC (aD (aS (aD (aA (wq (nD 4 _ rU kS rfl rfl (by decide) (by decide) rfl rfl) rfl (aQ qV M13 rfl rfl (fun b14 w14 M14 => (bB 5 _ kS M14 rfl rfl rfl rfl rfl (aR rfl) rfl (fun w15 M15 => (aB (aC (aD (aA ?_)))))))))))))))
     refine wq (aE 0 nJ rfl) rfl (wq (aL 5 (.func _ _ _) aCb M15 rfl rfl rfl) rfl (bX bHc rfl rfl (aHf _ b _ (mI 0 M15 rfl rfl)) ?_))
     rintro v16 w16 ⟨rfl, hb16⟩
     have M16 := M15.callB hb16
     refine wq (lM rfl) rfl (aB (aC ?_))
     refine aZ rfl (fun h24 => ?_) (fun h24 => ?_)
     ·refine aD (aA (wq (aE 1 nM rfl) rfl (wq (aL 5 (.int _ _) vR M16 rfl rfl rfl) rfl (bP rfl rfl (aB (aC (aM (iY ?_))))))))
      refine cE (cE (iY (cE (bW (.int _ _) rfl ?_))))
      exact ⟨iE (aNh b (by omega) (by omega) (by omega) (by omega) (by omega)).symm, M16.below⟩
     ·refine aK (dE (aC (aA (wq (bU rfl rfl (by first | decide | omega) (by first | decide | omega)) rfl (aT 27 (.int .i64 5) (iE (by first | decide | omega)) (aY rfl rfl ?_))))))
      refine aB (aC (gZ (aD (aA (dA rfl rfl rfl rfl (rI 19 rfl (by first | decide | omega) (aB (aC (aD ?_)))))))))
      refine cM rfl (aK (aC (aD (aS (aD (aA (wq (nD 5 _ rU kS rfl rfl (by decide) (by decide) rfl rfl) rfl (aQ qV M16 rfl rfl (fun b17 w17 M17 => (bB 6 _ kS M17 rfl rfl rfl rfl rfl (aR rfl) rfl (fun w18 M18 => (aB (aC (aD (aA ?_)))))))))))))))
      refine wq (aE 0 nJ rfl) rfl (wq (aL 6 (.func _ _ _) aCb M18 rfl rfl rfl) rfl (bX bDc rfl rfl (aId _ b _ (mI 0 M18 rfl rfl)) ?_))
      rintro v19 w19 ⟨rfl, hb19⟩
      have M19 := M18.callB hb19
      refine wq (lM rfl) rfl (aB (aC ?_))
      refine aZ rfl (fun h24 => ?_) (fun h24 => ?_)
      ·refine aD (aA (wq (aE 1 nM rfl) rfl (wq (aL 6 (.int _ _) vR M19 rfl rfl rfl) rfl (bP rfl rfl (aB (aC (aM (iY ?_))))))))
       refine cE (cE (iY (cE (bW (.int _ _) rfl ?_))))
       exact ⟨iE (aNq b (by omega) (by omega) (by omega) (by omega) (by omega) (by omega)).symm, M19.below⟩
      ·refine aK (dE (aC (aA (wq (bU rfl rfl (by first | decide | omega) (by first | decide | omega)) rfl (aT 27 (.int .i64 6) (iE (by first | decide | omega)) (aY rfl rfl ?_))))))
       refine aB (aC (gZ (aD (aA (dA rfl rfl rfl rfl (uZ 19 rfl (by first | decide | omega) (aB (aC (aD ?_)))))))))
       refine cB rfl (cR (cZ (cZ (eQ (aC (aD (aA (bP rfl rfl ?_))))))))
       refine aB (aC (aM (bW (.int _ _) rfl ?_)))
       exact ⟨iE (bAa b (by omega) (by omega) (by omega) (by omega) (by omega) (by omega)).symm, M19.below⟩
set_option maxHeartbeats 4000000 in
theorem wM (w : World) (x : Int) :
  Calls Tryz.prog 151 #[.int .u32 x] w (fun ex w' => ∃ v, ex = .returned v ∧ (fun v w' => v = .bool false ∧ w' = w) v w') := by
 refine aH #[.tmp 2] 6 Tryz.func151 rfl Tryz.results151 Tryz.ntmps151 rfl ?_
 have M0 := Mem.refl w
 refine aD (aA (wq (aI (.bool false) rfl) rfl (aB (aC (aD (aA (aY rfl rfl (aY rfl rfl (dA rfl rfl rfl rfl ?_)))))))))
 refine wq (aI (.bool (decide _)) rfl) rfl (aB (aC (aM (bW (.bool (decide _)) rfl ?_))))
 exact ⟨(bF (by omega)).symm, rfl⟩
set_option maxHeartbeats 4000000 in
theorem kG (w : World) (x y : Int) :
  Calls Tryz.prog 116 #[.int .u32 x, .int .u32 y] w (fun ex w' => ∃ v, ex = .returned v ∧ (fun v w' => v = .int .i64 (lX x y) ∧ w' = w) v w') := by
 refine aH #[.tmp 4] 20 Tryz.func116 rfl Tryz.results116 Tryz.ntmps116 rfl ?_
 have M0 := Mem.refl w
 refine aD (aA (bP rfl rfl (aB (aC (aD (aA (aY rfl rfl (bX aUj rfl rfl (wM _ _) ?_))))))))
 rintro v1 w1 ⟨rfl, rfl⟩
 have M1 : Mem _ _ [] _ := M0
 refine wq (aI (.bool false) rfl) rfl (aB (aC (aD (aA (aY rfl rfl (bX aUj rfl rfl (wM _ _) ?_))))))
 rintro v2 w2 ⟨rfl, rfl⟩
 have M2 : Mem _ _ [] _ := M1
 refine wq (aI (.bool false) rfl) rfl (aB (aC (aD (aD (aA (wq (aG (.bool false) rfl) rfl (aB (aC (cB rfl (aK (aC (aD (aD (aA ?_))))))))))))))
 refine wq (aG (.bool false) rfl) rfl (aB (aC (cB rfl (aK (aC (aD (aD (aA (aY rfl rfl (aY rfl rfl ?_))))))))))
 refine dA rfl rfl rfl rfl (aB (aC ?_))
 refine aZ rfl (fun h16 => ?_) (fun h16 => ?_)
 ·refine aD (aA (bP rfl rfl (aB (aC (aM (cE (bW (.int _ _) rfl ?_)))))))
  exact ⟨iE (by unfold lX; (repeat' split) <;> omega), rfl⟩
 ·refine aK (aC (aD (aD (aA (aY rfl rfl (aY rfl rfl (dA rfl rfl rfl rfl (aB (aC ?_)))))))))
  refine aZ rfl (fun h19 => ?_) (fun h19 => ?_)
  ·refine aD (aA (bP rfl rfl (aB (aC (aM (cE (bW (.int _ _) rfl ?_)))))))
   exact ⟨iE (by unfold lX; (repeat' split) <;> omega), rfl⟩
  ·refine aK (aC (aD (aA (bP rfl rfl (aB (aC (aM (bW (.int _ _) rfl ?_))))))))
   exact ⟨iE (by unfold lX; (repeat' split) <;> omega), rfl⟩
set_option maxHeartbeats 4000000 in
theorem aAs (a b : Body) (w : World) :
  Calls Tryz.prog 115 #[(.agg (aF a).toArray), (.agg (aF b).toArray)] w (fun ex w' => ∃ v, ex = .returned v ∧ (fun v w' => v = .int .i64 (lX a.key b.key) ∧ ∃ q os, w' = Go.Sort.grow (w.drewN q) os) v w') := by
 refine aH #[.tmp 4] 10 Tryz.func115 rfl Tryz.results115 Tryz.ntmps115 rfl ?_
 have M0 := Mem.refl w
 refine aD (aA (xF (.agg (List.toArray _)) M0 rfl rfl rfl (fun M1 => (xF (.agg (List.toArray _)) M1 rfl rfl rfl (fun M2 => (bP rfl rfl (aB (aC (aD (aA (wq (aE 0 eP rfl) rfl ?_)))))))))))
 refine wq (aL 0 (.int _ _) cC M2 rfl rfl rfl) rfl (wq (aE 0 eP rfl) rfl (wq (aL 1 (.int _ _) cC M2 rfl rfl rfl) rfl (bX aEw rfl rfl (kG _ _ _) ?_)))
 rintro v3 w3 ⟨rfl, rfl⟩
 have M3 : Mem _ _ [_, _] _ := M2
 refine bP rfl rfl (aB (aC (aM (bW (.int _ _) rfl ?_))))
 exact ⟨rfl, bIt _ _ _⟩
set_option maxHeartbeats 4000000 in
theorem aBj (w : World) (A : Option Addr) (n c : Nat) (ls : List (List Value)) (R : Rd w 10 A n ls) (h1 : ∀ y ∈ ls, ∀ u ∈ y, one u = true) (hn : n ≤ 1048576) :
  Calls Tryz.prog 64 #[.slice A n c] w (fun ex w' => ∃ v, ex = .returned v ∧ (fun v w' => ∃ A' n' c' e, v = .slice A' n' c' ∧ aW 39 10 A' n' c' ls e ∧ Mem w [] [e] w' ∧ A'.isSome = A.isSome) v w') := by
 refine aH #[.tmp 2] 8 Tryz.func64 rfl Tryz.results64 Tryz.ntmps64 rfl ?_
 have M0 := Mem.refl w
 refine aD (aA (fP rfl rfl (aB (aC (aD (aD (aA (eG rfl rfl (wq (aFe _ Tryz.underlying29 rfl rfl) rfl (aB (aC ?_)))))))))))
 refine gR _ rfl (fun h4 => ?_) (fun h4 => ?_)
 ·refine aD (aA (fP rfl rfl (aB (aC (aM (cE (bW (.slice _ _ _) rfl ?_)))))))
  have hA : A = none := by cases A <;> simp_all
  have hl : ls = [] := by
   rcases Nat.eq_zero_or_pos n with h | h
   ·subst h; exact List.eq_nil_of_length_eq_zero R.len
   ·have := R.some h; rw [hA] at this; cases this
  subst hA; subst hl
  exact ⟨_, _, _, _, rfl, aW.nil 39 10 default, M0.dummy default, rfl⟩
 ·refine aK (aC (aD (aA (dB [] [] rfl dW M0 rfl rfl rfl rfl (dI rfl) (by decide) (fun b1 w1 M1 => (eG rfl rfl (aLc 0 ls dW M1 rfl rfl rfl rfl rfl (aW.empty b1) (R.mem M1) h1 (by omega) (fun A2 c2 e2 w2 M2 hR2 hA2 => ?_))))))))
  have hAA := hA2
  refine fP rfl rfl (aB (aC (aM (bW (.slice _ _ _) rfl ?_))))
  refine ⟨_, _, _, _, rfl, by simpa using hR2, M2, ?_⟩
  rw [hAA rfl]; cases A <;> simp_all
end Go.Proofs.YtaoaknafiegfoaaGreatDoor
