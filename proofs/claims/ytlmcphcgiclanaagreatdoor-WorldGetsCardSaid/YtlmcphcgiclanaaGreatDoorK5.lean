/- Part of the proof of the laws of this seat: Ty, T26, T25, T20, T20r, T20l, T21, T22, R5, R6, Bd, Lib, St. No conditions. -/
import Derived.Test.YtlmcphcgiclanaaGreatDoorProg
import Derived.Test.YtlmcphcgiclanaaGreatDoorK2
import Derived.Test.YtlmcphcgiclanaaGreatDoorK3
import Derived.Test.YtlmcphcgiclanaaGreatDoorK4
import Derived.KernelRfl
set_option linter.unusedVariables false
set_option linter.unusedSimpArgs false
set_option linter.unnecessarySimpa false
namespace Go.Proofs.YtlmcphcgiclanaaGreatDoor
open Go.Bil
open Go.Proofs
theorem bU : gD Tryz.prog 36 = true := by kernel_rfl
theorem aU : gD Tryz.prog 21 = true := by kernel_rfl
theorem aKe : ∀ (d : Nat) (w : World) (x0 x1 y0 y1 : Int), (Op.equalIn (d + 2) 38 (.agg [.int .i32 x0, .int .i32 x1].toArray) (.agg [.int .i32 y0, .int .i32 y1].toArray)).run Tryz.prog w = .ok (decide (x0 = y0 ∧ x1 = y1)) w := fun d w x0 x1 y0 y1 => by
  have h := tJ (P := Tryz.prog) (T := 38) (dd := d + 1) (xs := [.int .i32 x0, .int .i32 x1]) (ys := [.int .i32 y0, .int .i32 y1]) (w := w) Tryz.underlying38 (by kernel_rfl) (gQ rfl (iY aU rfl) (iY aU rfl) (oC (dd := d + 0) Tryz.underlying21) (gQ rfl (iY aU rfl) (iY aU rfl) (oC (dd := d + 0) Tryz.underlying21) (aBw)))
  refine h.trans (congrArg (fun r => Result.ok r w) ?_)
  simp only [Bool.decide_and, Bool.and_true, Bool.and_assoc]
theorem bH : gI Tryz.prog 38 = some 2 := by kernel_rfl
theorem bEa : ∀ (d : Nat) (w : World) (x0 x1 x2 x3 x4 x5 x6 x7 x8 x9 y0 y1 y2 y3 y4 y5 y6 y7 y8 y9 : Int), (Op.equalIn (d + 3) 40 (.agg [.int .u32 x0, .int .i32 x1, .int .i32 x2, .int .i32 x3, .int .i32 x4, .int .i32 x5, .int .i32 x6, .int .i32 x7, .int .i32 x8, .int .i32 x9].toArray) (.agg [.int .u32 y0, .int .i32 y1, .int .i32 y2, .int .i32 y3, .int .i32 y4, .int .i32 y5, .int .i32 y6, .int .i32 y7, .int .i32 y8, .int .i32 y9].toArray)).run Tryz.prog w = .ok (decide (x0 = y0 ∧ x1 = y1 ∧ x2 = y2 ∧ x3 = y3 ∧ x4 = y4 ∧ x5 = y5 ∧ x6 = y6 ∧ x7 = y7 ∧ x8 = y8 ∧ x9 = y9)) w := fun d w x0 x1 x2 x3 x4 x5 x6 x7 x8 x9 y0 y1 y2 y3 y4 y5 y6 y7 y8 y9 => by
  have h := tJ (P := Tryz.prog) (T := 40) (dd := d + 2) (xs := [.int .u32 x0, .int .i32 x1, .int .i32 x2, .int .i32 x3, .int .i32 x4, .int .i32 x5, .int .i32 x6, .int .i32 x7, .int .i32 x8, .int .i32 x9]) (ys := [.int .u32 y0, .int .i32 y1, .int .i32 y2, .int .i32 y3, .int .i32 y4, .int .i32 y5, .int .i32 y6, .int .i32 y7, .int .i32 y8, .int .i32 y9]) (w := w) Tryz.underlying40 (by kernel_rfl) (gQ rfl (iY bU rfl) (iY bU rfl) (oC (dd := d + 1) Tryz.underlying36) (gQ rfl (iY aU rfl) (iY aU rfl) (oC (dd := d + 1) Tryz.underlying21) (gQ rfl (xU bH rfl) (xU bH rfl) (aKe (d + 0) w x2 x3 y2 y3) (gQ rfl (iY aU rfl) (iY aU rfl) (oC (dd := d + 1) Tryz.underlying21) (gQ rfl (iY aU rfl) (iY aU rfl) (oC (dd := d + 1) Tryz.underlying21) (gQ rfl (xU bH rfl) (xU bH rfl) (aKe (d + 0) w x6 x7 y6 y7) (gQ rfl (xU bH rfl) (xU bH rfl) (aKe (d + 0) w x8 x9 y8 y9) (aBw))))))))
  refine h.trans (congrArg (fun r => Result.ok r w) ?_)
  simp only [Bool.decide_and, Bool.and_true, Bool.and_assoc]
theorem bEn : ∀ (x0 x1 x2 x3 x4 x5 x6 x7 x8 x9 y0 y1 y2 y3 y4 y5 y6 y7 y8 y9 : Int), EqA Tryz.prog 40 [.int .u32 x0, .int .i32 x1, .int .i32 x2, .int .i32 x3, .int .i32 x4, .int .i32 x5, .int .i32 x6, .int .i32 x7, .int .i32 x8, .int .i32 x9] [.int .u32 y0, .int .i32 y1, .int .i32 y2, .int .i32 y3, .int .i32 y4, .int .i32 y5, .int .i32 y6, .int .i32 y7, .int .i32 y8, .int .i32 y9] (decide (x0 = y0 ∧ x1 = y1 ∧ x2 = y2 ∧ x3 = y3 ∧ x4 = y4 ∧ x5 = y5 ∧ x6 = y6 ∧ x7 = y7 ∧ x8 = y8 ∧ x9 = y9)) := fun x0 x1 x2 x3 x4 x5 x6 x7 x8 x9 y0 y1 y2 y3 y4 y5 y6 y7 y8 y9 => ⟨by kernel_rfl, fun w => bEa 9997 w x0 x1 x2 x3 x4 x5 x6 x7 x8 x9 y0 y1 y2 y3 y4 y5 y6 y7 y8 y9⟩
theorem bL : gI Tryz.prog 40 = some 10 := by kernel_rfl
theorem bDh : aO Tryz.prog 96 = true := by kernel_rfl
theorem bCq : ∀ (d : Nat) (w : World) (x0 x1 y0 y1 : Int), (Op.equalIn (d + 2) 119 (.agg [.int .u32 x0, .int .u32 x1].toArray) (.agg [.int .u32 y0, .int .u32 y1].toArray)).run Tryz.prog w = .ok (decide (x0 = y0 ∧ x1 = y1)) w := fun d w x0 x1 y0 y1 => by
  have h := tJ (P := Tryz.prog) (T := 119) (dd := d + 1) (xs := [.int .u32 x0, .int .u32 x1]) (ys := [.int .u32 y0, .int .u32 y1]) (w := w) Tryz.underlying119 (by kernel_rfl) (gQ rfl (iY bU rfl) (iY bU rfl) (oC (dd := d + 0) Tryz.underlying36) (gQ rfl (iY bU rfl) (iY bU rfl) (oC (dd := d + 0) Tryz.underlying36) (aBw)))
  refine h.trans (congrArg (fun r => Result.ok r w) ?_)
  simp only [Bool.decide_and, Bool.and_true, Bool.and_assoc]
theorem bBz : ∀ (x0 x1 y0 y1 : Int), EqA Tryz.prog 119 [.int .u32 x0, .int .u32 x1] [.int .u32 y0, .int .u32 y1] (decide (x0 = y0 ∧ x1 = y1)) := fun x0 x1 y0 y1 => ⟨by kernel_rfl, fun w => bCq 9998 w x0 x1 y0 y1⟩
theorem fU : gI Tryz.prog 119 = some 2 := by kernel_rfl
theorem aYv : aO Tryz.prog 170 = true := by kernel_rfl
theorem bDc : jD Tryz.prog 119 = some (.agg [.int .u32 0, .int .u32 0].toArray) := by kernel_rfl
theorem mA : gD Tryz.prog 3 = true := by kernel_rfl
theorem nG : gD Tryz.prog 4 = true := by kernel_rfl
theorem nA : dZ Tryz.prog 40 1 1 = true := by kernel_rfl
theorem kH : dZ Tryz.prog 40 2 2 = true := by kernel_rfl
theorem dP : dZ Tryz.prog 38 0 0 = true := by kernel_rfl
theorem dJ : dZ Tryz.prog 38 1 1 = true := by kernel_rfl
theorem fE : dZ Tryz.prog 40 3 4 = true := by kernel_rfl
theorem rI : dZ Tryz.prog 40 4 5 = true := by kernel_rfl
theorem fW : dZ Tryz.prog 40 5 6 = true := by kernel_rfl
theorem fD : dZ Tryz.prog 40 6 8 = true := by kernel_rfl
theorem eX : eF Tryz.prog 22 40 10 40 = true := by kernel_rfl
theorem eJ : dZ Tryz.prog 40 0 0 = true := by kernel_rfl
theorem mixed : Tryz.prog.follows .mixedOrders = true := by kernel_rfl
theorem aJl : aO Tryz.prog 124 = true := by kernel_rfl
theorem kK : fX Tryz.prog 181 [.nilFunc, .int .i64 0] [(0, 1), (1, 1)] := eD Tryz.underlying181 (by kernel_rfl) (by kernel_rfl) (by kernel_rfl)
theorem qO : vA Tryz.prog 183 6 181 2 = true := by kernel_rfl
theorem aWc : fG Tryz.prog 183 = some [.nilFunc, .int .i64 0, .nilFunc, .int .i64 0, .nilFunc, .int .i64 0, .nilFunc, .int .i64 0, .nilFunc, .int .i64 0, .nilFunc, .int .i64 0] := by kernel_rfl
theorem kF : gI Tryz.prog 181 = some 2 := by kernel_rfl
theorem pA : fG Tryz.prog 181 = some [.nilFunc, .int .i64 0] := by kernel_rfl
theorem mS : dZ Tryz.prog 181 0 0 = true := by kernel_rfl
theorem aAf : gD Tryz.prog 25 = true := by kernel_rfl
theorem bAl : aO Tryz.prog 122 = true := by kernel_rfl
theorem mD : dZ Tryz.prog 181 1 1 = true := by kernel_rfl
theorem aAu : gD Tryz.prog 67 = true := by kernel_rfl
theorem aZk : aO Tryz.prog 123 = true := by kernel_rfl
theorem bBr : aO Tryz.prog 125 = true := by kernel_rfl
theorem aZc : aO Tryz.prog 126 = true := by kernel_rfl
theorem aZy : aO Tryz.prog 127 = true := by kernel_rfl
theorem bBx : aO Tryz.prog 128 = true := by kernel_rfl
theorem aQv : aO Tryz.prog 98 = true := by kernel_rfl
theorem jS : dZ Tryz.prog 52 1 1 = true := by kernel_rfl
theorem pW : gD Tryz.prog 50 = true := by kernel_rfl
theorem uF : wJ Tryz.prog 50 36 3 .u32 = true := by kernel_rfl
theorem zv3 : jD Tryz.prog 3 = some (.int .i64 0) := by kernel_rfl
theorem fN : dZ Tryz.prog 52 0 0 = true := by kernel_rfl
theorem eV : gD Tryz.prog 22 = true := by kernel_rfl
theorem fQ : fG Tryz.prog 40 = some [.int .u32 0, .int .i32 0, .int .i32 0, .int .i32 0, .int .i32 0, .int .i32 0, .int .i32 0, .int .i32 0, .int .i32 0, .int .i32 0] := by kernel_rfl
theorem mQ : fX Tryz.prog 40 [.int .u32 0, .int .i32 0, .int .i32 0, .int .i32 0, .int .i32 0, .int .i32 0, .int .i32 0, .int .i32 0, .int .i32 0, .int .i32 0] [(0, 1), (1, 1), (2, 2), (4, 1), (5, 1), (6, 2), (8, 2)] := eD Tryz.underlying40 (by kernel_rfl) (by kernel_rfl) (by kernel_rfl)
theorem aRk : aO Tryz.prog 121 = true := by kernel_rfl
theorem aKg : aO Tryz.prog 97 = true := by kernel_rfl
theorem bDd : aO Tryz.prog 49 = true := by kernel_rfl
theorem bEk : aO Tryz.prog 95 = true := by kernel_rfl
theorem bDf : aO Tryz.prog 38 = true := by kernel_rfl
theorem bCo : aO Tryz.prog 129 = true := by kernel_rfl
theorem us3 : (Tryz.prog.underlying 3).isSome = true := by kernel_rfl
theorem bDk : (Tryz.prog.underlying 136).isSome = true := by kernel_rfl
theorem aTz : aO Tryz.prog 140 = true := by kernel_rfl
theorem aZn : aO Tryz.prog 139 = true := by kernel_rfl
theorem aPb : aO Tryz.prog 215 = true := by kernel_rfl
theorem aCj : fG Tryz.prog 193 = some [.int .i32 0, .int .i32 0, .int .i32 0, .int .i32 0] := by kernel_rfl
theorem aZm : aO Tryz.prog 190 = true := by kernel_rfl
theorem zZ : fX Tryz.prog 193 [.int .i32 0, .int .i32 0, .int .i32 0, .int .i32 0] [(0, 1), (1, 1), (2, 1), (3, 1)] := eD Tryz.underlying193 (by kernel_rfl) (by kernel_rfl) (by kernel_rfl)
theorem iF : gI Tryz.prog 193 = some 4 := by kernel_rfl
theorem rX : dZ Tryz.prog 193 0 0 = true := by kernel_rfl
theorem rO : dZ Tryz.prog 193 2 2 = true := by kernel_rfl
theorem sH : dZ Tryz.prog 193 1 1 = true := by kernel_rfl
theorem sG : dZ Tryz.prog 193 3 3 = true := by kernel_rfl
theorem aIf : aO Tryz.prog 192 = true := by kernel_rfl
theorem bBh : aO Tryz.prog 193 = true := by kernel_rfl
theorem mX : fG Tryz.prog 226 = some [.int .i32 0, .int .i32 0] := by kernel_rfl
theorem aAn : fX Tryz.prog 226 [.int .i32 0, .int .i32 0] [(0, 1), (1, 1)] := eD Tryz.underlying226 (by kernel_rfl) (by kernel_rfl) (by kernel_rfl)
theorem gC : gI Tryz.prog 226 = some 2 := by kernel_rfl
theorem eL : fX Tryz.prog 38 [.int .i32 0, .int .i32 0] [(0, 1), (1, 1)] := eD Tryz.underlying38 (by kernel_rfl) (by kernel_rfl) (by kernel_rfl)
theorem aSm : aO Tryz.prog 229 = true := by kernel_rfl
theorem aZj : aO Tryz.prog 216 = true := by kernel_rfl
theorem aKq : fG Tryz.prog 4 = some [.bool false] := by kernel_rfl
theorem xQ : dZ Tryz.prog 226 1 1 = true := by kernel_rfl
theorem vX : dZ Tryz.prog 226 0 0 = true := by kernel_rfl
theorem aXd : fG Tryz.prog 224 = some [.slice none 0 0] := by kernel_rfl
theorem bAz : aO Tryz.prog 191 = true := by kernel_rfl
theorem aZl : aO Tryz.prog 217 = true := by kernel_rfl
theorem aHr : gD Tryz.prog 224 = true := by kernel_rfl
theorem aTc : eF Tryz.prog 224 226 2 8 = true := by kernel_rfl
theorem fK : (Tryz.prog.underlying 21).isSome = true := by kernel_rfl
theorem aSt : vA Tryz.prog 270 2 36 1 = true := by kernel_rfl
theorem qT : (Tryz.prog.underlying 36).isSome = true := by kernel_rfl
theorem bAs : aO Tryz.prog 206 = true := by kernel_rfl
theorem us2 : (Tryz.prog.underlying 2).isSome = true := by kernel_rfl
theorem aAb : (Tryz.prog.underlying 170).isSome = true := by kernel_rfl
theorem oX : aO Tryz.prog 179 = true := by kernel_rfl
theorem aIe : aO Tryz.prog 178 = true := by kernel_rfl
theorem aPn : aO Tryz.prog 180 = true := by kernel_rfl
theorem aCd : aO Tryz.prog 181 = true := by kernel_rfl
theorem aBz : aO Tryz.prog 207 = true := by kernel_rfl
theorem aQp : aO Tryz.prog 201 = true := by kernel_rfl
theorem aIk : aO Tryz.prog 173 = true := by kernel_rfl
theorem bAq : aO Tryz.prog 203 = true := by kernel_rfl
theorem fY : fG Tryz.prog 38 = some [.int .i32 0, .int .i32 0] := by kernel_rfl
theorem aSg : aO Tryz.prog 175 = true := by kernel_rfl
theorem aRj : aO Tryz.prog 202 = true := by kernel_rfl
theorem xG : aO Tryz.prog 200 = true := by kernel_rfl
theorem kR : gD Tryz.prog 2 = true := by kernel_rfl
theorem aCp : aO Tryz.prog 141 = true := by kernel_rfl
theorem bBl : aO Tryz.prog 244 = true := by kernel_rfl
theorem yL : fG Tryz.prog 2 = some [.int .i64 0] := by kernel_rfl
theorem aRc : aO Tryz.prog 245 = true := by kernel_rfl
theorem oN : gD Tryz.prog 170 = true := by kernel_rfl
theorem aUc : fG Tryz.prog 170 = some [.int .u64 0] := by kernel_rfl
theorem tD : vA Tryz.prog 318 2 38 2 = true := by kernel_rfl
theorem aKu : fG Tryz.prog 318 = some [.int .i32 0, .int .i32 0, .int .i32 0, .int .i32 0] := by kernel_rfl
theorem aCl : aO Tryz.prog 239 = true := by kernel_rfl
theorem aCk : aO Tryz.prog 238 = true := by kernel_rfl
theorem bCj : aO Tryz.prog 221 = true := by kernel_rfl
theorem rN : fG Tryz.prog 239 = some [.int .u32 0, .int .i32 0, .int .i32 0, .int .i32 0, .int .i32 0, .int .i32 0, .int .i32 0, .int .i32 0, .int .i32 0, .int .i32 0, .int .i32 0, .int .i32 0, .int .i32 0, .int .i32 0] := by kernel_rfl
theorem bAa : aO Tryz.prog 220 = true := by kernel_rfl
theorem aNh : fX Tryz.prog 239 [.int .u32 0, .int .i32 0, .int .i32 0, .int .i32 0, .int .i32 0, .int .i32 0, .int .i32 0, .int .i32 0, .int .i32 0, .int .i32 0, .int .i32 0, .int .i32 0, .int .i32 0, .int .i32 0] [(0, 10), (10, 2), (12, 2)] := eD Tryz.underlying239 (by kernel_rfl) (by kernel_rfl) (by kernel_rfl)
theorem jX : gI Tryz.prog 239 = some 14 := by kernel_rfl
theorem aCb : aO Tryz.prog 198 = true := by kernel_rfl
theorem aFx : dZ Tryz.prog 239 1 10 = true := by kernel_rfl
theorem aFb : dZ Tryz.prog 239 2 12 = true := by kernel_rfl
theorem aZd : aO Tryz.prog 199 = true := by kernel_rfl
theorem rZ : dZ Tryz.prog 239 0 0 = true := by kernel_rfl
theorem rH : fG Tryz.prog 121 = some [.int .u32 0, .int .u32 0, .int .i32 0, .int .i32 0, .int .i32 0] := by kernel_rfl
theorem bCl : aO Tryz.prog 171 = true := by kernel_rfl
theorem bBv : aO Tryz.prog 172 = true := by kernel_rfl
theorem aBc : fX Tryz.prog 121 [.int .u32 0, .int .u32 0, .int .i32 0, .int .i32 0, .int .i32 0] [(0, 2), (2, 2), (4, 1)] := eD Tryz.underlying121 (by kernel_rfl) (by kernel_rfl) (by kernel_rfl)
theorem gA : gI Tryz.prog 121 = some 5 := by kernel_rfl
theorem aBm : fX Tryz.prog 119 [.int .u32 0, .int .u32 0] [(0, 1), (1, 1)] := eD Tryz.underlying119 (by kernel_rfl) (by kernel_rfl) (by kernel_rfl)
theorem pD : fG Tryz.prog 119 = some [.int .u32 0, .int .u32 0] := by kernel_rfl
theorem aZs : aO Tryz.prog 174 = true := by kernel_rfl
theorem aDz : dZ Tryz.prog 191 1 1024 = true := by kernel_rfl
theorem bAu : aO Tryz.prog 161 = true := by kernel_rfl
theorem aZg : aO Tryz.prog 162 = true := by kernel_rfl
theorem aTi : wJ Tryz.prog 223 3 4 .i64 = true := by kernel_rfl
theorem zv4 : jD Tryz.prog 4 = some (.bool false) := by kernel_rfl
theorem wI : dZ Tryz.prog 191 0 0 = true := by kernel_rfl
theorem aJd : vA Tryz.prog 189 1024 188 1 = true := by kernel_rfl
theorem aDd : gD Tryz.prog 188 = true := by kernel_rfl
theorem aEg : eF Tryz.prog 188 36 1 4 = true := by kernel_rfl
theorem aRb : eF Tryz.prog 302 3 1 8 = true := by kernel_rfl
theorem mT : dZ Tryz.prog 119 0 0 = true := by kernel_rfl
theorem mE : dZ Tryz.prog 119 1 1 = true := by kernel_rfl
theorem bCe : aO Tryz.prog 197 = true := by kernel_rfl
theorem bAp : gD Tryz.prog 230 = true := by kernel_rfl
theorem bAk : aO Tryz.prog 196 = true := by kernel_rfl
theorem aHk : gD Tryz.prog 159 = true := by kernel_rfl
theorem rW : eF Tryz.prog 159 119 2 8 = true := by kernel_rfl
theorem bCm : aO Tryz.prog 218 = true := by kernel_rfl
theorem bAv : aO Tryz.prog 194 = true := by kernel_rfl
theorem aZv : aO Tryz.prog 195 = true := by kernel_rfl
theorem bCg : gI Tryz.prog 189 = some 1024 := by kernel_rfl
theorem aZr : aO Tryz.prog 167 = true := by kernel_rfl
theorem aOn : fX Tryz.prog 231 [] [] := eD Tryz.underlying231 (by kernel_rfl) (by kernel_rfl) (by kernel_rfl)
theorem aZt : aO Tryz.prog 169 = true := by kernel_rfl
theorem bAx : aO Tryz.prog 168 = true := by kernel_rfl
theorem aZb : aO Tryz.prog 160 = true := by kernel_rfl
theorem aCz : wJ Tryz.prog 186 36 193 .u32 = true := by kernel_rfl
theorem bEl : fG Tryz.prog 3 = some [.int .i64 0] := by kernel_rfl
theorem aSi : gD Tryz.prog 186 = true := by kernel_rfl
theorem aTo : jD Tryz.prog 193 = some (.agg [.int .i32 0, .int .i32 0, .int .i32 0, .int .i32 0].toArray) := by kernel_rfl
theorem bCf : aO Tryz.prog 164 = true := by kernel_rfl
theorem aPl : aO Tryz.prog 163 = true := by kernel_rfl
theorem aYz : aO Tryz.prog 166 = true := by kernel_rfl
theorem bBs : aO Tryz.prog 132 = true := by kernel_rfl
theorem bBn : aO Tryz.prog 133 = true := by kernel_rfl
theorem aZe : aO Tryz.prog 134 = true := by kernel_rfl
theorem aZx : aO Tryz.prog 136 = true := by kernel_rfl
theorem bBu : aO Tryz.prog 135 = true := by kernel_rfl
theorem bBa : aO Tryz.prog 165 = true := by kernel_rfl
theorem yC : dZ Tryz.prog 158 0 0 = true := by kernel_rfl
theorem yH : gD Tryz.prog 156 = true := by kernel_rfl
theorem yD : wJ Tryz.prog 156 36 40 .u32 = true := by kernel_rfl
theorem aVx : jD Tryz.prog 40 = some (.agg [.int .u32 0, .int .i32 0, .int .i32 0, .int .i32 0, .int .i32 0, .int .i32 0, .int .i32 0, .int .i32 0, .int .i32 0, .int .i32 0].toArray) := by kernel_rfl
theorem aSf : aO Tryz.prog 137 = true := by kernel_rfl
theorem oE : dZ Tryz.prog 158 1 1 = true := by kernel_rfl
theorem nU : gD Tryz.prog 82 = true := by kernel_rfl
theorem aOh : eF Tryz.prog 82 121 5 20 = true := by kernel_rfl
theorem bCk : aO Tryz.prog 107 = true := by kernel_rfl
theorem aLs : fX Tryz.prog 158 [.map none, .slice none 0 0] [(0, 1), (1, 1)] := eD Tryz.underlying158 (by kernel_rfl) (by kernel_rfl) (by kernel_rfl)
theorem bCh : aO Tryz.prog 105 = true := by kernel_rfl
theorem bCc : aO Tryz.prog 106 = true := by kernel_rfl
theorem aZp : aO Tryz.prog 246 = true := by kernel_rfl
theorem bAh : aO Tryz.prog 240 = true := by kernel_rfl
theorem mP : dZ Tryz.prog 121 1 2 = true := by kernel_rfl
theorem bCp : aO Tryz.prog 222 = true := by kernel_rfl
theorem aYy : aO Tryz.prog 223 = true := by kernel_rfl
theorem aQo : aO Tryz.prog 224 = true := by kernel_rfl
theorem aQe : aO Tryz.prog 225 = true := by kernel_rfl
theorem mG : dZ Tryz.prog 246 0 0 = true := by kernel_rfl
theorem rK : dZ Tryz.prog 121 0 0 = true := by kernel_rfl
theorem aCn : aO Tryz.prog 109 = true := by kernel_rfl
theorem bBc : aO Tryz.prog 204 = true := by kernel_rfl
theorem aRx : aO Tryz.prog 205 = true := by kernel_rfl
theorem mK : dZ Tryz.prog 246 1 1 = true := by kernel_rfl
theorem jY : gD Tryz.prog 200 = true := by kernel_rfl
theorem mV : dZ Tryz.prog 246 2 2 = true := by kernel_rfl
theorem lN : eF Tryz.prog 200 2 1 8 = true := by kernel_rfl
theorem bAe : aO Tryz.prog 177 = true := by kernel_rfl
theorem aAl : fX Tryz.prog 246 [.slice none 0 0, .slice none 0 0, .slice none 0 0] [(0, 1), (1, 1), (2, 1)] := eD Tryz.underlying246 (by kernel_rfl) (by kernel_rfl) (by kernel_rfl)
theorem aQl : aO Tryz.prog 176 = true := by kernel_rfl
theorem aZa : aO Tryz.prog 138 = true := by kernel_rfl
theorem aJm : aO Tryz.prog 118 = true := by kernel_rfl
theorem bBw : aO Tryz.prog 108 = true := by kernel_rfl
theorem aQz : dZ Tryz.prog 121 2 4 = true := by kernel_rfl
theorem aOx : aO Tryz.prog 142 = true := by kernel_rfl
theorem aBd : gD Tryz.prog 97 = true := by kernel_rfl
theorem aHl : eF Tryz.prog 97 135 2 16 = true := by kernel_rfl
theorem xT : dZ Tryz.prog 135 0 0 = true := by kernel_rfl
theorem wX : dZ Tryz.prog 135 1 1 = true := by kernel_rfl
theorem aXe : fG Tryz.prog 135 = some [.int .i64 0, .int .i64 0] := by kernel_rfl
theorem bAm : fG Tryz.prog 97 = some [.slice none 0 0] := by kernel_rfl
theorem aPf : aO Tryz.prog 111 = true := by kernel_rfl
theorem aOy : aO Tryz.prog 110 = true := by kernel_rfl
theorem aAw : eF Tryz.prog 175 133 1 8 = true := by kernel_rfl
theorem bBk : gD Tryz.prog 133 = true := by kernel_rfl
theorem bEr : aO Tryz.prog 84 = true := by kernel_rfl
theorem aEd : aO Tryz.prog 85 = true := by kernel_rfl
theorem bCz : aO Tryz.prog 83 = true := by kernel_rfl
theorem aYs : aO Tryz.prog 82 = true := by kernel_rfl
theorem bDn : aO Tryz.prog 86 = true := by kernel_rfl
theorem bEc : aO Tryz.prog 53 = true := by kernel_rfl
theorem bEp : aO Tryz.prog 54 = true := by kernel_rfl
theorem vQ : dZ Tryz.prog 84 1 1 = true := by kernel_rfl
theorem pK : dZ Tryz.prog 84 3 3 = true := by kernel_rfl
theorem rR : dZ Tryz.prog 27 2 2 = true := by kernel_rfl
theorem aBo : dZ Tryz.prog 84 0 0 = true := by kernel_rfl
theorem bDt : aO Tryz.prog 71 = true := by kernel_rfl
theorem vH : dZ Tryz.prog 84 2 2 = true := by kernel_rfl
theorem aUm : dZ Tryz.prog 27 0 0 = true := by kernel_rfl
theorem aCq : dZ Tryz.prog 27 1 1 = true := by kernel_rfl
theorem aPq : aO Tryz.prog 72 = true := by kernel_rfl
theorem bDr : aO Tryz.prog 73 = true := by kernel_rfl
theorem bEd : aO Tryz.prog 74 = true := by kernel_rfl
theorem wY : fG Tryz.prog 27 = some [.int .i64 0, .int .i64 0, .bool false] := by kernel_rfl
theorem aOz : fX Tryz.prog 84 [.slice none 0 0, .slice none 0 0, .slice none 0 0, .int .i64 0, .int .i64 0, .bool false] [(0, 1), (1, 1), (2, 1), (3, 3)] := eD Tryz.underlying84 (by kernel_rfl) (by kernel_rfl) (by kernel_rfl)
theorem aEx : vA Tryz.prog 86 4 85 1 = true := by kernel_rfl
theorem aZh : fG Tryz.prog 86 = some [.nilFunc, .nilFunc, .nilFunc, .nilFunc] := by kernel_rfl
theorem aLa : gD Tryz.prog 85 = true := by kernel_rfl
theorem bDy : aO Tryz.prog 40 = true := by kernel_rfl
theorem bDg : aO Tryz.prog 41 = true := by kernel_rfl
theorem bEh : aO Tryz.prog 42 = true := by kernel_rfl
theorem bEt : aO Tryz.prog 43 = true := by kernel_rfl
theorem sE : gI Tryz.prog 27 = some 3 := by kernel_rfl
theorem bDq : aO Tryz.prog 16 = true := by kernel_rfl
theorem aYe : ∀ (x0 x1 y0 y1 : Int), EqA Tryz.prog 38 [.int .i32 x0, .int .i32 x1] [.int .i32 y0, .int .i32 y1] (decide (x0 = y0 ∧ x1 = y1)) := fun x0 x1 y0 y1 => ⟨by kernel_rfl, fun w => aKe 9998 w x0 x1 y0 y1⟩
theorem us5 : (Tryz.prog.underlying 5).isSome = true := by kernel_rfl
theorem lU : eF Tryz.prog 57 5 1 1 = true := by kernel_rfl
theorem aBn : fG Tryz.prog 150 = some [.int .u32 0, .int .u32 0, .int .u32 0, .int .u32 0, .int .u32 0, .int .u32 0, .int .u32 0, .int .u32 0, .int .u32 0, .int .u32 0] := by kernel_rfl
theorem fF : vA Tryz.prog 150 10 36 1 = true := by kernel_rfl
theorem nE : aO Tryz.prog 130 = true := by kernel_rfl
theorem aJi : gI Tryz.prog 150 = some 10 := by kernel_rfl
theorem aWa : gD Tryz.prog 5 = true := by kernel_rfl
theorem aGw : aO Tryz.prog 131 = true := by kernel_rfl
theorem aYb : aO Tryz.prog 99 = true := by kernel_rfl
theorem aQk : aO Tryz.prog 100 = true := by kernel_rfl
theorem bAn : aO Tryz.prog 101 = true := by kernel_rfl
theorem kQ : aO Tryz.prog 102 = true := by kernel_rfl
theorem lB : aO Tryz.prog 103 = true := by kernel_rfl
theorem aZw : aO Tryz.prog 104 = true := by kernel_rfl
theorem rM : dZ Tryz.prog 56 0 0 = true := by kernel_rfl
theorem aJu : aO Tryz.prog 65 = true := by kernel_rfl
theorem pI : dZ Tryz.prog 54 0 0 = true := by kernel_rfl
theorem aYq : aO Tryz.prog 66 = true := by kernel_rfl
theorem bDl : aO Tryz.prog 89 = true := by kernel_rfl
theorem bDw : aO Tryz.prog 70 = true := by kernel_rfl
theorem bDu : aO Tryz.prog 64 = true := by kernel_rfl
theorem aBe : aO Tryz.prog 31 = true := by kernel_rfl
theorem bDp : aO Tryz.prog 67 = true := by kernel_rfl
theorem aFs : aO Tryz.prog 37 = true := by kernel_rfl
theorem bEb : aO Tryz.prog 87 = true := by kernel_rfl
theorem bEe : aO Tryz.prog 88 = true := by kernel_rfl
theorem aOu : fX Tryz.prog 54 [.slice none 0 0, .map none] [(0, 2)] := eD Tryz.underlying54 (by kernel_rfl) (by kernel_rfl) (by kernel_rfl)
theorem bDe : gI Tryz.prog 54 = some 2 := by kernel_rfl
theorem aXt : aO Tryz.prog 69 = true := by kernel_rfl
theorem bDb : aO Tryz.prog 68 = true := by kernel_rfl
theorem aSz : fG Tryz.prog 61 = some [.slice none 0 0, .int .i64 0, .int .u32 0, .int .i32 0, .int .i32 0, .int .i32 0, .int .i32 0, .int .i32 0, .int .i32 0, .int .i32 0, .int .i32 0, .int .i32 0, .slice none 0 0, .int .i64 0, .bool false] := by kernel_rfl
theorem gH : gI Tryz.prog 61 = some 15 := by kernel_rfl
theorem aDe : dZ Tryz.prog 59 0 0 = true := by kernel_rfl
theorem aVs : dZ Tryz.prog 59 1 1 = true := by kernel_rfl
theorem sC : dZ Tryz.prog 61 1 1 = true := by kernel_rfl
theorem aCw : dZ Tryz.prog 59 2 11 = true := by kernel_rfl
theorem aUh : dZ Tryz.prog 59 3 12 = true := by kernel_rfl
theorem aWq : dZ Tryz.prog 61 4 13 = true := by kernel_rfl
theorem aVm : dZ Tryz.prog 61 5 14 = true := by kernel_rfl
theorem aXm : dZ Tryz.prog 61 3 12 = true := by kernel_rfl
theorem aTp : gD Tryz.prog 57 = true := by kernel_rfl
theorem aLh : dZ Tryz.prog 59 4 14 = true := by kernel_rfl
theorem aVo : dZ Tryz.prog 61 2 2 = true := by kernel_rfl
theorem aLe : aO Tryz.prog 32 = true := by kernel_rfl
theorem aYh : aO Tryz.prog 58 = true := by kernel_rfl
theorem aXq : aO Tryz.prog 56 = true := by kernel_rfl
theorem aYl : aO Tryz.prog 57 = true := by kernel_rfl
theorem aYn : aO Tryz.prog 34 = true := by kernel_rfl
theorem aYf : aO Tryz.prog 35 = true := by kernel_rfl
theorem aLt : eF Tryz.prog 48 59 15 88 = true := by kernel_rfl
theorem aRo : fG Tryz.prog 56 = some [.slice none 0 0, .map none] := by kernel_rfl
theorem aXx : aO Tryz.prog 25 = true := by kernel_rfl
theorem bEo : aO Tryz.prog 26 = true := by kernel_rfl
theorem bEj : aO Tryz.prog 27 = true := by kernel_rfl
theorem aXz : gI Tryz.prog 59 = some 15 := by kernel_rfl
theorem aYm : aO Tryz.prog 28 = true := by kernel_rfl
end Go.Proofs.YtlmcphcgiclanaaGreatDoor

namespace Go.Proofs.YtlmcphcgiclanaaGreatDoor
open Go.Bil
open Go.RowKit (Below)
open Go.Proofs
theorem aPh (a b : Body) : EqA Tryz.prog 40 (aF a) (aF b) (decide (a = b)) := by
 have h := bEn a.key a.radius a.ax a.ay a.mass a.bounce a.px a.py a.vx a.vy b.key b.radius b.ax b.ay b.mass b.bounce b.px b.py b.vx b.vy
 rw [decide_eq_decide.2 (aSh (a := a) (b := b))]
 exact h
set_option maxHeartbeats 4000000 in
theorem aHe (w : World) (key : Int) (A : Option Addr) (n c : Nat) (xs : List Body) (R : Rd w 10 A n (xs.map aF)) :
  Calls Tryz.prog 38 #[.slice A n c, .int .u32 key] w (fun ex w' => ∃ v, ex = .returned v ∧ (fun v w' => v = .int .i64 (bZ key xs) ∧ Below w.heap.size w w') v w') := by
 have hlen : xs.length = n := by simpa using R.len
 have hbd := R.bound
 refine aH #[.tmp 4] 20 Tryz.func38 rfl Tryz.results38 Tryz.ntmps38 rfl ?_
 have M0 := Mem.refl w
 refine aD (aA (bI rfl rfl (aB (aC (aD (aD (aA (bI rfl rfl (aB (aC (aT (dN (σ := Nat) [0, 1] (fun k => [(5, .int .i64 (k : Int))]) (fun k w' => (k ≤ n ∧ ∀ (j : Nat) (c : Body), j < k → xs[j]? = some c → c.key ≠ key) ∧ Mem w [] [] w') (fun k => n - k) 0 (bK rfl fC) (⟨⟨by omega, fun j c hj => by omega⟩, M0⟩) ?_))))))))))))
 rintro k ρ1 w1 ⟨⟨hk, hne⟩, hM1⟩
 refine aD (aD (aA (aV rfl rfl (eK rfl rfl (wq (cR Tryz.underlying22 rfl) rfl (cS rfl rfl rfl rfl (aB (aC ?_))))))))
 refine aX rfl (fun h9 => ?_) (fun h9 => ?_)
 ·obtain ⟨xb, hxb⟩ := cL (k := k) hlen (by omega)
  refine aL (aC (aD (aT (aD (aA (eK rfl rfl (aV rfl rfl (wq (bX (k) eX rfl rfl rfl ((R.mem hM1).below_len (aJ aF hxb)) ((R.mem hM1).someK (aJ aF hxb))) rfl (wq (bO 0 eJ (R.mem hM1) (Nat.lt_of_le_of_lt (Nat.zero_le _) ((R.mem hM1).below_len (aJ aF hxb))) rfl) rfl ?_)))))))))
  refine wq (eH (o := 0) (.int _ _) bU (R.mem hM1) (aJ aF hxb) rfl rfl) rfl (aV rfl rfl (cS rfl rfl rfl rfl (aB (aC ?_))))
  refine aX rfl (fun h18 => ?_) (fun h18 => ?_)
  ·refine aD (aA (aV rfl rfl (bI rfl rfl (aB (aC (aN (jC (cH ?_))))))))
   refine sQ (jC (cH (cA (.int _ _) rfl ?_)))
   exact ⟨iE (sA hxb h18 hne).symm, hM1.below⟩
  ·refine aL (cV (aC (aA (aV rfl rfl (wq (bM rfl rfl (by omega) (by omega)) rfl (bI rfl rfl ?_))))))
   refine aB ?_
   refine cQ (k + 1) (bK rfl fC) (cU rfl (cU rfl kE)) ?_ ?_
   ·exact ⟨⟨by omega, rU hne hxb h18⟩, hM1⟩
   ·omega
 ·refine cN (dB (cZ (eZ (aC (aD (aA (bI rfl rfl ?_)))))))
  refine aB (aC (aN (cA (.int _ _) rfl ?_)))
  have hkn : k = n := by omega
  exact ⟨iE (aAa (fun j b hj => hne j b (by have := (List.getElem?_eq_some_iff.1 hj).1; omega) hj)).symm, hM1.below⟩
set_option maxHeartbeats 4000000 in
theorem oM (w : World) (x y l : Int) (h0 : 0 ≤ l) (h1 : l ≤ 2147483647) :
  Calls Tryz.prog 124 #[.agg [.int .i32 x, .int .i32 y].toArray, .int .i32 l] w (fun ex w' => ∃ v, ex = .returned v ∧ (fun v w' => v = .bool (decide (-l ≤ x ∧ x ≤ l ∧ -l ≤ y ∧ y ≤ l)) ∧ Below w.heap.size w w') v w') := by
 have hneg : IntKind.i32.wrap (-l) = -l := lH _ (by omega) (by omega)
 refine aH #[.tmp 4] 29 Tryz.func124 rfl Tryz.results124 Tryz.ntmps124 rfl ?_
 have M0 := Mem.refl w
 refine aD (aA (bJ (.agg (List.toArray _)) M0 rfl rfl rfl (fun b1 w1 M1 => (wq (aI (.bool false) rfl) rfl (aB (aC (aD (aA (aV rfl rfl (wq (aBi rfl) rfl ?_))))))))))
 refine aS 6 (.int .i32 (-l)) (iE hneg) (wq (aE 0 dP rfl) rfl (wq (aM 0 (.int _ _) aU M1 rfl rfl rfl) rfl (cS rfl rfl rfl rfl (wq (aG (.bool (decide _)) rfl) rfl ?_))))
 refine dE 10 rfl (fun g10 => ?_) (fun g10 => ?_)
 ·refine wq (aE 0 dP rfl) rfl (wq (aM 0 (.int _ _) aU M1 rfl rfl rfl) rfl (aV rfl rfl (cS rfl rfl rfl rfl (wq (bN true (.bool (decide _)) rfl rfl) rfl (wq (aG (.bool (decide _)) rfl) rfl ?_)))))
  refine dE 16 rfl (fun g16 => ?_) (fun g16 => ?_)
  ·refine aV rfl rfl (wq (aBi rfl) rfl (aS 18 (.int .i32 (-l)) (iE hneg) (wq (aE 1 dJ rfl) rfl (wq (aM 0 (.int _ _) aU M1 rfl rfl rfl) rfl (cS rfl rfl rfl rfl ?_)))))
   refine wq (bN true (.bool (decide _)) rfl rfl) rfl (wq (aG (.bool (decide _)) rfl) rfl ?_)
   refine dE 23 rfl (fun g23 => ?_) (fun g23 => ?_)
   ·refine wq (aE 1 dJ rfl) rfl (wq (aM 0 (.int _ _) aU M1 rfl rfl rfl) rfl (aV rfl rfl (cS rfl rfl rfl rfl (wq (bN true (.bool (decide _)) rfl rfl) rfl (wq (aI (.bool (decide _)) rfl) rfl ?_)))))
    refine aB (aC (aN (cA (.bool (decide _)) rfl ?_)))
    exact ⟨by first | exact bF (by omega) | exact bT (by omega) | exact bD (by omega), M1.below⟩
   ·refine aR rfl rfl (aR rfl rfl (aR rfl rfl (aR rfl rfl (wq (bN false (.bool false) rfl rfl) rfl (wq (aI (.bool false) rfl) rfl ?_)))))
    refine aB (aC (aN (cA (.bool false) rfl ?_)))
    exact ⟨by first | exact bF (by omega) | exact bT (by omega) | exact bD (by omega), M1.below⟩
  ·refine aR rfl rfl (aR rfl rfl (aR rfl rfl (aR rfl rfl (aR rfl rfl (wq (bN false (.bool false) rfl rfl) rfl ?_)))))
   refine wq (aG (.bool false) rfl) rfl (aR rfl rfl (aR rfl rfl (aR rfl rfl (aR rfl rfl (wq (bN false (.bool false) rfl rfl) rfl ?_)))))
   refine wq (aI (.bool false) rfl) rfl (aB (aC (aN (cA (.bool false) rfl ?_))))
   exact ⟨by first | exact bF (by omega) | exact bT (by omega) | exact bD (by omega), M1.below⟩
 ·refine aR rfl rfl (aR rfl rfl (aR rfl rfl (aR rfl rfl (wq (bN false (.bool false) rfl rfl) rfl (wq (aG (.bool false) rfl) rfl ?_)))))
  refine aR rfl rfl (aR rfl rfl (aR rfl rfl (aR rfl rfl (aR rfl rfl (wq (bN false (.bool false) rfl rfl) rfl ?_)))))
  refine wq (aG (.bool false) rfl) rfl (aR rfl rfl (aR rfl rfl (aR rfl rfl (aR rfl rfl (wq (bN false (.bool false) rfl rfl) rfl ?_)))))
  refine wq (aI (.bool false) rfl) rfl (aB (aC (aN (cA (.bool false) rfl ?_))))
  exact ⟨by first | exact bF (by omega) | exact bT (by omega) | exact bD (by omega), M1.below⟩
set_option maxHeartbeats 4000000 in
theorem aFl (w : World) (b : Body) (p : Nat) (R : Rd w 10 (some ⟨p, 0, none⟩) 1 [aF b]) :
  Calls Tryz.prog 122 #[.pointer (some ⟨p, 0, none⟩)] w (fun ex w' => ∃ v, ex = .returned v ∧ (fun v w' => v = .bool (decide (4096 ≤ b.radius ∧ b.radius ≤ 4194304)) ∧ Below w.heap.size w w') v w') := by
 rw [← eO p]
 refine aH #[.tmp 1] 10 Tryz.func122 rfl Tryz.results122 Tryz.ntmps122 rfl ?_
 have M0 := Mem.refl w
 refine aD (aA (wq (aI (.bool false) rfl) rfl (aB (aC (aD (aA (wq (bO 1 nA R (Nat.lt_of_le_of_lt (Nat.zero_le _) (R.below_len (show [aF b][0]? = some (aF b) from rfl))) rfl) rfl (wq (eH (o := 1) (.int _ _) aU R (show [aF b][0]? = some (aF b) from rfl) rfl rfl) rfl ?_))))))))
 refine cS rfl rfl rfl rfl (wq (aG (.bool (decide _)) rfl) rfl ?_)
 refine dE 5 rfl (fun g5 => ?_) (fun g5 => ?_)
 ·refine wq (bO 1 nA R (Nat.lt_of_le_of_lt (Nat.zero_le _) (R.below_len (show [aF b][0]? = some (aF b) from rfl))) rfl) rfl (wq (eH (o := 1) (.int _ _) aU R (show [aF b][0]? = some (aF b) from rfl) rfl rfl) rfl (cS rfl rfl rfl rfl (wq (bN true (.bool (decide _)) rfl rfl) rfl ?_)))
  refine wq (aI (.bool (decide _)) rfl) rfl (aB (aC (aN (cA (.bool (decide _)) rfl ?_))))
  exact ⟨by first | exact bF (by omega) | exact bT (by omega) | exact bD (by omega), M0.below⟩
 ·refine aR rfl rfl (aR rfl rfl (aR rfl rfl (wq (bN false (.bool false) rfl rfl) rfl (wq (aI (.bool false) rfl) rfl (aB (aC (aN ?_)))))))
  refine cA (.bool false) rfl ?_
  exact ⟨by first | exact bF (by omega) | exact bT (by omega) | exact bD (by omega), M0.below⟩
set_option maxHeartbeats 4000000 in
theorem aEi (w : World) (b : Body) (p : Nat) (R : Rd w 10 (some ⟨p, 0, none⟩) 1 [aF b]) :
  Calls Tryz.prog 123 #[.pointer (some ⟨p, 0, none⟩)] w (fun ex w' => ∃ v, ex = .returned v ∧ (fun v w' => v = .bool (decide (-4194304 ≤ b.ax ∧ b.ax ≤ 4194304 ∧ -4194304 ≤ b.ay ∧ b.ay ≤ 4194304)) ∧ Below w.heap.size w w') v w') := by
 rw [← eO p]
 refine aH #[.tmp 1] 5 Tryz.func123 rfl Tryz.results123 Tryz.ntmps123 rfl ?_
 have M0 := Mem.refl w
 refine aD (aA (wq (aI (.bool false) rfl) rfl (aB (aC (aD (aA (wq (bO 2 kH R (Nat.lt_of_le_of_lt (Nat.zero_le _) (R.below_len (show [aF b][0]? = some (aF b) from rfl))) rfl) rfl (wq (xX (o := 2) _ bH R (show [aF b][0]? = some (aF b) from rfl) rfl rfl rfl) rfl ?_))))))))
 refine bY aJl rfl rfl (oM _ _ _ _ (by omega) (by omega)) ?_
 rintro v1 w1 ⟨rfl, hb1⟩
 have M1 := M0.callB hb1
 refine wq (aI (.bool (decide _)) rfl) rfl (aB (aC (aN (cA (.bool (decide _)) rfl ?_))))
 exact ⟨by first | exact bF (by omega) | exact bT (by omega) | exact bD (by omega), M1.below⟩
set_option maxHeartbeats 4000000 in
theorem aEp (w : World) (b : Body) (p : Nat) (R : Rd w 10 (some ⟨p, 0, none⟩) 1 [aF b]) :
  Calls Tryz.prog 125 #[.pointer (some ⟨p, 0, none⟩)] w (fun ex w' => ∃ v, ex = .returned v ∧ (fun v w' => v = .bool (decide (0 ≤ b.mass ∧ b.mass ≤ 1048576)) ∧ Below w.heap.size w w') v w') := by
 rw [← eO p]
 refine aH #[.tmp 1] 10 Tryz.func125 rfl Tryz.results125 Tryz.ntmps125 rfl ?_
 have M0 := Mem.refl w
 refine aD (aA (wq (aI (.bool false) rfl) rfl (aB (aC (aD (aA (wq (bO 4 fE R (Nat.lt_of_le_of_lt (Nat.zero_le _) (R.below_len (show [aF b][0]? = some (aF b) from rfl))) rfl) rfl (wq (eH (o := 4) (.int _ _) aU R (show [aF b][0]? = some (aF b) from rfl) rfl rfl) rfl ?_))))))))
 refine cS rfl rfl rfl rfl (wq (aG (.bool (decide _)) rfl) rfl ?_)
 refine dE 5 rfl (fun g5 => ?_) (fun g5 => ?_)
 ·refine wq (bO 4 fE R (Nat.lt_of_le_of_lt (Nat.zero_le _) (R.below_len (show [aF b][0]? = some (aF b) from rfl))) rfl) rfl (wq (eH (o := 4) (.int _ _) aU R (show [aF b][0]? = some (aF b) from rfl) rfl rfl) rfl (cS rfl rfl rfl rfl (wq (bN true (.bool (decide _)) rfl rfl) rfl ?_)))
  refine wq (aI (.bool (decide _)) rfl) rfl (aB (aC (aN (cA (.bool (decide _)) rfl ?_))))
  exact ⟨by first | exact bF (by omega) | exact bT (by omega) | exact bD (by omega), M0.below⟩
 ·refine aR rfl rfl (aR rfl rfl (aR rfl rfl (wq (bN false (.bool false) rfl rfl) rfl (wq (aI (.bool false) rfl) rfl (aB (aC (aN ?_)))))))
  refine cA (.bool false) rfl ?_
  exact ⟨by first | exact bF (by omega) | exact bT (by omega) | exact bD (by omega), M0.below⟩
set_option maxHeartbeats 4000000 in
theorem aDw (w : World) (b : Body) (p : Nat) (R : Rd w 10 (some ⟨p, 0, none⟩) 1 [aF b]) :
  Calls Tryz.prog 126 #[.pointer (some ⟨p, 0, none⟩)] w (fun ex w' => ∃ v, ex = .returned v ∧ (fun v w' => v = .bool (decide (0 ≤ b.bounce ∧ b.bounce ≤ 65536)) ∧ Below w.heap.size w w') v w') := by
 rw [← eO p]
 refine aH #[.tmp 1] 10 Tryz.func126 rfl Tryz.results126 Tryz.ntmps126 rfl ?_
 have M0 := Mem.refl w
 refine aD (aA (wq (aI (.bool false) rfl) rfl (aB (aC (aD (aA (wq (bO 5 rI R (Nat.lt_of_le_of_lt (Nat.zero_le _) (R.below_len (show [aF b][0]? = some (aF b) from rfl))) rfl) rfl (wq (eH (o := 5) (.int _ _) aU R (show [aF b][0]? = some (aF b) from rfl) rfl rfl) rfl ?_))))))))
 refine cS rfl rfl rfl rfl (wq (aG (.bool (decide _)) rfl) rfl ?_)
 refine dE 5 rfl (fun g5 => ?_) (fun g5 => ?_)
 ·refine wq (bO 5 rI R (Nat.lt_of_le_of_lt (Nat.zero_le _) (R.below_len (show [aF b][0]? = some (aF b) from rfl))) rfl) rfl (wq (eH (o := 5) (.int _ _) aU R (show [aF b][0]? = some (aF b) from rfl) rfl rfl) rfl (cS rfl rfl rfl rfl (wq (bN true (.bool (decide _)) rfl rfl) rfl ?_)))
  refine wq (aI (.bool (decide _)) rfl) rfl (aB (aC (aN (cA (.bool (decide _)) rfl ?_))))
  exact ⟨by first | exact bF (by omega) | exact bT (by omega) | exact bD (by omega), M0.below⟩
 ·refine aR rfl rfl (aR rfl rfl (aR rfl rfl (wq (bN false (.bool false) rfl rfl) rfl (wq (aI (.bool false) rfl) rfl (aB (aC (aN ?_)))))))
  refine cA (.bool false) rfl ?_
  exact ⟨by first | exact bF (by omega) | exact bT (by omega) | exact bD (by omega), M0.below⟩
set_option maxHeartbeats 4000000 in
theorem aGg (w : World) (b : Body) (p : Nat) (R : Rd w 10 (some ⟨p, 0, none⟩) 1 [aF b]) :
  Calls Tryz.prog 127 #[.pointer (some ⟨p, 0, none⟩)] w (fun ex w' => ∃ v, ex = .returned v ∧ (fun v w' => v = .bool (decide (-1073741824 ≤ b.px ∧ b.px ≤ 1073741824 ∧ -1073741824 ≤ b.py ∧ b.py ≤ 1073741824)) ∧ Below w.heap.size w w') v w') := by
 rw [← eO p]
 refine aH #[.tmp 1] 5 Tryz.func127 rfl Tryz.results127 Tryz.ntmps127 rfl ?_
 have M0 := Mem.refl w
 refine aD (aA (wq (aI (.bool false) rfl) rfl (aB (aC (aD (aA (wq (bO 6 fW R (Nat.lt_of_le_of_lt (Nat.zero_le _) (R.below_len (show [aF b][0]? = some (aF b) from rfl))) rfl) rfl (wq (xX (o := 6) _ bH R (show [aF b][0]? = some (aF b) from rfl) rfl rfl rfl) rfl ?_))))))))
 refine bY aJl rfl rfl (oM _ _ _ _ (by omega) (by omega)) ?_
 rintro v1 w1 ⟨rfl, hb1⟩
 have M1 := M0.callB hb1
 refine wq (aI (.bool (decide _)) rfl) rfl (aB (aC (aN (cA (.bool (decide _)) rfl ?_))))
 exact ⟨by first | exact bF (by omega) | exact bT (by omega) | exact bD (by omega), M1.below⟩
set_option maxHeartbeats 4000000 in
theorem aGl (w : World) (b : Body) (p : Nat) (R : Rd w 10 (some ⟨p, 0, none⟩) 1 [aF b]) :
  Calls Tryz.prog 128 #[.pointer (some ⟨p, 0, none⟩)] w (fun ex w' => ∃ v, ex = .returned v ∧ (fun v w' => v = .bool (decide (-16777216 ≤ b.vx ∧ b.vx ≤ 16777216 ∧ -16777216 ≤ b.vy ∧ b.vy ≤ 16777216)) ∧ Below w.heap.size w w') v w') := by
 rw [← eO p]
 refine aH #[.tmp 1] 5 Tryz.func128 rfl Tryz.results128 Tryz.ntmps128 rfl ?_
 have M0 := Mem.refl w
 refine aD (aA (wq (aI (.bool false) rfl) rfl (aB (aC (aD (aA (wq (bO 8 fD R (Nat.lt_of_le_of_lt (Nat.zero_le _) (R.below_len (show [aF b][0]? = some (aF b) from rfl))) rfl) rfl (wq (xX (o := 8) _ bH R (show [aF b][0]? = some (aF b) from rfl) rfl rfl rfl) rfl ?_))))))))
 refine bY aJl rfl rfl (oM _ _ _ _ (by omega) (by omega)) ?_
 rintro v1 w1 ⟨rfl, hb1⟩
 have M1 := M0.callB hb1
 refine wq (aI (.bool (decide _)) rfl) rfl (aB (aC (aN (cA (.bool (decide _)) rfl ?_))))
 exact ⟨by first | exact bF (by omega) | exact bT (by omega) | exact bD (by omega), M1.below⟩
set_option maxHeartbeats 4000000 in
theorem qM (w : World) (b : Body) :
  Calls Tryz.prog 98 #[(.agg (aF b).toArray)] w (fun ex w' => ∃ v, ex = .returned v ∧ (fun v w' => v = .int .i64 (check b) ∧ Below w.heap.size w w') v w') := by
 refine aH #[.tmp 2] 28 Tryz.func98 rfl Tryz.results98 Tryz.ntmps98 rfl ?_
 have M0 := Mem.refl w
 refine aD (aA (bJ (.agg (List.toArray _)) M0 rfl rfl rfl (fun b1 w1 M1 => (bI rfl rfl (aB (aC (aD (aD (aA (wq (cM [] [.pointer _] rfl rfl) rfl (wq (cI [(0, .func _ _ _), (1, .int _ _)] _ kK rfl rfl) rfl ?_)))))))))))
 refine wq (cM [] [.pointer _] rfl rfl) rfl (wq (cI [(0, .func _ _ _), (1, .int _ _)] _ kK rfl rfl) rfl (wq (cM [] [.pointer _] rfl rfl) rfl (wq (cI [(0, .func _ _ _), (1, .int _ _)] _ kK rfl rfl) rfl (wq (cM [] [.pointer _] rfl rfl) rfl (wq (cI [(0, .func _ _ _), (1, .int _ _)] _ kK rfl rfl) rfl ?_)))))
 refine wq (cM [] [.pointer _] rfl rfl) rfl (wq (cI [(0, .func _ _ _), (1, .int _ _)] _ kK rfl rfl) rfl (wq (cM [] [.pointer _] rfl rfl) rfl (wq (cI [(0, .func _ _ _), (1, .int _ _)] _ kK rfl rfl) rfl (wq (nZ [.agg (List.toArray _), .agg (List.toArray _), .agg (List.toArray _), .agg (List.toArray _), .agg (List.toArray _), .agg (List.toArray _)] qO aWc rfl rfl (dG rfl)) rfl ?_))))
 refine aV rfl rfl (aB (aC (aT (kX 7 (gL (aD (aA (cS rfl rfl rfl rfl (lQ 19 rfl (by first | decide | omega) ?_)))))))))
 refine aB (aC (aD (cO rfl (aL (aC (aD (aT (aD (aA (wq (lX 0 _ qO kF rfl rfl (by decide) (by decide) rfl rfl) rfl (aQ pA M1 rfl rfl (fun b2 w2 M2 => (bB 1 _ kF M2 rfl rfl rfl rfl rfl (aP rfl) rfl (fun w3 M3 => ?_))))))))))))))
 refine aB (aC (aD (aA (wq (aE 0 mS rfl) rfl (wq (aM 1 (.func _ _ _) aAf M3 rfl rfl rfl) rfl (bY bAl rfl rfl (aFl _ b _ (lJ 0 M3 rfl rfl)) ?_))))))
 rintro v4 w4 ⟨rfl, hb4⟩
 have M4 := M3.callB hb4
 refine wq (qC rfl) rfl (aB (aC ?_))
 refine aX rfl (fun h24 => ?_) (fun h24 => ?_)
 ·refine aD (aA (wq (aE 1 mD rfl) rfl (wq (aM 1 (.int _ _) aAu M4 rfl rfl rfl) rfl (bI rfl rfl (aB (aC (aN (jC ?_))))))))
  refine cH (cH (jC (cH (cA (.int _ _) rfl ?_))))
  exact ⟨iE (aJt b (by omega)).symm, M4.below⟩
 ·refine aL (cV (aC (aA (wq (bM rfl rfl (by first | decide | omega) (by first | decide | omega)) rfl (aS 27 (.int .i64 1) (iE (by first | decide | omega)) (aV rfl rfl ?_))))))
  refine aB (aC (gL (aD (aA (cS rfl rfl rfl rfl (lQ 19 rfl (by first | decide | omega) (aB (aC (aD ?_)))))))))
  refine cO rfl (aL (aC (aD (aT (aD (aA (wq (lX 1 _ qO kF rfl rfl (by decide) (by decide) rfl rfl) rfl (aQ pA M4 rfl rfl (fun b5 w5 M5 => (bB 2 _ kF M5 rfl rfl rfl rfl rfl (aP rfl) rfl (fun w6 M6 => (aB (aC (aD (aA ?_)))))))))))))))
  refine wq (aE 0 mS rfl) rfl (wq (aM 2 (.func _ _ _) aAf M6 rfl rfl rfl) rfl (bY aZk rfl rfl (aEi _ b _ (lJ 0 M6 rfl rfl)) ?_))
  rintro v7 w7 ⟨rfl, hb7⟩
  have M7 := M6.callB hb7
  refine wq (qC rfl) rfl (aB (aC ?_))
  refine aX rfl (fun h24 => ?_) (fun h24 => ?_)
  ·refine aD (aA (wq (aE 1 mD rfl) rfl (wq (aM 2 (.int _ _) aAu M7 rfl rfl rfl) rfl (bI rfl rfl (aB (aC (aN (jC ?_))))))))
   refine cH (cH (jC (cH (cA (.int _ _) rfl ?_))))
   exact ⟨iE (aKy b (by omega) (by omega)).symm, M7.below⟩
  ·refine aL (cV (aC (aA (wq (bM rfl rfl (by first | decide | omega) (by first | decide | omega)) rfl (aS 27 (.int .i64 2) (iE (by first | decide | omega)) (aV rfl rfl ?_))))))
   refine aB (aC (gL (aD (aA (cS rfl rfl rfl rfl (lQ 19 rfl (by first | decide | omega) (aB (aC (aD ?_)))))))))
   refine cO rfl (aL (aC (aD (aT (aD (aA (wq (lX 2 _ qO kF rfl rfl (by decide) (by decide) rfl rfl) rfl (aQ pA M7 rfl rfl (fun b8 w8 M8 => (bB 3 _ kF M8 rfl rfl rfl rfl rfl (aP rfl) rfl (fun w9 M9 => (aB (aC (aD (aA ?_)))))))))))))))
   refine wq (aE 0 mS rfl) rfl (wq (aM 3 (.func _ _ _) aAf M9 rfl rfl rfl) rfl (bY bBr rfl rfl (aEp _ b _ (lJ 0 M9 rfl rfl)) ?_))
   rintro v10 w10 ⟨rfl, hb10⟩
   have M10 := M9.callB hb10
   refine wq (qC rfl) rfl (aB (aC ?_))
   refine aX rfl (fun h24 => ?_) (fun h24 => ?_)
   ·refine aD (aA (wq (aE 1 mD rfl) rfl (wq (aM 3 (.int _ _) aAu M10 rfl rfl rfl) rfl (bI rfl rfl (aB (aC (aN (jC ?_))))))))
    refine cH (cH (jC (cH (cA (.int _ _) rfl ?_))))
    exact ⟨iE (aJr b (by omega) (by omega) (by omega)).symm, M10.below⟩
   ·refine aL (cV (aC (aA (wq (bM rfl rfl (by first | decide | omega) (by first | decide | omega)) rfl (aS 27 (.int .i64 3) (iE (by first | decide | omega)) (aV rfl rfl ?_))))))
    refine aB (aC (gL (aD (aA (cS rfl rfl rfl rfl (lQ 19 rfl (by first | decide | omega) (aB (aC (aD ?_)))))))))
    refine cO rfl (aL (aC (aD (aT (aD (aA (wq (lX 3 _ qO kF rfl rfl (by decide) (by decide) rfl rfl) rfl (aQ pA M10 rfl rfl (fun b11 w11 M11 => (bB 4 _ kF M11 rfl rfl rfl rfl rfl (aP rfl) rfl (fun w12 M12 => (aB (aC (aD (aA ?_)))))))))))))))
    refine wq (aE 0 mS rfl) rfl (wq (aM 4 (.func _ _ _) aAf M12 rfl rfl rfl) rfl (bY aZc rfl rfl (aDw _ b _ (lJ 0 M12 rfl rfl)) ?_))
    rintro v13 w13 ⟨rfl, hb13⟩
    have M13 := M12.callB hb13
    refine wq (qC rfl) rfl (aB (aC ?_))
    refine aX rfl (fun h24 => ?_) (fun h24 => ?_)
    ·refine aD (aA (wq (aE 1 mD rfl) rfl (wq (aM 4 (.int _ _) aAu M13 rfl rfl rfl) rfl (bI rfl rfl (aB (aC (aN (jC ?_))))))))
     refine cH (cH (jC (cH (cA (.int _ _) rfl ?_))))
     exact ⟨iE (aLf b (by omega) (by omega) (by omega) (by omega)).symm, M13.below⟩
    ·refine aL (cV (aC (aA (wq (bM rfl rfl (by first | decide | omega) (by first | decide | omega)) rfl (aS 27 (.int .i64 4) (iE (by first | decide | omega)) (aV rfl rfl ?_))))))
     refine aB (aC (gL (aD (aA (cS rfl rfl rfl rfl (lQ 19 rfl (by first | decide | omega) (aB (aC (aD ?_)))))))))
     refine cO rfl (aL (aC (aD (aT (aD (aA (wq (lX 4 _ qO kF rfl rfl (by decide) (by decide) rfl rfl) rfl (aQ pA M13 rfl rfl (fun b14 w14 M14 => (bB 5 _ kF M14 rfl rfl rfl rfl rfl (aP rfl) rfl (fun w15 M15 => (aB (aC (aD (aA ?_)))))))))))))))
     refine wq (aE 0 mS rfl) rfl (wq (aM 5 (.func _ _ _) aAf M15 rfl rfl rfl) rfl (bY aZy rfl rfl (aGg _ b _ (lJ 0 M15 rfl rfl)) ?_))
     rintro v16 w16 ⟨rfl, hb16⟩
     have M16 := M15.callB hb16
     refine wq (qC rfl) rfl (aB (aC ?_))
     refine aX rfl (fun h24 => ?_) (fun h24 => ?_)
     ·refine aD (aA (wq (aE 1 mD rfl) rfl (wq (aM 5 (.int _ _) aAu M16 rfl rfl rfl) rfl (bI rfl rfl (aB (aC (aN (jC ?_))))))))
      refine cH (cH (jC (cH (cA (.int _ _) rfl ?_))))
      exact ⟨iE (aKx b (by omega) (by omega) (by omega) (by omega) (by omega)).symm, M16.below⟩
     ·refine aL (cV (aC (aA (wq (bM rfl rfl (by first | decide | omega) (by first | decide | omega)) rfl (aS 27 (.int .i64 5) (iE (by first | decide | omega)) (aV rfl rfl ?_))))))
      refine aB (aC (gL (aD (aA (cS rfl rfl rfl rfl (lQ 19 rfl (by first | decide | omega) (aB (aC (aD ?_)))))))))
      refine cO rfl (aL (aC (aD (aT (aD (aA (wq (lX 5 _ qO kF rfl rfl (by decide) (by decide) rfl rfl) rfl (aQ pA M16 rfl rfl (fun b17 w17 M17 => (bB 6 _ kF M17 rfl rfl rfl rfl rfl (aP rfl) rfl (fun w18 M18 => (aB (aC (aD (aA ?_)))))))))))))))
      refine wq (aE 0 mS rfl) rfl (wq (aM 6 (.func _ _ _) aAf M18 rfl rfl rfl) rfl (bY bBx rfl rfl (aGl _ b _ (lJ 0 M18 rfl rfl)) ?_))
      rintro v19 w19 ⟨rfl, hb19⟩
      have M19 := M18.callB hb19
      refine wq (qC rfl) rfl (aB (aC ?_))
      refine aX rfl (fun h24 => ?_) (fun h24 => ?_)
      ·refine aD (aA (wq (aE 1 mD rfl) rfl (wq (aM 6 (.int _ _) aAu M19 rfl rfl rfl) rfl (bI rfl rfl (aB (aC (aN (jC ?_))))))))
       refine cH (cH (jC (cH (cA (.int _ _) rfl ?_))))
       exact ⟨iE (aKi b (by omega) (by omega) (by omega) (by omega) (by omega) (by omega)).symm, M19.below⟩
      ·refine aL (cV (aC (aA (wq (bM rfl rfl (by first | decide | omega) (by first | decide | omega)) rfl (aS 27 (.int .i64 6) (iE (by first | decide | omega)) (aV rfl rfl ?_))))))
       refine aB (aC (gL (aD (aA (cS rfl rfl rfl rfl (uH 19 rfl (by first | decide | omega) (aB (aC (aD ?_)))))))))
       refine cC rfl (cN (dB (dB (eZ (aC (aD (aA (bI rfl rfl ?_))))))))
       refine aB (aC (aN (cA (.int _ _) rfl ?_)))
       exact ⟨iE (aWj b (by omega) (by omega) (by omega) (by omega) (by omega) (by omega)).symm, M19.below⟩
set_option maxHeartbeats 4000000 in
theorem tZ (w : World) (x : Int) :
  Calls Tryz.prog 121 #[.int .u32 x] w (fun ex w' => ∃ v, ex = .returned v ∧ (fun v w' => v = .bool false ∧ w' = w) v w') := by
 refine aH #[.tmp 2] 6 Tryz.func121 rfl Tryz.results121 Tryz.ntmps121 rfl ?_
 have M0 := Mem.refl w
 refine aD (aA (wq (aI (.bool false) rfl) rfl (aB (aC (aD (aA (aV rfl rfl (aV rfl rfl (cS rfl rfl rfl rfl ?_)))))))))
 refine wq (aI (.bool (decide _)) rfl) rfl (aB (aC (aN (cA (.bool (decide _)) rfl ?_))))
 exact ⟨(bF (by omega)).symm, rfl⟩
set_option maxHeartbeats 4000000 in
theorem jR (w : World) (x y : Int) :
  Calls Tryz.prog 97 #[.int .u32 x, .int .u32 y] w (fun ex w' => ∃ v, ex = .returned v ∧ (fun v w' => v = .int .i64 (kU x y) ∧ w' = w) v w') := by
 refine aH #[.tmp 4] 20 Tryz.func97 rfl Tryz.results97 Tryz.ntmps97 rfl ?_
 have M0 := Mem.refl w
 refine aD (aA (bI rfl rfl (aB (aC (aD (aA (aV rfl rfl (bY aRk rfl rfl (tZ _ _) ?_))))))))
 rintro v1 w1 ⟨rfl, rfl⟩
 have M1 : Mem _ _ [] _ := M0
 refine wq (aI (.bool false) rfl) rfl (aB (aC (aD (aA (aV rfl rfl (bY aRk rfl rfl (tZ _ _) ?_))))))
 rintro v2 w2 ⟨rfl, rfl⟩
 have M2 : Mem _ _ [] _ := M1
 refine wq (aI (.bool false) rfl) rfl (aB (aC (aD (aD (aA (wq (aG (.bool false) rfl) rfl (aB (aC (cC rfl (aL (aC (aD (aD (aA ?_))))))))))))))
 refine wq (aG (.bool false) rfl) rfl (aB (aC (cC rfl (aL (aC (aD (aD (aA (aV rfl rfl (aV rfl rfl ?_))))))))))
 refine cS rfl rfl rfl rfl (aB (aC ?_))
 refine aX rfl (fun h16 => ?_) (fun h16 => ?_)
 ·refine aD (aA (bI rfl rfl (aB (aC (aN (cH (cA (.int _ _) rfl ?_)))))))
  exact ⟨iE (by unfold kU; (repeat' split) <;> omega), rfl⟩
 ·refine aL (aC (aD (aD (aA (aV rfl rfl (aV rfl rfl (cS rfl rfl rfl rfl (aB (aC ?_)))))))))
  refine aX rfl (fun h19 => ?_) (fun h19 => ?_)
  ·refine aD (aA (bI rfl rfl (aB (aC (aN (cH (cA (.int _ _) rfl ?_)))))))
   exact ⟨iE (by unfold kU; (repeat' split) <;> omega), rfl⟩
  ·refine aL (aC (aD (aA (bI rfl rfl (aB (aC (aN (cA (.int _ _) rfl ?_))))))))
   exact ⟨iE (by unfold kU; (repeat' split) <;> omega), rfl⟩
set_option maxHeartbeats 4000000 in
theorem yY (a b : Body) (w : World) :
  Calls Tryz.prog 96 #[(.agg (aF a).toArray), (.agg (aF b).toArray)] w (fun ex w' => ∃ v, ex = .returned v ∧ (fun v w' => v = .int .i64 (kU a.key b.key) ∧ ∃ q os, w' = Go.Sort.grow (w.drewN q) os) v w') := by
 refine aH #[.tmp 4] 10 Tryz.func96 rfl Tryz.results96 Tryz.ntmps96 rfl ?_
 have M0 := Mem.refl w
 refine aD (aA (vS (.agg (List.toArray _)) M0 rfl rfl rfl (fun M1 => (vS (.agg (List.toArray _)) M1 rfl rfl rfl (fun M2 => (bI rfl rfl (aB (aC (aD (aA (wq (aE 0 eJ rfl) rfl ?_)))))))))))
 refine wq (aM 0 (.int _ _) bU M2 rfl rfl rfl) rfl (wq (aE 0 eJ rfl) rfl (wq (aM 1 (.int _ _) bU M2 rfl rfl rfl) rfl (bY aKg rfl rfl (jR _ _ _) ?_)))
 rintro v3 w3 ⟨rfl, rfl⟩
 have M3 : Mem _ _ [_, _] _ := M2
 refine bI rfl rfl (aB (aC (aN (cA (.int _ _) rfl ?_))))
 exact ⟨rfl, bDm _ _ _⟩
set_option maxHeartbeats 4000000 in
theorem zA (w : World) (A : Option Addr) (n c : Nat) (ls : List (List Value)) (R : Rd w 10 A n ls) (h1 : ∀ y ∈ ls, ∀ u ∈ y, one u = true) (hn : n ≤ 1048576) :
  Calls Tryz.prog 49 #[.slice A n c] w (fun ex w' => ∃ v, ex = .returned v ∧ (fun v w' => ∃ A' n' c' e, v = .slice A' n' c' ∧ aW 40 10 A' n' c' ls e ∧ Mem w [] [e] w' ∧ A'.isSome = A.isSome) v w') := by
 refine aH #[.tmp 2] 8 Tryz.func49 rfl Tryz.results49 Tryz.ntmps49 rfl ?_
 have M0 := Mem.refl w
 refine aD (aA (fZ rfl rfl (aB (aC (aD (aD (aA (eK rfl rfl (wq (aCo _ Tryz.underlying22 rfl rfl) rfl (aB (aC ?_)))))))))))
 refine gJ _ rfl (fun h4 => ?_) (fun h4 => ?_)
 ·refine aD (aA (fZ rfl rfl (aB (aC (aN (cH (cA (.slice _ _ _) rfl ?_)))))))
  have hA : A = none := by cases A <;> simp_all
  have hl : ls = [] := by
   rcases Nat.eq_zero_or_pos n with h | h
   ·subst h; exact List.eq_nil_of_length_eq_zero R.len
   ·have := R.some h; rw [hA] at this; cases this
  subst hA; subst hl
  exact ⟨_, _, _, _, rfl, aW.nil 40 10 default, M0.dummy default, rfl⟩
 ·refine aL (aC (aD (aA (cY [] [] rfl eX M0 rfl rfl rfl rfl (dG rfl) (by decide) (fun b1 w1 M1 => (eK rfl rfl (aHz 0 ls eX M1 rfl rfl rfl rfl rfl (aW.empty b1) (R.mem M1) h1 (by omega) (fun A2 c2 e2 w2 M2 hR2 hA2 => ?_))))))))
  have hAA := hA2
  refine fZ rfl rfl (aB (aC (aN (cA (.slice _ _ _) rfl ?_))))
  refine ⟨_, _, _, _, rfl, by simpa using hR2, M2, ?_⟩
  rw [hAA rfl]; cases A <;> simp_all
end Go.Proofs.YtlmcphcgiclanaaGreatDoor
