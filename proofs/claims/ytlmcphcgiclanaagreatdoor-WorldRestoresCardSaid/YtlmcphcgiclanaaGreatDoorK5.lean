/- Part of the proof of the laws of this seat: Ty, T26, T25, T20, T20r, T20l, T21, T22, R5, R6, Bd, Lib, St. No conditions. -/
import Derived.Test.YtlmcphcgiclanaaGreatDoorProg
import Derived.Test.YtlmcphcgiclanaaGreatDoorK2
import Derived.Test.YtlmcphcgiclanaaGreatDoorK3
import Derived.Test.YtlmcphcgiclanaaGreatDoorK4
import Derived.KernelRfl
set_option linter.unusedVariables false
set_option linter.unusedSimpArgs false
set_option linter.unnecessarySimpa false
namespace Go.Proofs.YtlmcphcgiclanaaGreatDoor
open Go.Bil
open Go.Proofs
theorem bZ : gL Tryz.prog 36 = true := by kernel_rfl
theorem aU : gL Tryz.prog 21 = true := by kernel_rfl
theorem aLn : ∀ (d : Nat) (w : World) (x0 x1 y0 y1 : Int), (Op.equalIn (d + 2) 38 (.agg [.int .i32 x0, .int .i32 x1].toArray) (.agg [.int .i32 y0, .int .i32 y1].toArray)).run Tryz.prog w = .ok (decide (x0 = y0 ∧ x1 = y1)) w := fun d w x0 x1 y0 y1 => by
  have h := tV (P := Tryz.prog) (T := 38) (dd := d + 1) (xs := [.int .i32 x0, .int .i32 x1]) (ys := [.int .i32 y0, .int .i32 y1]) (w := w) Tryz.underlying38 (by kernel_rfl) (gS rfl (jC aU rfl) (jC aU rfl) (oP (dd := d + 0) Tryz.underlying21) (gS rfl (jC aU rfl) (jC aU rfl) (oP (dd := d + 0) Tryz.underlying21) (aCs)))
  refine h.trans (congrArg (fun r => Result.ok r w) ?_)
  simp only [Bool.decide_and, Bool.and_true, Bool.and_assoc]
theorem bH : gR Tryz.prog 38 = some 2 := by kernel_rfl
theorem bEc : ∀ (d : Nat) (w : World) (x0 x1 x2 x3 x4 x5 x6 x7 x8 x9 y0 y1 y2 y3 y4 y5 y6 y7 y8 y9 : Int), (Op.equalIn (d + 3) 40 (.agg [.int .u32 x0, .int .i32 x1, .int .i32 x2, .int .i32 x3, .int .i32 x4, .int .i32 x5, .int .i32 x6, .int .i32 x7, .int .i32 x8, .int .i32 x9].toArray) (.agg [.int .u32 y0, .int .i32 y1, .int .i32 y2, .int .i32 y3, .int .i32 y4, .int .i32 y5, .int .i32 y6, .int .i32 y7, .int .i32 y8, .int .i32 y9].toArray)).run Tryz.prog w = .ok (decide (x0 = y0 ∧ x1 = y1 ∧ x2 = y2 ∧ x3 = y3 ∧ x4 = y4 ∧ x5 = y5 ∧ x6 = y6 ∧ x7 = y7 ∧ x8 = y8 ∧ x9 = y9)) w := fun d w x0 x1 x2 x3 x4 x5 x6 x7 x8 x9 y0 y1 y2 y3 y4 y5 y6 y7 y8 y9 => by
  have h := tV (P := Tryz.prog) (T := 40) (dd := d + 2) (xs := [.int .u32 x0, .int .i32 x1, .int .i32 x2, .int .i32 x3, .int .i32 x4, .int .i32 x5, .int .i32 x6, .int .i32 x7, .int .i32 x8, .int .i32 x9]) (ys := [.int .u32 y0, .int .i32 y1, .int .i32 y2, .int .i32 y3, .int .i32 y4, .int .i32 y5, .int .i32 y6, .int .i32 y7, .int .i32 y8, .int .i32 y9]) (w := w) Tryz.underlying40 (by kernel_rfl) (gS rfl (jC bZ rfl) (jC bZ rfl) (oP (dd := d + 1) Tryz.underlying36) (gS rfl (jC aU rfl) (jC aU rfl) (oP (dd := d + 1) Tryz.underlying21) (gS rfl (yY bH rfl) (yY bH rfl) (aLn (d + 0) w x2 x3 y2 y3) (gS rfl (jC aU rfl) (jC aU rfl) (oP (dd := d + 1) Tryz.underlying21) (gS rfl (jC aU rfl) (jC aU rfl) (oP (dd := d + 1) Tryz.underlying21) (gS rfl (yY bH rfl) (yY bH rfl) (aLn (d + 0) w x6 x7 y6 y7) (gS rfl (yY bH rfl) (yY bH rfl) (aLn (d + 0) w x8 x9 y8 y9) (aCs))))))))
  refine h.trans (congrArg (fun r => Result.ok r w) ?_)
  simp only [Bool.decide_and, Bool.and_true, Bool.and_assoc]
theorem bEs : ∀ (x0 x1 x2 x3 x4 x5 x6 x7 x8 x9 y0 y1 y2 y3 y4 y5 y6 y7 y8 y9 : Int), EqA Tryz.prog 40 [.int .u32 x0, .int .i32 x1, .int .i32 x2, .int .i32 x3, .int .i32 x4, .int .i32 x5, .int .i32 x6, .int .i32 x7, .int .i32 x8, .int .i32 x9] [.int .u32 y0, .int .i32 y1, .int .i32 y2, .int .i32 y3, .int .i32 y4, .int .i32 y5, .int .i32 y6, .int .i32 y7, .int .i32 y8, .int .i32 y9] (decide (x0 = y0 ∧ x1 = y1 ∧ x2 = y2 ∧ x3 = y3 ∧ x4 = y4 ∧ x5 = y5 ∧ x6 = y6 ∧ x7 = y7 ∧ x8 = y8 ∧ x9 = y9)) := fun x0 x1 x2 x3 x4 x5 x6 x7 x8 x9 y0 y1 y2 y3 y4 y5 y6 y7 y8 y9 => ⟨by kernel_rfl, fun w => bEc 9997 w x0 x1 x2 x3 x4 x5 x6 x7 x8 x9 y0 y1 y2 y3 y4 y5 y6 y7 y8 y9⟩
theorem bP : gR Tryz.prog 40 = some 10 := by kernel_rfl
theorem bEy : aP Tryz.prog 96 = true := by kernel_rfl
theorem bAy : ∀ (d : Nat) (w : World) (x0 x1 y0 y1 : Int), (Op.equalIn (d + 2) 119 (.agg [.int .u32 x0, .int .u32 x1].toArray) (.agg [.int .u32 y0, .int .u32 y1].toArray)).run Tryz.prog w = .ok (decide (x0 = y0 ∧ x1 = y1)) w := fun d w x0 x1 y0 y1 => by
  have h := tV (P := Tryz.prog) (T := 119) (dd := d + 1) (xs := [.int .u32 x0, .int .u32 x1]) (ys := [.int .u32 y0, .int .u32 y1]) (w := w) Tryz.underlying119 (by kernel_rfl) (gS rfl (jC bZ rfl) (jC bZ rfl) (oP (dd := d + 0) Tryz.underlying36) (gS rfl (jC bZ rfl) (jC bZ rfl) (oP (dd := d + 0) Tryz.underlying36) (aCs)))
  refine h.trans (congrArg (fun r => Result.ok r w) ?_)
  simp only [Bool.decide_and, Bool.and_true, Bool.and_assoc]
theorem bBr : ∀ (x0 x1 y0 y1 : Int), EqA Tryz.prog 119 [.int .u32 x0, .int .u32 x1] [.int .u32 y0, .int .u32 y1] (decide (x0 = y0 ∧ x1 = y1)) := fun x0 x1 y0 y1 => ⟨by kernel_rfl, fun w => bAy 9998 w x0 x1 y0 y1⟩
theorem fQ : gR Tryz.prog 119 = some 2 := by kernel_rfl
theorem bAd : aP Tryz.prog 170 = true := by kernel_rfl
theorem bEw : jI Tryz.prog 119 = some (.agg [.int .u32 0, .int .u32 0].toArray) := by kernel_rfl
theorem kG : gL Tryz.prog 3 = true := by kernel_rfl
theorem mL : gL Tryz.prog 4 = true := by kernel_rfl
theorem nN : eG Tryz.prog 40 1 1 = true := by kernel_rfl
theorem kW : eG Tryz.prog 40 2 2 = true := by kernel_rfl
theorem dU : eG Tryz.prog 38 0 0 = true := by kernel_rfl
theorem dN : eG Tryz.prog 38 1 1 = true := by kernel_rfl
theorem fF : eG Tryz.prog 40 3 4 = true := by kernel_rfl
theorem sK : eG Tryz.prog 40 4 5 = true := by kernel_rfl
theorem fX : eG Tryz.prog 40 5 6 = true := by kernel_rfl
theorem fG : eG Tryz.prog 40 6 8 = true := by kernel_rfl
theorem eP : eD Tryz.prog 22 40 10 40 = true := by kernel_rfl
theorem eZ : eG Tryz.prog 40 0 0 = true := by kernel_rfl
theorem mixed : Tryz.prog.follows .mixedOrders = true := by kernel_rfl
theorem aIx : aP Tryz.prog 124 = true := by kernel_rfl
theorem kZ : gD Tryz.prog 181 [.nilFunc, .int .i64 0] [(0, 1), (1, 1)] := eI Tryz.underlying181 (by kernel_rfl) (by kernel_rfl) (by kernel_rfl)
theorem rA : vN Tryz.prog 183 6 181 2 = true := by kernel_rfl
theorem aWs : fJ Tryz.prog 183 = some [.nilFunc, .int .i64 0, .nilFunc, .int .i64 0, .nilFunc, .int .i64 0, .nilFunc, .int .i64 0, .nilFunc, .int .i64 0, .nilFunc, .int .i64 0] := by kernel_rfl
theorem kO : gR Tryz.prog 181 = some 2 := by kernel_rfl
theorem pP : fJ Tryz.prog 181 = some [.nilFunc, .int .i64 0] := by kernel_rfl
theorem nB : eG Tryz.prog 181 0 0 = true := by kernel_rfl
theorem aCf : gL Tryz.prog 25 = true := by kernel_rfl
theorem bBp : aP Tryz.prog 122 = true := by kernel_rfl
theorem mU : eG Tryz.prog 181 1 1 = true := by kernel_rfl
theorem aBp : gL Tryz.prog 67 = true := by kernel_rfl
theorem bCt : aP Tryz.prog 123 = true := by kernel_rfl
theorem bDd : aP Tryz.prog 125 = true := by kernel_rfl
theorem bDe : aP Tryz.prog 126 = true := by kernel_rfl
theorem bDu : aP Tryz.prog 127 = true := by kernel_rfl
theorem bBw : aP Tryz.prog 128 = true := by kernel_rfl
theorem aTx : aP Tryz.prog 98 = true := by kernel_rfl
theorem jY : eG Tryz.prog 52 1 1 = true := by kernel_rfl
theorem qV : gL Tryz.prog 50 = true := by kernel_rfl
theorem uY : xK Tryz.prog 50 36 3 .u32 = true := by kernel_rfl
theorem zv3 : jI Tryz.prog 3 = some (.int .i64 0) := by kernel_rfl
theorem fP : eG Tryz.prog 52 0 0 = true := by kernel_rfl
theorem fB : gL Tryz.prog 22 = true := by kernel_rfl
theorem gI : fJ Tryz.prog 40 = some [.int .u32 0, .int .i32 0, .int .i32 0, .int .i32 0, .int .i32 0, .int .i32 0, .int .i32 0, .int .i32 0, .int .i32 0, .int .i32 0] := by kernel_rfl
theorem pC : gD Tryz.prog 40 [.int .u32 0, .int .i32 0, .int .i32 0, .int .i32 0, .int .i32 0, .int .i32 0, .int .i32 0, .int .i32 0, .int .i32 0, .int .i32 0] [(0, 1), (1, 1), (2, 2), (4, 1), (5, 1), (6, 2), (8, 2)] := eI Tryz.underlying40 (by kernel_rfl) (by kernel_rfl) (by kernel_rfl)
theorem aQe : aP Tryz.prog 121 = true := by kernel_rfl
theorem aLm : aP Tryz.prog 97 = true := by kernel_rfl
theorem bFu : aP Tryz.prog 49 = true := by kernel_rfl
theorem bFm : aP Tryz.prog 95 = true := by kernel_rfl
theorem bCn : aP Tryz.prog 129 = true := by kernel_rfl
theorem us3 : (Tryz.prog.underlying 3).isSome = true := by kernel_rfl
theorem bEj : (Tryz.prog.underlying 136).isSome = true := by kernel_rfl
theorem aTg : aP Tryz.prog 140 = true := by kernel_rfl
theorem bAs : aP Tryz.prog 139 = true := by kernel_rfl
theorem aTi : aP Tryz.prog 215 = true := by kernel_rfl
theorem aEm : fJ Tryz.prog 193 = some [.int .i32 0, .int .i32 0, .int .i32 0, .int .i32 0] := by kernel_rfl
theorem bDh : aP Tryz.prog 190 = true := by kernel_rfl
theorem aBl : gD Tryz.prog 193 [.int .i32 0, .int .i32 0, .int .i32 0, .int .i32 0] [(0, 1), (1, 1), (2, 1), (3, 1)] := eI Tryz.underlying193 (by kernel_rfl) (by kernel_rfl) (by kernel_rfl)
theorem iM : gR Tryz.prog 193 = some 4 := by kernel_rfl
theorem sR : eG Tryz.prog 193 0 0 = true := by kernel_rfl
theorem sP : eG Tryz.prog 193 2 2 = true := by kernel_rfl
theorem rX : eG Tryz.prog 193 1 1 = true := by kernel_rfl
theorem sN : eG Tryz.prog 193 3 3 = true := by kernel_rfl
theorem aIj : aP Tryz.prog 192 = true := by kernel_rfl
theorem bBz : aP Tryz.prog 193 = true := by kernel_rfl
theorem nV : fJ Tryz.prog 226 = some [.int .i32 0, .int .i32 0] := by kernel_rfl
theorem aCh : gD Tryz.prog 226 [.int .i32 0, .int .i32 0] [(0, 1), (1, 1)] := eI Tryz.underlying226 (by kernel_rfl) (by kernel_rfl) (by kernel_rfl)
theorem gK : gR Tryz.prog 226 = some 2 := by kernel_rfl
theorem eO : gD Tryz.prog 38 [.int .i32 0, .int .i32 0] [(0, 1), (1, 1)] := eI Tryz.underlying38 (by kernel_rfl) (by kernel_rfl) (by kernel_rfl)
theorem aUe : aP Tryz.prog 229 = true := by kernel_rfl
theorem bCf : aP Tryz.prog 216 = true := by kernel_rfl
theorem aLq : fJ Tryz.prog 4 = some [.bool false] := by kernel_rfl
theorem yI : eG Tryz.prog 226 1 1 = true := by kernel_rfl
theorem xE : eG Tryz.prog 226 0 0 = true := by kernel_rfl
theorem aVs : fJ Tryz.prog 224 = some [.slice none 0 0] := by kernel_rfl
theorem bDi : aP Tryz.prog 191 = true := by kernel_rfl
theorem bBg : aP Tryz.prog 217 = true := by kernel_rfl
theorem aJm : gL Tryz.prog 224 = true := by kernel_rfl
theorem aRj : eD Tryz.prog 224 226 2 8 = true := by kernel_rfl
theorem fL : (Tryz.prog.underlying 21).isSome = true := by kernel_rfl
theorem aSq : vN Tryz.prog 270 2 36 1 = true := by kernel_rfl
theorem qZ : (Tryz.prog.underlying 36).isSome = true := by kernel_rfl
theorem bCe : aP Tryz.prog 206 = true := by kernel_rfl
theorem us2 : (Tryz.prog.underlying 2).isSome = true := by kernel_rfl
theorem aCo : (Tryz.prog.underlying 170).isSome = true := by kernel_rfl
theorem pI : aP Tryz.prog 179 = true := by kernel_rfl
theorem aKb : aP Tryz.prog 178 = true := by kernel_rfl
theorem aUp : aP Tryz.prog 180 = true := by kernel_rfl
theorem aDt : aP Tryz.prog 181 = true := by kernel_rfl
theorem aDx : aP Tryz.prog 207 = true := by kernel_rfl
theorem aTk : aP Tryz.prog 201 = true := by kernel_rfl
theorem aIr : aP Tryz.prog 173 = true := by kernel_rfl
theorem bAz : aP Tryz.prog 203 = true := by kernel_rfl
theorem fZ : fJ Tryz.prog 38 = some [.int .i32 0, .int .i32 0] := by kernel_rfl
theorem aSk : aP Tryz.prog 175 = true := by kernel_rfl
theorem aUv : aP Tryz.prog 202 = true := by kernel_rfl
theorem zC : aP Tryz.prog 200 = true := by kernel_rfl
theorem lF : gL Tryz.prog 2 = true := by kernel_rfl
theorem aDy : aP Tryz.prog 141 = true := by kernel_rfl
theorem bDo : aP Tryz.prog 244 = true := by kernel_rfl
theorem zM : fJ Tryz.prog 2 = some [.int .i64 0] := by kernel_rfl
theorem aUf : aP Tryz.prog 245 = true := by kernel_rfl
theorem pG : gL Tryz.prog 170 = true := by kernel_rfl
theorem aWn : fJ Tryz.prog 170 = some [.int .u64 0] := by kernel_rfl
theorem tP : vN Tryz.prog 318 2 38 2 = true := by kernel_rfl
theorem aLr : fJ Tryz.prog 318 = some [.int .i32 0, .int .i32 0, .int .i32 0, .int .i32 0] := by kernel_rfl
theorem aCv : aP Tryz.prog 239 = true := by kernel_rfl
theorem aDf : aP Tryz.prog 238 = true := by kernel_rfl
theorem bDc : aP Tryz.prog 221 = true := by kernel_rfl
theorem rZ : fJ Tryz.prog 239 = some [.int .u32 0, .int .i32 0, .int .i32 0, .int .i32 0, .int .i32 0, .int .i32 0, .int .i32 0, .int .i32 0, .int .i32 0, .int .i32 0, .int .i32 0, .int .i32 0, .int .i32 0, .int .i32 0] := by kernel_rfl
theorem bAk : aP Tryz.prog 220 = true := by kernel_rfl
theorem aPa : gD Tryz.prog 239 [.int .u32 0, .int .i32 0, .int .i32 0, .int .i32 0, .int .i32 0, .int .i32 0, .int .i32 0, .int .i32 0, .int .i32 0, .int .i32 0, .int .i32 0, .int .i32 0, .int .i32 0, .int .i32 0] [(0, 10), (10, 2), (12, 2)] := eI Tryz.underlying239 (by kernel_rfl) (by kernel_rfl) (by kernel_rfl)
theorem kP : gR Tryz.prog 239 = some 14 := by kernel_rfl
theorem aEo : aP Tryz.prog 198 = true := by kernel_rfl
theorem aFy : eG Tryz.prog 239 1 10 = true := by kernel_rfl
theorem aHk : eG Tryz.prog 239 2 12 = true := by kernel_rfl
theorem bBa : aP Tryz.prog 199 = true := by kernel_rfl
theorem sD : eG Tryz.prog 239 0 0 = true := by kernel_rfl
theorem sJ : fJ Tryz.prog 121 = some [.int .u32 0, .int .u32 0, .int .i32 0, .int .i32 0, .int .i32 0] := by kernel_rfl
theorem bDf : aP Tryz.prog 171 = true := by kernel_rfl
theorem bAj : aP Tryz.prog 172 = true := by kernel_rfl
theorem aBx : gD Tryz.prog 121 [.int .u32 0, .int .u32 0, .int .i32 0, .int .i32 0, .int .i32 0] [(0, 2), (2, 2), (4, 1)] := eI Tryz.underlying121 (by kernel_rfl) (by kernel_rfl) (by kernel_rfl)
theorem gE : gR Tryz.prog 121 = some 5 := by kernel_rfl
theorem aBw : gD Tryz.prog 119 [.int .u32 0, .int .u32 0] [(0, 1), (1, 1)] := eI Tryz.underlying119 (by kernel_rfl) (by kernel_rfl) (by kernel_rfl)
theorem qD : fJ Tryz.prog 119 = some [.int .u32 0, .int .u32 0] := by kernel_rfl
theorem bAu : aP Tryz.prog 174 = true := by kernel_rfl
theorem aEw : eG Tryz.prog 191 1 1024 = true := by kernel_rfl
theorem bCl : aP Tryz.prog 161 = true := by kernel_rfl
theorem bCs : aP Tryz.prog 162 = true := by kernel_rfl
theorem aSh : xK Tryz.prog 223 3 4 .i64 = true := by kernel_rfl
theorem zv4 : jI Tryz.prog 4 = some (.bool false) := by kernel_rfl
theorem yO : eG Tryz.prog 191 0 0 = true := by kernel_rfl
theorem aJb : vN Tryz.prog 189 1024 188 1 = true := by kernel_rfl
theorem aEl : gL Tryz.prog 188 = true := by kernel_rfl
theorem aFc : eD Tryz.prog 188 36 1 4 = true := by kernel_rfl
theorem aTf : eD Tryz.prog 302 3 1 8 = true := by kernel_rfl
theorem nG : eG Tryz.prog 119 0 0 = true := by kernel_rfl
theorem nC : eG Tryz.prog 119 1 1 = true := by kernel_rfl
theorem bAt : aP Tryz.prog 197 = true := by kernel_rfl
theorem bAa : gL Tryz.prog 230 = true := by kernel_rfl
theorem bBf : aP Tryz.prog 196 = true := by kernel_rfl
theorem aJc : gL Tryz.prog 159 = true := by kernel_rfl
theorem tA : eD Tryz.prog 159 119 2 8 = true := by kernel_rfl
theorem bDr : aP Tryz.prog 218 = true := by kernel_rfl
theorem bBm : aP Tryz.prog 194 = true := by kernel_rfl
theorem bDa : aP Tryz.prog 195 = true := by kernel_rfl
theorem bCy : gR Tryz.prog 189 = some 1024 := by kernel_rfl
theorem bDt : aP Tryz.prog 167 = true := by kernel_rfl
theorem aOu : gD Tryz.prog 231 [] [] := eI Tryz.underlying231 (by kernel_rfl) (by kernel_rfl) (by kernel_rfl)
theorem bDs : aP Tryz.prog 169 = true := by kernel_rfl
theorem bCi : aP Tryz.prog 168 = true := by kernel_rfl
theorem bCx : aP Tryz.prog 160 = true := by kernel_rfl
theorem aDd : xK Tryz.prog 186 36 193 .u32 = true := by kernel_rfl
theorem bEn : fJ Tryz.prog 3 = some [.int .i64 0] := by kernel_rfl
theorem aTv : gL Tryz.prog 186 = true := by kernel_rfl
theorem aQp : jI Tryz.prog 193 = some (.agg [.int .i32 0, .int .i32 0, .int .i32 0, .int .i32 0].toArray) := by kernel_rfl
theorem bAv : aP Tryz.prog 164 = true := by kernel_rfl
theorem aTy : aP Tryz.prog 163 = true := by kernel_rfl
theorem bAo : aP Tryz.prog 166 = true := by kernel_rfl
theorem bCw : aP Tryz.prog 132 = true := by kernel_rfl
theorem bCd : aP Tryz.prog 133 = true := by kernel_rfl
theorem bBd : aP Tryz.prog 134 = true := by kernel_rfl
theorem bDp : aP Tryz.prog 136 = true := by kernel_rfl
theorem bCr : aP Tryz.prog 135 = true := by kernel_rfl
theorem bAe : aP Tryz.prog 165 = true := by kernel_rfl
theorem xU : eG Tryz.prog 158 0 0 = true := by kernel_rfl
theorem xO : gL Tryz.prog 156 = true := by kernel_rfl
theorem yR : xK Tryz.prog 156 36 40 .u32 = true := by kernel_rfl
theorem aVy : jI Tryz.prog 40 = some (.agg [.int .u32 0, .int .i32 0, .int .i32 0, .int .i32 0, .int .i32 0, .int .i32 0, .int .i32 0, .int .i32 0, .int .i32 0, .int .i32 0].toArray) := by kernel_rfl
theorem aTt : aP Tryz.prog 137 = true := by kernel_rfl
theorem oK : eG Tryz.prog 158 1 1 = true := by kernel_rfl
theorem pF : gL Tryz.prog 82 = true := by kernel_rfl
theorem aOd : eD Tryz.prog 82 121 5 20 = true := by kernel_rfl
theorem bAx : aP Tryz.prog 107 = true := by kernel_rfl
theorem aPb : gD Tryz.prog 158 [.map none, .slice none 0 0] [(0, 1), (1, 1)] := eI Tryz.underlying158 (by kernel_rfl) (by kernel_rfl) (by kernel_rfl)
theorem bDm : aP Tryz.prog 105 = true := by kernel_rfl
theorem bBb : aP Tryz.prog 106 = true := by kernel_rfl
theorem bBc : aP Tryz.prog 246 = true := by kernel_rfl
theorem bAi : aP Tryz.prog 240 = true := by kernel_rfl
theorem mX : eG Tryz.prog 121 1 2 = true := by kernel_rfl
theorem bBk : aP Tryz.prog 222 = true := by kernel_rfl
theorem bDn : aP Tryz.prog 223 = true := by kernel_rfl
theorem aSp : aP Tryz.prog 224 = true := by kernel_rfl
theorem aQh : aP Tryz.prog 225 = true := by kernel_rfl
theorem nH : eG Tryz.prog 246 0 0 = true := by kernel_rfl
theorem sV : eG Tryz.prog 121 0 0 = true := by kernel_rfl
theorem aDn : aP Tryz.prog 109 = true := by kernel_rfl
theorem bCk : aP Tryz.prog 204 = true := by kernel_rfl
theorem aUw : aP Tryz.prog 205 = true := by kernel_rfl
theorem mW : eG Tryz.prog 246 1 1 = true := by kernel_rfl
theorem kL : gL Tryz.prog 200 = true := by kernel_rfl
theorem mZ : eG Tryz.prog 246 2 2 = true := by kernel_rfl
theorem lZ : eD Tryz.prog 200 2 1 8 = true := by kernel_rfl
theorem bCq : aP Tryz.prog 177 = true := by kernel_rfl
theorem aCm : gD Tryz.prog 246 [.slice none 0 0, .slice none 0 0, .slice none 0 0] [(0, 1), (1, 1), (2, 1)] := eI Tryz.underlying246 (by kernel_rfl) (by kernel_rfl) (by kernel_rfl)
theorem aTc : aP Tryz.prog 176 = true := by kernel_rfl
theorem bBu : aP Tryz.prog 138 = true := by kernel_rfl
theorem aJp : aP Tryz.prog 118 = true := by kernel_rfl
theorem bAc : aP Tryz.prog 108 = true := by kernel_rfl
theorem aTs : eG Tryz.prog 121 2 4 = true := by kernel_rfl
theorem aTa : aP Tryz.prog 142 = true := by kernel_rfl
theorem aCn : gL Tryz.prog 97 = true := by kernel_rfl
theorem aJr : eD Tryz.prog 97 135 2 16 = true := by kernel_rfl
theorem wX : eG Tryz.prog 135 0 0 = true := by kernel_rfl
theorem xN : eG Tryz.prog 135 1 1 = true := by kernel_rfl
theorem aVz : fJ Tryz.prog 135 = some [.int .i64 0, .int .i64 0] := by kernel_rfl
theorem bAm : fJ Tryz.prog 97 = some [.slice none 0 0] := by kernel_rfl
theorem aRo : aP Tryz.prog 111 = true := by kernel_rfl
theorem aRt : aP Tryz.prog 110 = true := by kernel_rfl
theorem aAu : eD Tryz.prog 175 133 1 8 = true := by kernel_rfl
theorem bAq : gL Tryz.prog 133 = true := by kernel_rfl
theorem bFe : aP Tryz.prog 84 = true := by kernel_rfl
theorem aHg : aP Tryz.prog 85 = true := by kernel_rfl
theorem bFa : aP Tryz.prog 83 = true := by kernel_rfl
theorem aZf : aP Tryz.prog 82 = true := by kernel_rfl
theorem bFd : aP Tryz.prog 86 = true := by kernel_rfl
theorem bFo : aP Tryz.prog 53 = true := by kernel_rfl
theorem bFi : aP Tryz.prog 54 = true := by kernel_rfl
theorem wF : eG Tryz.prog 84 1 1 = true := by kernel_rfl
theorem pO : eG Tryz.prog 84 3 3 = true := by kernel_rfl
theorem sC : eG Tryz.prog 27 2 2 = true := by kernel_rfl
theorem aCq : eG Tryz.prog 84 0 0 = true := by kernel_rfl
theorem bEb : aP Tryz.prog 71 = true := by kernel_rfl
theorem wI : eG Tryz.prog 84 2 2 = true := by kernel_rfl
theorem aVw : eG Tryz.prog 27 0 0 = true := by kernel_rfl
theorem aEf : eG Tryz.prog 27 1 1 = true := by kernel_rfl
theorem aQt : aP Tryz.prog 72 = true := by kernel_rfl
theorem bEh : aP Tryz.prog 73 = true := by kernel_rfl
theorem bFb : aP Tryz.prog 74 = true := by kernel_rfl
theorem yB : fJ Tryz.prog 27 = some [.int .i64 0, .int .i64 0, .bool false] := by kernel_rfl
theorem aSo : gD Tryz.prog 84 [.slice none 0 0, .slice none 0 0, .slice none 0 0, .int .i64 0, .int .i64 0, .bool false] [(0, 1), (1, 1), (2, 1), (3, 3)] := eI Tryz.underlying84 (by kernel_rfl) (by kernel_rfl) (by kernel_rfl)
theorem aFx : vN Tryz.prog 86 4 85 1 = true := by kernel_rfl
theorem bBx : fJ Tryz.prog 86 = some [.nilFunc, .nilFunc, .nilFunc, .nilFunc] := by kernel_rfl
theorem aMc : gL Tryz.prog 85 = true := by kernel_rfl
theorem bEi : aP Tryz.prog 40 = true := by kernel_rfl
theorem bFq : aP Tryz.prog 41 = true := by kernel_rfl
theorem bEq : aP Tryz.prog 42 = true := by kernel_rfl
theorem bFn : aP Tryz.prog 43 = true := by kernel_rfl
theorem sI : gR Tryz.prog 27 = some 3 := by kernel_rfl
theorem bEp : aP Tryz.prog 16 = true := by kernel_rfl
theorem aYz : ∀ (x0 x1 y0 y1 : Int), EqA Tryz.prog 38 [.int .i32 x0, .int .i32 x1] [.int .i32 y0, .int .i32 y1] (decide (x0 = y0 ∧ x1 = y1)) := fun x0 x1 y0 y1 => ⟨by kernel_rfl, fun w => aLn 9998 w x0 x1 y0 y1⟩
theorem aZq : aP Tryz.prog 18 = true := by kernel_rfl
theorem aFt : jG Tryz.prog 4 40 = some [.u32, .i32, .i32, .i32, .i32, .i32, .i32, .i32, .i32, .i32] := by kernel_rfl
theorem us5 : (Tryz.prog.underlying 5).isSome = true := by kernel_rfl
theorem kI : eD Tryz.prog 57 5 1 1 = true := by kernel_rfl
theorem aDu : fJ Tryz.prog 150 = some [.int .u32 0, .int .u32 0, .int .u32 0, .int .u32 0, .int .u32 0, .int .u32 0, .int .u32 0, .int .u32 0, .int .u32 0, .int .u32 0] := by kernel_rfl
theorem fH : vN Tryz.prog 150 10 36 1 = true := by kernel_rfl
theorem nS : aP Tryz.prog 130 = true := by kernel_rfl
theorem aJk : gR Tryz.prog 150 = some 10 := by kernel_rfl
theorem aNa : gL Tryz.prog 5 = true := by kernel_rfl
theorem aKu : aP Tryz.prog 131 = true := by kernel_rfl
theorem aZe : aP Tryz.prog 99 = true := by kernel_rfl
theorem aUr : aP Tryz.prog 100 = true := by kernel_rfl
theorem bCj : aP Tryz.prog 101 = true := by kernel_rfl
theorem lI : aP Tryz.prog 102 = true := by kernel_rfl
theorem lB : aP Tryz.prog 103 = true := by kernel_rfl
theorem bDk : aP Tryz.prog 104 = true := by kernel_rfl
theorem sG : eG Tryz.prog 56 0 0 = true := by kernel_rfl
theorem aMb : aP Tryz.prog 65 = true := by kernel_rfl
theorem pZ : eG Tryz.prog 54 0 0 = true := by kernel_rfl
theorem aZa : aP Tryz.prog 66 = true := by kernel_rfl
theorem bFc : aP Tryz.prog 89 = true := by kernel_rfl
theorem bEz : aP Tryz.prog 70 = true := by kernel_rfl
theorem bEm : aP Tryz.prog 64 = true := by kernel_rfl
theorem qS : aP Tryz.prog 31 = true := by kernel_rfl
theorem bEo : aP Tryz.prog 67 = true := by kernel_rfl
theorem aVg : aP Tryz.prog 37 = true := by kernel_rfl
theorem bEt : aP Tryz.prog 87 = true := by kernel_rfl
theorem bFt : aP Tryz.prog 88 = true := by kernel_rfl
theorem aRa : gD Tryz.prog 54 [.slice none 0 0, .map none] [(0, 2)] := eI Tryz.underlying54 (by kernel_rfl) (by kernel_rfl) (by kernel_rfl)
theorem bFh : gR Tryz.prog 54 = some 2 := by kernel_rfl
theorem aZd : aP Tryz.prog 69 = true := by kernel_rfl
theorem bFp : aP Tryz.prog 68 = true := by kernel_rfl
theorem aSz : fJ Tryz.prog 61 = some [.slice none 0 0, .int .i64 0, .int .u32 0, .int .i32 0, .int .i32 0, .int .i32 0, .int .i32 0, .int .i32 0, .int .i32 0, .int .i32 0, .int .i32 0, .int .i32 0, .slice none 0 0, .int .i64 0, .bool false] := by kernel_rfl
theorem gP : gR Tryz.prog 61 = some 15 := by kernel_rfl
theorem wA : eG Tryz.prog 59 0 0 = true := by kernel_rfl
theorem aYl : eG Tryz.prog 59 1 1 = true := by kernel_rfl
theorem nU : eG Tryz.prog 61 1 1 = true := by kernel_rfl
theorem aEk : eG Tryz.prog 59 2 11 = true := by kernel_rfl
theorem aVq : eG Tryz.prog 59 3 12 = true := by kernel_rfl
theorem aDm : eG Tryz.prog 61 4 13 = true := by kernel_rfl
theorem aEc : eG Tryz.prog 61 5 14 = true := by kernel_rfl
theorem aDp : eG Tryz.prog 61 3 12 = true := by kernel_rfl
theorem aFr : gL Tryz.prog 57 = true := by kernel_rfl
theorem aLd : eG Tryz.prog 59 4 14 = true := by kernel_rfl
theorem aEj : eG Tryz.prog 61 2 2 = true := by kernel_rfl
theorem aBi : aP Tryz.prog 32 = true := by kernel_rfl
theorem aZc : aP Tryz.prog 58 = true := by kernel_rfl
theorem aZp : aP Tryz.prog 56 = true := by kernel_rfl
theorem aZt : aP Tryz.prog 57 = true := by kernel_rfl
theorem zI : aP Tryz.prog 34 = true := by kernel_rfl
theorem aFq : aP Tryz.prog 35 = true := by kernel_rfl
theorem aRy : aP Tryz.prog 33 = true := by kernel_rfl
theorem pB : eD Tryz.prog 48 59 15 88 = true := by kernel_rfl
theorem aKj : fJ Tryz.prog 56 = some [.slice none 0 0, .map none] := by kernel_rfl
theorem aHb : aP Tryz.prog 25 = true := by kernel_rfl
theorem bEl : aP Tryz.prog 26 = true := by kernel_rfl
theorem aZj : aP Tryz.prog 27 = true := by kernel_rfl
theorem oB : gR Tryz.prog 59 = some 15 := by kernel_rfl
theorem uX : aP Tryz.prog 28 = true := by kernel_rfl
theorem aMk : aP Tryz.prog 30 = true := by kernel_rfl
theorem aYu : jG Tryz.prog 2 5 = some [.u8] := by kernel_rfl
end Go.Proofs.YtlmcphcgiclanaaGreatDoor

namespace Go.Proofs.YtlmcphcgiclanaaGreatDoor
open Go.Bil
open Go.RowKit (Below)
open Go.Proofs
theorem aUa (a b : Body) : EqA Tryz.prog 40 (aF a) (aF b) (decide (a = b)) := by
 have h := bEs a.key a.radius a.ax a.ay a.mass a.bounce a.px a.py a.vx a.vy b.key b.radius b.ax b.ay b.mass b.bounce b.px b.py b.vx b.vy
 rw [decide_eq_decide.2 (aTd (a := a) (b := b))]
 exact h
set_option maxHeartbeats 4000000 in
theorem yN (w : World) (A : Option Addr) (n c : Nat) (xs : List Body) (R : Rd w 10 A n (xs.map aF)) (B : Option Addr) (m c' : Nat) (ys : List Body) (R' : Rd w 10 B m (ys.map aF)) :
  Calls Tryz.prog 18 #[.slice A n c, .slice B m c'] w (fun ex w' => ∃ v, ex = .returned v ∧ (fun v w' => v = .bool (decide (xs = ys)) ∧ Below w.heap.size w w') v w') := by
 have hlen : xs.length = n := by simpa using R.len
 have hbd := R.bound
 have hlen' : ys.length = m := by simpa using R'.len
 have hbd' := R'.bound
 refine aH #[.tmp 4] 26 Tryz.func18 rfl Tryz.results18 Tryz.ntmps18 rfl ?_
 have M0 := Mem.refl w
 refine aD (aA (wq (aI (.bool false) rfl) rfl (aB (aC (aD (aD (aA (eF rfl rfl (wq (cM Tryz.underlying22 rfl) rfl (eF rfl rfl ?_))))))))))
 refine wq (cM Tryz.underlying22 rfl) rfl (cT rfl rfl rfl rfl (aB (aC ?_)))
 refine aW rfl (fun h10 => ?_) (fun h10 => ?_)
 ·refine aD (aA (wq (aI (.bool false) rfl) rfl (aB (aC (aN (cE (cC (.bool false) rfl ?_)))))))
  exact ⟨bF (fun e => h10 (by rw [← hlen, ← hlen', e])), M0.below⟩
 ·have hnm : n = m := by omega
  refine aK (aC (aD (aD (aA (bJ rfl rfl (aB (aC (aS (dM (σ := Nat) [0, 1] (fun k => [(5, .int .i64 (k : Int))]) (fun k w' => (k ≤ n ∧ ∀ (j : Nat) (x : Body), j < k → xs[j]? = some x → ys[j]? = some x) ∧ Mem w [] [] w') (fun k => n - k) 0 (bL rfl eV) (⟨⟨by omega, fun j c hj => by omega⟩, M0⟩) ?_)))))))))
  rintro k ρ1 w1 ⟨⟨hk, hne⟩, hM1⟩
  refine aD (aD (aA (aV rfl rfl (eF rfl rfl (wq (cM Tryz.underlying22 rfl) rfl (cT rfl rfl rfl rfl (aB (aC ?_))))))))
  refine aW rfl (fun h14 => ?_) (fun h14 => ?_)
  ·obtain ⟨xb, hxb⟩ := cI (k := k) hlen (by omega)
   obtain ⟨yb, hyb⟩ := cI (k := k) hlen' (by omega)
   refine aK (aC (aD (aS (aD (bQ [(0, 0), (1, 0), (2, 1), (3, 1), (4, 0), (5, 0), (6, 1), (7, 1), (8, 0)] mixed rfl (by kernel_rfl) (fun w2 hb2 hh2 => ?_))))))
   have M2 := hM1.drew hb2 hh2
   refine vB rfl rfl rfl (gG rfl rfl rfl (cD rfl rfl rfl (bO (k) eP rfl rfl rfl ((R.mem M2).below_len (aJ aF hxb)) ((R.mem M2).someK (aJ aF hxb))) (cD rfl rfl rfl (cZ _ bP (R.mem M2) (aJ aF hxb) rfl) (vB rfl rfl rfl (gG rfl rfl rfl ?_)))))
   refine cD rfl rfl rfl (bO (k) eP rfl rfl rfl ((R'.mem M2).below_len (aJ aF hyb)) ((R'.mem M2).someK (aJ aF hyb))) (cD rfl rfl rfl (cZ _ bP (R'.mem M2) (aJ aF hyb) rfl) (aY rfl rfl rfl (fun _ => bEu (aUa xb yb) rfl rfl) (cF (aC ?_))))
   refine aW rfl (fun h25 => ?_) (fun h25 => ?_)
   ·refine aD (aA (wq (aI (.bool false) rfl) rfl (aB (aC (aN (iQ (cE (oT ?_))))))))
    refine iQ (cE (cC (.bool false) rfl ?_))
    exact ⟨bF (fun e => h25 (by rw [e] at hxb; rw [hxb] at hyb; injection hyb)), M2.below⟩
   ·refine aK (cX (aC (aA (aV rfl rfl (wq (bM rfl rfl (by omega) (by omega)) rfl (bJ rfl rfl ?_))))))
    refine aB ?_
    refine cQ (k + 1) (bL rfl eV) (cU rfl (cU rfl jS)) ?_ ?_
    ·exact ⟨⟨by omega, pW (p := fun j x => ys[j]? = some x) hne hxb (by rw [hyb, Decidable.not_not.1 h25])⟩, M2⟩
    ·omega
  ·refine cP (dA (cY (eT (aC (aD (aA (wq (aI (.bool true) rfl) rfl ?_)))))))
   refine aB (aC (aN (cC (.bool true) rfl ?_)))
   exact ⟨bT (List.ext_getElem? fun j => by
   by_cases hj : j < xs.length
   ·obtain ⟨x, hx⟩ := cI (k := j) rfl hj
    rw [hx, hne j x (by omega) hx]
   ·rw [List.getElem?_eq_none (by omega), List.getElem?_eq_none (by omega)]), hM1.below⟩
set_option maxHeartbeats 4000000 in
theorem pH (w : World) (x y l : Int) (h0 : 0 ≤ l) (h1 : l ≤ 2147483647) :
  Calls Tryz.prog 124 #[.agg [.int .i32 x, .int .i32 y].toArray, .int .i32 l] w (fun ex w' => ∃ v, ex = .returned v ∧ (fun v w' => v = .bool (decide (-l ≤ x ∧ x ≤ l ∧ -l ≤ y ∧ y ≤ l)) ∧ Below w.heap.size w w') v w') := by
 have hneg : IntKind.i32.wrap (-l) = -l := lU _ (by omega) (by omega)
 refine aH #[.tmp 4] 29 Tryz.func124 rfl Tryz.results124 Tryz.ntmps124 rfl ?_
 have M0 := Mem.refl w
 refine aD (aA (bK (.agg (List.toArray _)) M0 rfl rfl rfl (fun b1 w1 M1 => (wq (aI (.bool false) rfl) rfl (aB (aC (aD (aA (aV rfl rfl (wq (aBs rfl) rfl ?_))))))))))
 refine aT 6 (.int .i32 (-l)) (iE hneg) (wq (aE 0 dU rfl) rfl (wq (aM 0 (.int _ _) aU M1 rfl rfl rfl) rfl (cT rfl rfl rfl rfl (wq (aG (.bool (decide _)) rfl) rfl ?_))))
 refine cW 10 rfl (fun g10 => ?_) (fun g10 => ?_)
 ·refine wq (aE 0 dU rfl) rfl (wq (aM 0 (.int _ _) aU M1 rfl rfl rfl) rfl (aV rfl rfl (cT rfl rfl rfl rfl (wq (bI true (.bool (decide _)) rfl rfl) rfl (wq (aG (.bool (decide _)) rfl) rfl ?_)))))
  refine cW 16 rfl (fun g16 => ?_) (fun g16 => ?_)
  ·refine aV rfl rfl (wq (aBs rfl) rfl (aT 18 (.int .i32 (-l)) (iE hneg) (wq (aE 1 dN rfl) rfl (wq (aM 0 (.int _ _) aU M1 rfl rfl rfl) rfl (cT rfl rfl rfl rfl ?_)))))
   refine wq (bI true (.bool (decide _)) rfl rfl) rfl (wq (aG (.bool (decide _)) rfl) rfl ?_)
   refine cW 23 rfl (fun g23 => ?_) (fun g23 => ?_)
   ·refine wq (aE 1 dN rfl) rfl (wq (aM 0 (.int _ _) aU M1 rfl rfl rfl) rfl (aV rfl rfl (cT rfl rfl rfl rfl (wq (bI true (.bool (decide _)) rfl rfl) rfl (wq (aI (.bool (decide _)) rfl) rfl ?_)))))
    refine aB (aC (aN (cC (.bool (decide _)) rfl ?_)))
    exact ⟨by first | exact bF (by omega) | exact bT (by omega) | exact bD (by omega), M1.below⟩
   ·refine aO rfl rfl (aO rfl rfl (aO rfl rfl (aO rfl rfl (wq (bI false (.bool false) rfl rfl) rfl (wq (aI (.bool false) rfl) rfl ?_)))))
    refine aB (aC (aN (cC (.bool false) rfl ?_)))
    exact ⟨by first | exact bF (by omega) | exact bT (by omega) | exact bD (by omega), M1.below⟩
  ·refine aO rfl rfl (aO rfl rfl (aO rfl rfl (aO rfl rfl (aO rfl rfl (wq (bI false (.bool false) rfl rfl) rfl ?_)))))
   refine wq (aG (.bool false) rfl) rfl (aO rfl rfl (aO rfl rfl (aO rfl rfl (aO rfl rfl (wq (bI false (.bool false) rfl rfl) rfl ?_)))))
   refine wq (aI (.bool false) rfl) rfl (aB (aC (aN (cC (.bool false) rfl ?_))))
   exact ⟨by first | exact bF (by omega) | exact bT (by omega) | exact bD (by omega), M1.below⟩
 ·refine aO rfl rfl (aO rfl rfl (aO rfl rfl (aO rfl rfl (wq (bI false (.bool false) rfl rfl) rfl (wq (aG (.bool false) rfl) rfl ?_)))))
  refine aO rfl rfl (aO rfl rfl (aO rfl rfl (aO rfl rfl (aO rfl rfl (wq (bI false (.bool false) rfl rfl) rfl ?_)))))
  refine wq (aG (.bool false) rfl) rfl (aO rfl rfl (aO rfl rfl (aO rfl rfl (aO rfl rfl (wq (bI false (.bool false) rfl rfl) rfl ?_)))))
  refine wq (aI (.bool false) rfl) rfl (aB (aC (aN (cC (.bool false) rfl ?_))))
  exact ⟨by first | exact bF (by omega) | exact bT (by omega) | exact bD (by omega), M1.below⟩
set_option maxHeartbeats 4000000 in
theorem aHn (w : World) (b : Body) (p : Nat) (R : Rd w 10 (some ⟨p, 0, none⟩) 1 [aF b]) :
  Calls Tryz.prog 122 #[.pointer (some ⟨p, 0, none⟩)] w (fun ex w' => ∃ v, ex = .returned v ∧ (fun v w' => v = .bool (decide (4096 ≤ b.radius ∧ b.radius ≤ 4194304)) ∧ Below w.heap.size w w') v w') := by
 rw [← eN p]
 refine aH #[.tmp 1] 10 Tryz.func122 rfl Tryz.results122 Tryz.ntmps122 rfl ?_
 have M0 := Mem.refl w
 refine aD (aA (wq (aI (.bool false) rfl) rfl (aB (aC (aD (aA (wq (bR 1 nN R (Nat.lt_of_le_of_lt (Nat.zero_le _) (R.below_len (show [aF b][0]? = some (aF b) from rfl))) rfl) rfl (wq (eQ (o := 1) (.int _ _) aU R (show [aF b][0]? = some (aF b) from rfl) rfl rfl) rfl ?_))))))))
 refine cT rfl rfl rfl rfl (wq (aG (.bool (decide _)) rfl) rfl ?_)
 refine cW 5 rfl (fun g5 => ?_) (fun g5 => ?_)
 ·refine wq (bR 1 nN R (Nat.lt_of_le_of_lt (Nat.zero_le _) (R.below_len (show [aF b][0]? = some (aF b) from rfl))) rfl) rfl (wq (eQ (o := 1) (.int _ _) aU R (show [aF b][0]? = some (aF b) from rfl) rfl rfl) rfl (cT rfl rfl rfl rfl (wq (bI true (.bool (decide _)) rfl rfl) rfl ?_)))
  refine wq (aI (.bool (decide _)) rfl) rfl (aB (aC (aN (cC (.bool (decide _)) rfl ?_))))
  exact ⟨by first | exact bF (by omega) | exact bT (by omega) | exact bD (by omega), M0.below⟩
 ·refine aO rfl rfl (aO rfl rfl (aO rfl rfl (wq (bI false (.bool false) rfl rfl) rfl (wq (aI (.bool false) rfl) rfl (aB (aC (aN ?_)))))))
  refine cC (.bool false) rfl ?_
  exact ⟨by first | exact bF (by omega) | exact bT (by omega) | exact bD (by omega), M0.below⟩
set_option maxHeartbeats 4000000 in
theorem aFo (w : World) (b : Body) (p : Nat) (R : Rd w 10 (some ⟨p, 0, none⟩) 1 [aF b]) :
  Calls Tryz.prog 123 #[.pointer (some ⟨p, 0, none⟩)] w (fun ex w' => ∃ v, ex = .returned v ∧ (fun v w' => v = .bool (decide (-4194304 ≤ b.ax ∧ b.ax ≤ 4194304 ∧ -4194304 ≤ b.ay ∧ b.ay ≤ 4194304)) ∧ Below w.heap.size w w') v w') := by
 rw [← eN p]
 refine aH #[.tmp 1] 5 Tryz.func123 rfl Tryz.results123 Tryz.ntmps123 rfl ?_
 have M0 := Mem.refl w
 refine aD (aA (wq (aI (.bool false) rfl) rfl (aB (aC (aD (aA (wq (bR 2 kW R (Nat.lt_of_le_of_lt (Nat.zero_le _) (R.below_len (show [aF b][0]? = some (aF b) from rfl))) rfl) rfl (wq (wR (o := 2) _ bH R (show [aF b][0]? = some (aF b) from rfl) rfl rfl rfl) rfl ?_))))))))
 refine bV aIx rfl rfl (pH _ _ _ _ (by omega) (by omega)) ?_
 rintro v1 w1 ⟨rfl, hb1⟩
 have M1 := M0.callB hb1
 refine wq (aI (.bool (decide _)) rfl) rfl (aB (aC (aN (cC (.bool (decide _)) rfl ?_))))
 exact ⟨by first | exact bF (by omega) | exact bT (by omega) | exact bD (by omega), M1.below⟩
set_option maxHeartbeats 4000000 in
theorem aFe (w : World) (b : Body) (p : Nat) (R : Rd w 10 (some ⟨p, 0, none⟩) 1 [aF b]) :
  Calls Tryz.prog 125 #[.pointer (some ⟨p, 0, none⟩)] w (fun ex w' => ∃ v, ex = .returned v ∧ (fun v w' => v = .bool (decide (0 ≤ b.mass ∧ b.mass ≤ 1048576)) ∧ Below w.heap.size w w') v w') := by
 rw [← eN p]
 refine aH #[.tmp 1] 10 Tryz.func125 rfl Tryz.results125 Tryz.ntmps125 rfl ?_
 have M0 := Mem.refl w
 refine aD (aA (wq (aI (.bool false) rfl) rfl (aB (aC (aD (aA (wq (bR 4 fF R (Nat.lt_of_le_of_lt (Nat.zero_le _) (R.below_len (show [aF b][0]? = some (aF b) from rfl))) rfl) rfl (wq (eQ (o := 4) (.int _ _) aU R (show [aF b][0]? = some (aF b) from rfl) rfl rfl) rfl ?_))))))))
 refine cT rfl rfl rfl rfl (wq (aG (.bool (decide _)) rfl) rfl ?_)
 refine cW 5 rfl (fun g5 => ?_) (fun g5 => ?_)
 ·refine wq (bR 4 fF R (Nat.lt_of_le_of_lt (Nat.zero_le _) (R.below_len (show [aF b][0]? = some (aF b) from rfl))) rfl) rfl (wq (eQ (o := 4) (.int _ _) aU R (show [aF b][0]? = some (aF b) from rfl) rfl rfl) rfl (cT rfl rfl rfl rfl (wq (bI true (.bool (decide _)) rfl rfl) rfl ?_)))
  refine wq (aI (.bool (decide _)) rfl) rfl (aB (aC (aN (cC (.bool (decide _)) rfl ?_))))
  exact ⟨by first | exact bF (by omega) | exact bT (by omega) | exact bD (by omega), M0.below⟩
 ·refine aO rfl rfl (aO rfl rfl (aO rfl rfl (wq (bI false (.bool false) rfl rfl) rfl (wq (aI (.bool false) rfl) rfl (aB (aC (aN ?_)))))))
  refine cC (.bool false) rfl ?_
  exact ⟨by first | exact bF (by omega) | exact bT (by omega) | exact bD (by omega), M0.below⟩
set_option maxHeartbeats 4000000 in
theorem aIa (w : World) (b : Body) (p : Nat) (R : Rd w 10 (some ⟨p, 0, none⟩) 1 [aF b]) :
  Calls Tryz.prog 126 #[.pointer (some ⟨p, 0, none⟩)] w (fun ex w' => ∃ v, ex = .returned v ∧ (fun v w' => v = .bool (decide (0 ≤ b.bounce ∧ b.bounce ≤ 65536)) ∧ Below w.heap.size w w') v w') := by
 rw [← eN p]
 refine aH #[.tmp 1] 10 Tryz.func126 rfl Tryz.results126 Tryz.ntmps126 rfl ?_
 have M0 := Mem.refl w
 refine aD (aA (wq (aI (.bool false) rfl) rfl (aB (aC (aD (aA (wq (bR 5 sK R (Nat.lt_of_le_of_lt (Nat.zero_le _) (R.below_len (show [aF b][0]? = some (aF b) from rfl))) rfl) rfl (wq (eQ (o := 5) (.int _ _) aU R (show [aF b][0]? = some (aF b) from rfl) rfl rfl) rfl ?_))))))))
 refine cT rfl rfl rfl rfl (wq (aG (.bool (decide _)) rfl) rfl ?_)
 refine cW 5 rfl (fun g5 => ?_) (fun g5 => ?_)
 ·refine wq (bR 5 sK R (Nat.lt_of_le_of_lt (Nat.zero_le _) (R.below_len (show [aF b][0]? = some (aF b) from rfl))) rfl) rfl (wq (eQ (o := 5) (.int _ _) aU R (show [aF b][0]? = some (aF b) from rfl) rfl rfl) rfl (cT rfl rfl rfl rfl (wq (bI true (.bool (decide _)) rfl rfl) rfl ?_)))
  refine wq (aI (.bool (decide _)) rfl) rfl (aB (aC (aN (cC (.bool (decide _)) rfl ?_))))
  exact ⟨by first | exact bF (by omega) | exact bT (by omega) | exact bD (by omega), M0.below⟩
 ·refine aO rfl rfl (aO rfl rfl (aO rfl rfl (wq (bI false (.bool false) rfl rfl) rfl (wq (aI (.bool false) rfl) rfl (aB (aC (aN ?_)))))))
  refine cC (.bool false) rfl ?_
  exact ⟨by first | exact bF (by omega) | exact bT (by omega) | exact bD (by omega), M0.below⟩
set_option maxHeartbeats 4000000 in
theorem aFm (w : World) (b : Body) (p : Nat) (R : Rd w 10 (some ⟨p, 0, none⟩) 1 [aF b]) :
  Calls Tryz.prog 127 #[.pointer (some ⟨p, 0, none⟩)] w (fun ex w' => ∃ v, ex = .returned v ∧ (fun v w' => v = .bool (decide (-1073741824 ≤ b.px ∧ b.px ≤ 1073741824 ∧ -1073741824 ≤ b.py ∧ b.py ≤ 1073741824)) ∧ Below w.heap.size w w') v w') := by
 rw [← eN p]
 refine aH #[.tmp 1] 5 Tryz.func127 rfl Tryz.results127 Tryz.ntmps127 rfl ?_
 have M0 := Mem.refl w
 refine aD (aA (wq (aI (.bool false) rfl) rfl (aB (aC (aD (aA (wq (bR 6 fX R (Nat.lt_of_le_of_lt (Nat.zero_le _) (R.below_len (show [aF b][0]? = some (aF b) from rfl))) rfl) rfl (wq (wR (o := 6) _ bH R (show [aF b][0]? = some (aF b) from rfl) rfl rfl rfl) rfl ?_))))))))
 refine bV aIx rfl rfl (pH _ _ _ _ (by omega) (by omega)) ?_
 rintro v1 w1 ⟨rfl, hb1⟩
 have M1 := M0.callB hb1
 refine wq (aI (.bool (decide _)) rfl) rfl (aB (aC (aN (cC (.bool (decide _)) rfl ?_))))
 exact ⟨by first | exact bF (by omega) | exact bT (by omega) | exact bD (by omega), M1.below⟩
set_option maxHeartbeats 4000000 in
theorem aFn (w : World) (b : Body) (p : Nat) (R : Rd w 10 (some ⟨p, 0, none⟩) 1 [aF b]) :
  Calls Tryz.prog 128 #[.pointer (some ⟨p, 0, none⟩)] w (fun ex w' => ∃ v, ex = .returned v ∧ (fun v w' => v = .bool (decide (-16777216 ≤ b.vx ∧ b.vx ≤ 16777216 ∧ -16777216 ≤ b.vy ∧ b.vy ≤ 16777216)) ∧ Below w.heap.size w w') v w') := by
 rw [← eN p]
 refine aH #[.tmp 1] 5 Tryz.func128 rfl Tryz.results128 Tryz.ntmps128 rfl ?_
 have M0 := Mem.refl w
 refine aD (aA (wq (aI (.bool false) rfl) rfl (aB (aC (aD (aA (wq (bR 8 fG R (Nat.lt_of_le_of_lt (Nat.zero_le _) (R.below_len (show [aF b][0]? = some (aF b) from rfl))) rfl) rfl (wq (wR (o := 8) _ bH R (show [aF b][0]? = some (aF b) from rfl) rfl rfl rfl) rfl ?_))))))))
 refine bV aIx rfl rfl (pH _ _ _ _ (by omega) (by omega)) ?_
 rintro v1 w1 ⟨rfl, hb1⟩
 have M1 := M0.callB hb1
 refine wq (aI (.bool (decide _)) rfl) rfl (aB (aC (aN (cC (.bool (decide _)) rfl ?_))))
 exact ⟨by first | exact bF (by omega) | exact bT (by omega) | exact bD (by omega), M1.below⟩
set_option maxHeartbeats 4000000 in
theorem rB (w : World) (b : Body) :
  Calls Tryz.prog 98 #[(.agg (aF b).toArray)] w (fun ex w' => ∃ v, ex = .returned v ∧ (fun v w' => v = .int .i64 (check b) ∧ Below w.heap.size w w') v w') := by
 refine aH #[.tmp 2] 28 Tryz.func98 rfl Tryz.results98 Tryz.ntmps98 rfl ?_
 have M0 := Mem.refl w
 refine aD (aA (bK (.agg (List.toArray _)) M0 rfl rfl rfl (fun b1 w1 M1 => (bJ rfl rfl (aB (aC (aD (aD (aA (wq (cR [] [.pointer _] rfl rfl) rfl (wq (cN [(0, .func _ _ _), (1, .int _ _)] _ kZ rfl rfl) rfl ?_)))))))))))
 refine wq (cR [] [.pointer _] rfl rfl) rfl (wq (cN [(0, .func _ _ _), (1, .int _ _)] _ kZ rfl rfl) rfl (wq (cR [] [.pointer _] rfl rfl) rfl (wq (cN [(0, .func _ _ _), (1, .int _ _)] _ kZ rfl rfl) rfl (wq (cR [] [.pointer _] rfl rfl) rfl (wq (cN [(0, .func _ _ _), (1, .int _ _)] _ kZ rfl rfl) rfl ?_)))))
 refine wq (cR [] [.pointer _] rfl rfl) rfl (wq (cN [(0, .func _ _ _), (1, .int _ _)] _ kZ rfl rfl) rfl (wq (cR [] [.pointer _] rfl rfl) rfl (wq (cN [(0, .func _ _ _), (1, .int _ _)] _ kZ rfl rfl) rfl (wq (oQ [.agg (List.toArray _), .agg (List.toArray _), .agg (List.toArray _), .agg (List.toArray _), .agg (List.toArray _), .agg (List.toArray _)] rA aWs rfl rfl (dI rfl)) rfl ?_))))
 refine aV rfl rfl (aB (aC (aS (lQ 7 (gW (aD (aA (cT rfl rfl rfl rfl (kR 19 rfl (by first | decide | omega) ?_)))))))))
 refine aB (aC (aD (cO rfl (aK (aC (aD (aS (aD (aA (wq (mM 0 _ rA kO rfl rfl (by decide) (by decide) rfl rfl) rfl (aR pP M1 rfl rfl (fun b2 w2 M2 => (bC 1 _ kO M2 rfl rfl rfl rfl rfl (aQ rfl) rfl (fun w3 M3 => ?_))))))))))))))
 refine aB (aC (aD (aA (wq (aE 0 nB rfl) rfl (wq (aM 1 (.func _ _ _) aCf M3 rfl rfl rfl) rfl (bV bBp rfl rfl (aHn _ b _ (lW 0 M3 rfl rfl)) ?_))))))
 rintro v4 w4 ⟨rfl, hb4⟩
 have M4 := M3.callB hb4
 refine wq (pL rfl) rfl (aB (aC ?_))
 refine aW rfl (fun h24 => ?_) (fun h24 => ?_)
 ·refine aD (aA (wq (aE 1 mU rfl) rfl (wq (aM 1 (.int _ _) aBp M4 rfl rfl rfl) rfl (bJ rfl rfl (aB (aC (aN (iQ ?_))))))))
  refine cE (cE (iQ (cE (cC (.int _ _) rfl ?_))))
  exact ⟨iE (aLb b (by omega)).symm, M4.below⟩
 ·refine aK (cX (aC (aA (wq (bM rfl rfl (by first | decide | omega) (by first | decide | omega)) rfl (aT 27 (.int .i64 1) (iE (by first | decide | omega)) (aV rfl rfl ?_))))))
  refine aB (aC (gW (aD (aA (cT rfl rfl rfl rfl (kR 19 rfl (by first | decide | omega) (aB (aC (aD ?_)))))))))
  refine cO rfl (aK (aC (aD (aS (aD (aA (wq (mM 1 _ rA kO rfl rfl (by decide) (by decide) rfl rfl) rfl (aR pP M4 rfl rfl (fun b5 w5 M5 => (bC 2 _ kO M5 rfl rfl rfl rfl rfl (aQ rfl) rfl (fun w6 M6 => (aB (aC (aD (aA ?_)))))))))))))))
  refine wq (aE 0 nB rfl) rfl (wq (aM 2 (.func _ _ _) aCf M6 rfl rfl rfl) rfl (bV bCt rfl rfl (aFo _ b _ (lW 0 M6 rfl rfl)) ?_))
  rintro v7 w7 ⟨rfl, hb7⟩
  have M7 := M6.callB hb7
  refine wq (pL rfl) rfl (aB (aC ?_))
  refine aW rfl (fun h24 => ?_) (fun h24 => ?_)
  ·refine aD (aA (wq (aE 1 mU rfl) rfl (wq (aM 2 (.int _ _) aBp M7 rfl rfl rfl) rfl (bJ rfl rfl (aB (aC (aN (iQ ?_))))))))
   refine cE (cE (iQ (cE (cC (.int _ _) rfl ?_))))
   exact ⟨iE (aMn b (by omega) (by omega)).symm, M7.below⟩
  ·refine aK (cX (aC (aA (wq (bM rfl rfl (by first | decide | omega) (by first | decide | omega)) rfl (aT 27 (.int .i64 2) (iE (by first | decide | omega)) (aV rfl rfl ?_))))))
   refine aB (aC (gW (aD (aA (cT rfl rfl rfl rfl (kR 19 rfl (by first | decide | omega) (aB (aC (aD ?_)))))))))
   refine cO rfl (aK (aC (aD (aS (aD (aA (wq (mM 2 _ rA kO rfl rfl (by decide) (by decide) rfl rfl) rfl (aR pP M7 rfl rfl (fun b8 w8 M8 => (bC 3 _ kO M8 rfl rfl rfl rfl rfl (aQ rfl) rfl (fun w9 M9 => (aB (aC (aD (aA ?_)))))))))))))))
   refine wq (aE 0 nB rfl) rfl (wq (aM 3 (.func _ _ _) aCf M9 rfl rfl rfl) rfl (bV bDd rfl rfl (aFe _ b _ (lW 0 M9 rfl rfl)) ?_))
   rintro v10 w10 ⟨rfl, hb10⟩
   have M10 := M9.callB hb10
   refine wq (pL rfl) rfl (aB (aC ?_))
   refine aW rfl (fun h24 => ?_) (fun h24 => ?_)
   ·refine aD (aA (wq (aE 1 mU rfl) rfl (wq (aM 3 (.int _ _) aBp M10 rfl rfl rfl) rfl (bJ rfl rfl (aB (aC (aN (iQ ?_))))))))
    refine cE (cE (iQ (cE (cC (.int _ _) rfl ?_))))
    exact ⟨iE (aMs b (by omega) (by omega) (by omega)).symm, M10.below⟩
   ·refine aK (cX (aC (aA (wq (bM rfl rfl (by first | decide | omega) (by first | decide | omega)) rfl (aT 27 (.int .i64 3) (iE (by first | decide | omega)) (aV rfl rfl ?_))))))
    refine aB (aC (gW (aD (aA (cT rfl rfl rfl rfl (kR 19 rfl (by first | decide | omega) (aB (aC (aD ?_)))))))))
    refine cO rfl (aK (aC (aD (aS (aD (aA (wq (mM 3 _ rA kO rfl rfl (by decide) (by decide) rfl rfl) rfl (aR pP M10 rfl rfl (fun b11 w11 M11 => (bC 4 _ kO M11 rfl rfl rfl rfl rfl (aQ rfl) rfl (fun w12 M12 => (aB (aC (aD (aA ?_)))))))))))))))
    refine wq (aE 0 nB rfl) rfl (wq (aM 4 (.func _ _ _) aCf M12 rfl rfl rfl) rfl (bV bDe rfl rfl (aIa _ b _ (lW 0 M12 rfl rfl)) ?_))
    rintro v13 w13 ⟨rfl, hb13⟩
    have M13 := M12.callB hb13
    refine wq (pL rfl) rfl (aB (aC ?_))
    refine aW rfl (fun h24 => ?_) (fun h24 => ?_)
    ·refine aD (aA (wq (aE 1 mU rfl) rfl (wq (aM 4 (.int _ _) aBp M13 rfl rfl rfl) rfl (bJ rfl rfl (aB (aC (aN (iQ ?_))))))))
     refine cE (cE (iQ (cE (cC (.int _ _) rfl ?_))))
     exact ⟨iE (aMl b (by omega) (by omega) (by omega) (by omega)).symm, M13.below⟩
    ·refine aK (cX (aC (aA (wq (bM rfl rfl (by first | decide | omega) (by first | decide | omega)) rfl (aT 27 (.int .i64 4) (iE (by first | decide | omega)) (aV rfl rfl ?_))))))
     refine aB (aC (gW (aD (aA (cT rfl rfl rfl rfl (kR 19 rfl (by first | decide | omega) (aB (aC (aD ?_)))))))))
     refine cO rfl (aK (aC (aD (aS (aD (aA (wq (mM 4 _ rA kO rfl rfl (by decide) (by decide) rfl rfl) rfl (aR pP M13 rfl rfl (fun b14 w14 M14 => (bC 5 _ kO M14 rfl rfl rfl rfl rfl (aQ rfl) rfl (fun w15 M15 => (aB (aC (aD (aA ?_)))))))))))))))
     refine wq (aE 0 nB rfl) rfl (wq (aM 5 (.func _ _ _) aCf M15 rfl rfl rfl) rfl (bV bDu rfl rfl (aFm _ b _ (lW 0 M15 rfl rfl)) ?_))
     rintro v16 w16 ⟨rfl, hb16⟩
     have M16 := M15.callB hb16
     refine wq (pL rfl) rfl (aB (aC ?_))
     refine aW rfl (fun h24 => ?_) (fun h24 => ?_)
     ·refine aD (aA (wq (aE 1 mU rfl) rfl (wq (aM 5 (.int _ _) aBp M16 rfl rfl rfl) rfl (bJ rfl rfl (aB (aC (aN (iQ ?_))))))))
      refine cE (cE (iQ (cE (cC (.int _ _) rfl ?_))))
      exact ⟨iE (aLj b (by omega) (by omega) (by omega) (by omega) (by omega)).symm, M16.below⟩
     ·refine aK (cX (aC (aA (wq (bM rfl rfl (by first | decide | omega) (by first | decide | omega)) rfl (aT 27 (.int .i64 5) (iE (by first | decide | omega)) (aV rfl rfl ?_))))))
      refine aB (aC (gW (aD (aA (cT rfl rfl rfl rfl (kR 19 rfl (by first | decide | omega) (aB (aC (aD ?_)))))))))
      refine cO rfl (aK (aC (aD (aS (aD (aA (wq (mM 5 _ rA kO rfl rfl (by decide) (by decide) rfl rfl) rfl (aR pP M16 rfl rfl (fun b17 w17 M17 => (bC 6 _ kO M17 rfl rfl rfl rfl rfl (aQ rfl) rfl (fun w18 M18 => (aB (aC (aD (aA ?_)))))))))))))))
      refine wq (aE 0 nB rfl) rfl (wq (aM 6 (.func _ _ _) aCf M18 rfl rfl rfl) rfl (bV bBw rfl rfl (aFn _ b _ (lW 0 M18 rfl rfl)) ?_))
      rintro v19 w19 ⟨rfl, hb19⟩
      have M19 := M18.callB hb19
      refine wq (pL rfl) rfl (aB (aC ?_))
      refine aW rfl (fun h24 => ?_) (fun h24 => ?_)
      ·refine aD (aA (wq (aE 1 mU rfl) rfl (wq (aM 6 (.int _ _) aBp M19 rfl rfl rfl) rfl (bJ rfl rfl (aB (aC (aN (iQ ?_))))))))
       refine cE (cE (iQ (cE (cC (.int _ _) rfl ?_))))
       exact ⟨iE (aLh b (by omega) (by omega) (by omega) (by omega) (by omega) (by omega)).symm, M19.below⟩
      ·refine aK (cX (aC (aA (wq (bM rfl rfl (by first | decide | omega) (by first | decide | omega)) rfl (aT 27 (.int .i64 6) (iE (by first | decide | omega)) (aV rfl rfl ?_))))))
       refine aB (aC (gW (aD (aA (cT rfl rfl rfl rfl (tF 19 rfl (by first | decide | omega) (aB (aC (aD ?_)))))))))
       refine bX rfl (cP (dA (dA (eT (aC (aD (aA (bJ rfl rfl ?_))))))))
       refine aB (aC (aN (cC (.int _ _) rfl ?_)))
       exact ⟨iE (aWd b (by omega) (by omega) (by omega) (by omega) (by omega) (by omega)).symm, M19.below⟩
set_option maxHeartbeats 4000000 in
theorem uW (w : World) (x : Int) :
  Calls Tryz.prog 121 #[.int .u32 x] w (fun ex w' => ∃ v, ex = .returned v ∧ (fun v w' => v = .bool false ∧ w' = w) v w') := by
 refine aH #[.tmp 2] 6 Tryz.func121 rfl Tryz.results121 Tryz.ntmps121 rfl ?_
 have M0 := Mem.refl w
 refine aD (aA (wq (aI (.bool false) rfl) rfl (aB (aC (aD (aA (aV rfl rfl (aV rfl rfl (cT rfl rfl rfl rfl ?_)))))))))
 refine wq (aI (.bool (decide _)) rfl) rfl (aB (aC (aN (cC (.bool (decide _)) rfl ?_))))
 exact ⟨(bF (by omega)).symm, rfl⟩
set_option maxHeartbeats 4000000 in
theorem kA (w : World) (x y : Int) :
  Calls Tryz.prog 97 #[.int .u32 x, .int .u32 y] w (fun ex w' => ∃ v, ex = .returned v ∧ (fun v w' => v = .int .i64 (lA x y) ∧ w' = w) v w') := by
 refine aH #[.tmp 4] 20 Tryz.func97 rfl Tryz.results97 Tryz.ntmps97 rfl ?_
 have M0 := Mem.refl w
 refine aD (aA (bJ rfl rfl (aB (aC (aD (aA (aV rfl rfl (bV aQe rfl rfl (uW _ _) ?_))))))))
 rintro v1 w1 ⟨rfl, rfl⟩
 have M1 : Mem _ _ [] _ := M0
 refine wq (aI (.bool false) rfl) rfl (aB (aC (aD (aA (aV rfl rfl (bV aQe rfl rfl (uW _ _) ?_))))))
 rintro v2 w2 ⟨rfl, rfl⟩
 have M2 : Mem _ _ [] _ := M1
 refine wq (aI (.bool false) rfl) rfl (aB (aC (aD (aD (aA (wq (aG (.bool false) rfl) rfl (aB (aC (bX rfl (aK (aC (aD (aD (aA ?_))))))))))))))
 refine wq (aG (.bool false) rfl) rfl (aB (aC (bX rfl (aK (aC (aD (aD (aA (aV rfl rfl (aV rfl rfl ?_))))))))))
 refine cT rfl rfl rfl rfl (aB (aC ?_))
 refine aW rfl (fun h16 => ?_) (fun h16 => ?_)
 ·refine aD (aA (bJ rfl rfl (aB (aC (aN (cE (cC (.int _ _) rfl ?_)))))))
  exact ⟨iE (by unfold lA; (repeat' split) <;> omega), rfl⟩
 ·refine aK (aC (aD (aD (aA (aV rfl rfl (aV rfl rfl (cT rfl rfl rfl rfl (aB (aC ?_)))))))))
  refine aW rfl (fun h19 => ?_) (fun h19 => ?_)
  ·refine aD (aA (bJ rfl rfl (aB (aC (aN (cE (cC (.int _ _) rfl ?_)))))))
   exact ⟨iE (by unfold lA; (repeat' split) <;> omega), rfl⟩
  ·refine aK (aC (aD (aA (bJ rfl rfl (aB (aC (aN (cC (.int _ _) rfl ?_))))))))
   exact ⟨iE (by unfold lA; (repeat' split) <;> omega), rfl⟩
set_option maxHeartbeats 4000000 in
theorem aAd (a b : Body) (w : World) :
  Calls Tryz.prog 96 #[(.agg (aF a).toArray), (.agg (aF b).toArray)] w (fun ex w' => ∃ v, ex = .returned v ∧ (fun v w' => v = .int .i64 (lA a.key b.key) ∧ ∃ q os, w' = Go.Sort.grow (w.drewN q) os) v w') := by
 refine aH #[.tmp 4] 10 Tryz.func96 rfl Tryz.results96 Tryz.ntmps96 rfl ?_
 have M0 := Mem.refl w
 refine aD (aA (wH (.agg (List.toArray _)) M0 rfl rfl rfl (fun M1 => (wH (.agg (List.toArray _)) M1 rfl rfl rfl (fun M2 => (bJ rfl rfl (aB (aC (aD (aA (wq (aE 0 eZ rfl) rfl ?_)))))))))))
 refine wq (aM 0 (.int _ _) bZ M2 rfl rfl rfl) rfl (wq (aE 0 eZ rfl) rfl (wq (aM 1 (.int _ _) bZ M2 rfl rfl rfl) rfl (bV aLm rfl rfl (kA _ _ _) ?_)))
 rintro v3 w3 ⟨rfl, rfl⟩
 have M3 : Mem _ _ [_, _] _ := M2
 refine bJ rfl rfl (aB (aC (aN (cC (.int _ _) rfl ?_))))
 exact ⟨rfl, bEv _ _ _⟩
set_option maxHeartbeats 4000000 in
theorem aAm (w : World) (A : Option Addr) (n c : Nat) (ls : List (List Value)) (R : Rd w 10 A n ls) (h1 : ∀ y ∈ ls, ∀ u ∈ y, one u = true) (hn : n ≤ 1048576) :
  Calls Tryz.prog 49 #[.slice A n c] w (fun ex w' => ∃ v, ex = .returned v ∧ (fun v w' => ∃ A' n' c' e, v = .slice A' n' c' ∧ aX 40 10 A' n' c' ls e ∧ Mem w [] [e] w' ∧ A'.isSome = A.isSome) v w') := by
 refine aH #[.tmp 2] 8 Tryz.func49 rfl Tryz.results49 Tryz.ntmps49 rfl ?_
 have M0 := Mem.refl w
 refine aD (aA (gC rfl rfl (aB (aC (aD (aD (aA (eF rfl rfl (wq (aEi _ Tryz.underlying22 rfl rfl) rfl (aB (aC ?_)))))))))))
 refine gU _ rfl (fun h4 => ?_) (fun h4 => ?_)
 ·refine aD (aA (gC rfl rfl (aB (aC (aN (cE (cC (.slice _ _ _) rfl ?_)))))))
  have hA : A = none := by cases A <;> simp_all
  have hl : ls = [] := by
   rcases Nat.eq_zero_or_pos n with h | h
   ·subst h; exact List.eq_nil_of_length_eq_zero R.len
   ·have := R.some h; rw [hA] at this; cases this
  subst hA; subst hl
  exact ⟨_, _, _, _, rfl, aX.nil 40 10 default, M0.dummy default, rfl⟩
 ·refine aK (aC (aD (aA (dC [] [] rfl eP M0 rfl rfl rfl rfl (dI rfl) (by decide) (fun b1 w1 M1 => (eF rfl rfl (aKf 0 ls eP M1 rfl rfl rfl rfl rfl (aX.empty b1) (R.mem M1) h1 (by omega) (fun A2 c2 e2 w2 M2 hR2 hA2 => ?_))))))))
  have hAA := hA2
  refine gC rfl rfl (aB (aC (aN (cC (.slice _ _ _) rfl ?_))))
  refine ⟨_, _, _, _, rfl, by simpa using hR2, M2, ?_⟩
  rw [hAA rfl]; cases A <;> simp_all
end Go.Proofs.YtlmcphcgiclanaaGreatDoor
