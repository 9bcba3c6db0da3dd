/- Part of the proof of the laws of this seat: Ty, T26, T25, T20, T20r, T20l, T21, T22, R5, R6, Bd, Lib, St. No conditions. -/
import Derived.Test.YtlmcphcgiclanaaGreatDoorProg
import Derived.Test.YtlmcphcgiclanaaGreatDoorK2
import Derived.Test.YtlmcphcgiclanaaGreatDoorK3
import Derived.Test.YtlmcphcgiclanaaGreatDoorK4
import Derived.KernelRfl
set_option linter.unusedVariables false
set_option linter.unusedSimpArgs false
set_option linter.unnecessarySimpa false
namespace Go.Proofs.YtlmcphcgiclanaaGreatDoor
open Go.Bil
open Go.Proofs
theorem bW : gE Tryz.prog 36 = true := by kernel_rfl
theorem aU : gE Tryz.prog 21 = true := by kernel_rfl
theorem aLb : ∀ (d : Nat) (w : World) (x0 x1 y0 y1 : Int), (Op.equalIn (d + 2) 38 (.agg [.int .i32 x0, .int .i32 x1].toArray) (.agg [.int .i32 y0, .int .i32 y1].toArray)).run Tryz.prog w = .ok (decide (x0 = y0 ∧ x1 = y1)) w := fun d w x0 x1 y0 y1 => by
  have h := tG (P := Tryz.prog) (T := 38) (dd := d + 1) (xs := [.int .i32 x0, .int .i32 x1]) (ys := [.int .i32 y0, .int .i32 y1]) (w := w) Tryz.underlying38 (by kernel_rfl) (gO rfl (jD aU rfl) (jD aU rfl) (pF (dd := d + 0) Tryz.underlying21) (gO rfl (jD aU rfl) (jD aU rfl) (pF (dd := d + 0) Tryz.underlying21) (aCj)))
  refine h.trans (congrArg (fun r => Result.ok r w) ?_)
  simp only [Bool.decide_and, Bool.and_true, Bool.and_assoc]
theorem bH : gL Tryz.prog 38 = some 2 := by kernel_rfl
theorem bDy : ∀ (d : Nat) (w : World) (x0 x1 x2 x3 x4 x5 x6 x7 x8 x9 y0 y1 y2 y3 y4 y5 y6 y7 y8 y9 : Int), (Op.equalIn (d + 3) 40 (.agg [.int .u32 x0, .int .i32 x1, .int .i32 x2, .int .i32 x3, .int .i32 x4, .int .i32 x5, .int .i32 x6, .int .i32 x7, .int .i32 x8, .int .i32 x9].toArray) (.agg [.int .u32 y0, .int .i32 y1, .int .i32 y2, .int .i32 y3, .int .i32 y4, .int .i32 y5, .int .i32 y6, .int .i32 y7, .int .i32 y8, .int .i32 y9].toArray)).run Tryz.prog w = .ok (decide (x0 = y0 ∧ x1 = y1 ∧ x2 = y2 ∧ x3 = y3 ∧ x4 = y4 ∧ x5 = y5 ∧ x6 = y6 ∧ x7 = y7 ∧ x8 = y8 ∧ x9 = y9)) w := fun d w x0 x1 x2 x3 x4 x5 x6 x7 x8 x9 y0 y1 y2 y3 y4 y5 y6 y7 y8 y9 => by
  have h := tG (P := Tryz.prog) (T := 40) (dd := d + 2) (xs := [.int .u32 x0, .int .i32 x1, .int .i32 x2, .int .i32 x3, .int .i32 x4, .int .i32 x5, .int .i32 x6, .int .i32 x7, .int .i32 x8, .int .i32 x9]) (ys := [.int .u32 y0, .int .i32 y1, .int .i32 y2, .int .i32 y3, .int .i32 y4, .int .i32 y5, .int .i32 y6, .int .i32 y7, .int .i32 y8, .int .i32 y9]) (w := w) Tryz.underlying40 (by kernel_rfl) (gO rfl (jD bW rfl) (jD bW rfl) (pF (dd := d + 1) Tryz.underlying36) (gO rfl (jD aU rfl) (jD aU rfl) (pF (dd := d + 1) Tryz.underlying21) (gO rfl (xB bH rfl) (xB bH rfl) (aLb (d + 0) w x2 x3 y2 y3) (gO rfl (jD aU rfl) (jD aU rfl) (pF (dd := d + 1) Tryz.underlying21) (gO rfl (jD aU rfl) (jD aU rfl) (pF (dd := d + 1) Tryz.underlying21) (gO rfl (xB bH rfl) (xB bH rfl) (aLb (d + 0) w x6 x7 y6 y7) (gO rfl (xB bH rfl) (xB bH rfl) (aLb (d + 0) w x8 x9 y8 y9) (aCj))))))))
  refine h.trans (congrArg (fun r => Result.ok r w) ?_)
  simp only [Bool.decide_and, Bool.and_true, Bool.and_assoc]
theorem bEw : ∀ (x0 x1 x2 x3 x4 x5 x6 x7 x8 x9 y0 y1 y2 y3 y4 y5 y6 y7 y8 y9 : Int), EqA Tryz.prog 40 [.int .u32 x0, .int .i32 x1, .int .i32 x2, .int .i32 x3, .int .i32 x4, .int .i32 x5, .int .i32 x6, .int .i32 x7, .int .i32 x8, .int .i32 x9] [.int .u32 y0, .int .i32 y1, .int .i32 y2, .int .i32 y3, .int .i32 y4, .int .i32 y5, .int .i32 y6, .int .i32 y7, .int .i32 y8, .int .i32 y9] (decide (x0 = y0 ∧ x1 = y1 ∧ x2 = y2 ∧ x3 = y3 ∧ x4 = y4 ∧ x5 = y5 ∧ x6 = y6 ∧ x7 = y7 ∧ x8 = y8 ∧ x9 = y9)) := fun x0 x1 x2 x3 x4 x5 x6 x7 x8 x9 y0 y1 y2 y3 y4 y5 y6 y7 y8 y9 => ⟨by kernel_rfl, fun w => bDy 9997 w x0 x1 x2 x3 x4 x5 x6 x7 x8 x9 y0 y1 y2 y3 y4 y5 y6 y7 y8 y9⟩
theorem bN : gL Tryz.prog 40 = some 10 := by kernel_rfl
theorem bEo : aO Tryz.prog 96 = true := by kernel_rfl
theorem bDc : ∀ (d : Nat) (w : World) (x0 x1 y0 y1 : Int), (Op.equalIn (d + 2) 119 (.agg [.int .u32 x0, .int .u32 x1].toArray) (.agg [.int .u32 y0, .int .u32 y1].toArray)).run Tryz.prog w = .ok (decide (x0 = y0 ∧ x1 = y1)) w := fun d w x0 x1 y0 y1 => by
  have h := tG (P := Tryz.prog) (T := 119) (dd := d + 1) (xs := [.int .u32 x0, .int .u32 x1]) (ys := [.int .u32 y0, .int .u32 y1]) (w := w) Tryz.underlying119 (by kernel_rfl) (gO rfl (jD bW rfl) (jD bW rfl) (pF (dd := d + 0) Tryz.underlying36) (gO rfl (jD bW rfl) (jD bW rfl) (pF (dd := d + 0) Tryz.underlying36) (aCj)))
  refine h.trans (congrArg (fun r => Result.ok r w) ?_)
  simp only [Bool.decide_and, Bool.and_true, Bool.and_assoc]
theorem bCq : ∀ (x0 x1 y0 y1 : Int), EqA Tryz.prog 119 [.int .u32 x0, .int .u32 x1] [.int .u32 y0, .int .u32 y1] (decide (x0 = y0 ∧ x1 = y1)) := fun x0 x1 y0 y1 => ⟨by kernel_rfl, fun w => bDc 9998 w x0 x1 y0 y1⟩
theorem fP : gL Tryz.prog 119 = some 2 := by kernel_rfl
theorem bBs : aO Tryz.prog 170 = true := by kernel_rfl
theorem bEx : jF Tryz.prog 119 = some (.agg [.int .u32 0, .int .u32 0].toArray) := by kernel_rfl
theorem kE : gE Tryz.prog 3 = true := by kernel_rfl
theorem lY : gE Tryz.prog 4 = true := by kernel_rfl
theorem nB : eB Tryz.prog 40 1 1 = true := by kernel_rfl
theorem kK : eB Tryz.prog 40 2 2 = true := by kernel_rfl
theorem dT : eB Tryz.prog 38 0 0 = true := by kernel_rfl
theorem dK : eB Tryz.prog 38 1 1 = true := by kernel_rfl
theorem fE : eB Tryz.prog 40 3 4 = true := by kernel_rfl
theorem sF : eB Tryz.prog 40 4 5 = true := by kernel_rfl
theorem fX : eB Tryz.prog 40 5 6 = true := by kernel_rfl
theorem fD : eB Tryz.prog 40 6 8 = true := by kernel_rfl
theorem eM : eD Tryz.prog 22 40 10 40 = true := by kernel_rfl
theorem eK : eB Tryz.prog 40 0 0 = true := by kernel_rfl
theorem mixed : Tryz.prog.follows .mixedOrders = true := by kernel_rfl
theorem aIm : aO Tryz.prog 124 = true := by kernel_rfl
theorem kO : fW Tryz.prog 181 [.nilFunc, .int .i64 0] [(0, 1), (1, 1)] := eI Tryz.underlying181 (by kernel_rfl) (by kernel_rfl) (by kernel_rfl)
theorem qX : vE Tryz.prog 183 6 181 2 = true := by kernel_rfl
theorem aXe : fG Tryz.prog 183 = some [.nilFunc, .int .i64 0, .nilFunc, .int .i64 0, .nilFunc, .int .i64 0, .nilFunc, .int .i64 0, .nilFunc, .int .i64 0, .nilFunc, .int .i64 0] := by kernel_rfl
theorem kI : gL Tryz.prog 181 = some 2 := by kernel_rfl
theorem pH : fG Tryz.prog 181 = some [.nilFunc, .int .i64 0] := by kernel_rfl
theorem mI : eB Tryz.prog 181 0 0 = true := by kernel_rfl
theorem aAi : gE Tryz.prog 25 = true := by kernel_rfl
theorem bAj : aO Tryz.prog 122 = true := by kernel_rfl
theorem mF : eB Tryz.prog 181 1 1 = true := by kernel_rfl
theorem aBw : gE Tryz.prog 67 = true := by kernel_rfl
theorem aZu : aO Tryz.prog 123 = true := by kernel_rfl
theorem bBg : aO Tryz.prog 125 = true := by kernel_rfl
theorem bCa : aO Tryz.prog 126 = true := by kernel_rfl
theorem bAe : aO Tryz.prog 127 = true := by kernel_rfl
theorem bCi : aO Tryz.prog 128 = true := by kernel_rfl
theorem aRa : aO Tryz.prog 98 = true := by kernel_rfl
theorem jS : eB Tryz.prog 52 1 1 = true := by kernel_rfl
theorem qH : gE Tryz.prog 50 = true := by kernel_rfl
theorem uG : xR Tryz.prog 50 36 3 .u32 = true := by kernel_rfl
theorem zv3 : jF Tryz.prog 3 = some (.int .i64 0) := by kernel_rfl
theorem fN : eB Tryz.prog 52 0 0 = true := by kernel_rfl
theorem fA : gE Tryz.prog 22 = true := by kernel_rfl
theorem gG : fG Tryz.prog 40 = some [.int .u32 0, .int .i32 0, .int .i32 0, .int .i32 0, .int .i32 0, .int .i32 0, .int .i32 0, .int .i32 0, .int .i32 0, .int .i32 0] := by kernel_rfl
theorem oH : fW Tryz.prog 40 [.int .u32 0, .int .i32 0, .int .i32 0, .int .i32 0, .int .i32 0, .int .i32 0, .int .i32 0, .int .i32 0, .int .i32 0, .int .i32 0] [(0, 1), (1, 1), (2, 2), (4, 1), (5, 1), (6, 2), (8, 2)] := eI Tryz.underlying40 (by kernel_rfl) (by kernel_rfl) (by kernel_rfl)
theorem aSn : aO Tryz.prog 121 = true := by kernel_rfl
theorem aLw : aO Tryz.prog 97 = true := by kernel_rfl
theorem bEh : aO Tryz.prog 49 = true := by kernel_rfl
theorem bDz : aO Tryz.prog 95 = true := by kernel_rfl
theorem bAn : aO Tryz.prog 129 = true := by kernel_rfl
theorem us3 : (Tryz.prog.underlying 3).isSome = true := by kernel_rfl
theorem bEd : (Tryz.prog.underlying 136).isSome = true := by kernel_rfl
theorem aTv : aO Tryz.prog 140 = true := by kernel_rfl
theorem aZx : aO Tryz.prog 139 = true := by kernel_rfl
theorem aUn : aO Tryz.prog 215 = true := by kernel_rfl
theorem aCr : fG Tryz.prog 193 = some [.int .i32 0, .int .i32 0, .int .i32 0, .int .i32 0] := by kernel_rfl
theorem bAu : aO Tryz.prog 190 = true := by kernel_rfl
theorem aBt : fW Tryz.prog 193 [.int .i32 0, .int .i32 0, .int .i32 0, .int .i32 0] [(0, 1), (1, 1), (2, 1), (3, 1)] := eI Tryz.underlying193 (by kernel_rfl) (by kernel_rfl) (by kernel_rfl)
theorem iJ : gL Tryz.prog 193 = some 4 := by kernel_rfl
theorem sK : eB Tryz.prog 193 0 0 = true := by kernel_rfl
theorem sR : eB Tryz.prog 193 2 2 = true := by kernel_rfl
theorem sO : eB Tryz.prog 193 1 1 = true := by kernel_rfl
theorem rZ : eB Tryz.prog 193 3 3 = true := by kernel_rfl
theorem aJe : aO Tryz.prog 192 = true := by kernel_rfl
theorem bDe : aO Tryz.prog 193 = true := by kernel_rfl
theorem nH : fG Tryz.prog 226 = some [.int .i32 0, .int .i32 0] := by kernel_rfl
theorem aBr : fW Tryz.prog 226 [.int .i32 0, .int .i32 0] [(0, 1), (1, 1)] := eI Tryz.underlying226 (by kernel_rfl) (by kernel_rfl) (by kernel_rfl)
theorem gI : gL Tryz.prog 226 = some 2 := by kernel_rfl
theorem eP : fW Tryz.prog 38 [.int .i32 0, .int .i32 0] [(0, 1), (1, 1)] := eI Tryz.underlying38 (by kernel_rfl) (by kernel_rfl) (by kernel_rfl)
theorem aPy : aO Tryz.prog 229 = true := by kernel_rfl
theorem bCd : aO Tryz.prog 216 = true := by kernel_rfl
theorem aKt : fG Tryz.prog 4 = some [.bool false] := by kernel_rfl
theorem xY : eB Tryz.prog 226 1 1 = true := by kernel_rfl
theorem xH : eB Tryz.prog 226 0 0 = true := by kernel_rfl
theorem aVp : fG Tryz.prog 224 = some [.slice none 0 0] := by kernel_rfl
theorem bBw : aO Tryz.prog 191 = true := by kernel_rfl
theorem bBx : aO Tryz.prog 217 = true := by kernel_rfl
theorem aIc : gE Tryz.prog 224 = true := by kernel_rfl
theorem aRp : eD Tryz.prog 224 226 2 8 = true := by kernel_rfl
theorem fL : (Tryz.prog.underlying 21).isSome = true := by kernel_rfl
theorem aSd : vE Tryz.prog 270 2 36 1 = true := by kernel_rfl
theorem qZ : (Tryz.prog.underlying 36).isSome = true := by kernel_rfl
theorem bBa : aO Tryz.prog 206 = true := by kernel_rfl
theorem us2 : (Tryz.prog.underlying 2).isSome = true := by kernel_rfl
theorem aBu : (Tryz.prog.underlying 170).isSome = true := by kernel_rfl
theorem pA : aO Tryz.prog 179 = true := by kernel_rfl
theorem aJc : aO Tryz.prog 178 = true := by kernel_rfl
theorem aSo : aO Tryz.prog 180 = true := by kernel_rfl
theorem aDo : aO Tryz.prog 181 = true := by kernel_rfl
theorem aDg : aO Tryz.prog 207 = true := by kernel_rfl
theorem aSi : aO Tryz.prog 201 = true := by kernel_rfl
theorem aJx : aO Tryz.prog 173 = true := by kernel_rfl
theorem bBk : aO Tryz.prog 203 = true := by kernel_rfl
theorem fY : fG Tryz.prog 38 = some [.int .i32 0, .int .i32 0] := by kernel_rfl
theorem aSr : aO Tryz.prog 175 = true := by kernel_rfl
theorem aSp : aO Tryz.prog 202 = true := by kernel_rfl
theorem wT : aO Tryz.prog 200 = true := by kernel_rfl
theorem kZ : gE Tryz.prog 2 = true := by kernel_rfl
theorem aCm : aO Tryz.prog 141 = true := by kernel_rfl
theorem bBv : aO Tryz.prog 244 = true := by kernel_rfl
theorem yB : fG Tryz.prog 2 = some [.int .i64 0] := by kernel_rfl
theorem aSk : aO Tryz.prog 245 = true := by kernel_rfl
theorem oT : gE Tryz.prog 170 = true := by kernel_rfl
theorem aVb : fG Tryz.prog 170 = some [.int .u64 0] := by kernel_rfl
theorem tL : vE Tryz.prog 318 2 38 2 = true := by kernel_rfl
theorem aLl : fG Tryz.prog 318 = some [.int .i32 0, .int .i32 0, .int .i32 0, .int .i32 0] := by kernel_rfl
theorem aCl : aO Tryz.prog 239 = true := by kernel_rfl
theorem aCu : aO Tryz.prog 238 = true := by kernel_rfl
theorem bBy : aO Tryz.prog 221 = true := by kernel_rfl
theorem sM : fG Tryz.prog 239 = some [.int .u32 0, .int .i32 0, .int .i32 0, .int .i32 0, .int .i32 0, .int .i32 0, .int .i32 0, .int .i32 0, .int .i32 0, .int .i32 0, .int .i32 0, .int .i32 0, .int .i32 0, .int .i32 0] := by kernel_rfl
theorem bBl : aO Tryz.prog 220 = true := by kernel_rfl
theorem aMq : fW Tryz.prog 239 [.int .u32 0, .int .i32 0, .int .i32 0, .int .i32 0, .int .i32 0, .int .i32 0, .int .i32 0, .int .i32 0, .int .i32 0, .int .i32 0, .int .i32 0, .int .i32 0, .int .i32 0, .int .i32 0] [(0, 10), (10, 2), (12, 2)] := eI Tryz.underlying239 (by kernel_rfl) (by kernel_rfl) (by kernel_rfl)
theorem kG : gL Tryz.prog 239 = some 14 := by kernel_rfl
theorem aEa : aO Tryz.prog 198 = true := by kernel_rfl
theorem aGs : eB Tryz.prog 239 1 10 = true := by kernel_rfl
theorem aEv : eB Tryz.prog 239 2 12 = true := by kernel_rfl
theorem bBh : aO Tryz.prog 199 = true := by kernel_rfl
theorem rT : eB Tryz.prog 239 0 0 = true := by kernel_rfl
theorem rU : fG Tryz.prog 121 = some [.int .u32 0, .int .u32 0, .int .i32 0, .int .i32 0, .int .i32 0] := by kernel_rfl
theorem bCb : aO Tryz.prog 171 = true := by kernel_rfl
theorem aZo : aO Tryz.prog 172 = true := by kernel_rfl
theorem aBy : fW Tryz.prog 121 [.int .u32 0, .int .u32 0, .int .i32 0, .int .i32 0, .int .i32 0] [(0, 2), (2, 2), (4, 1)] := eI Tryz.underlying121 (by kernel_rfl) (by kernel_rfl) (by kernel_rfl)
theorem fZ : gL Tryz.prog 121 = some 5 := by kernel_rfl
theorem aBx : fW Tryz.prog 119 [.int .u32 0, .int .u32 0] [(0, 1), (1, 1)] := eI Tryz.underlying119 (by kernel_rfl) (by kernel_rfl) (by kernel_rfl)
theorem pU : fG Tryz.prog 119 = some [.int .u32 0, .int .u32 0] := by kernel_rfl
theorem bCs : aO Tryz.prog 174 = true := by kernel_rfl
theorem aFx : eB Tryz.prog 191 1 1024 = true := by kernel_rfl
theorem bCu : aO Tryz.prog 161 = true := by kernel_rfl
theorem bAz : aO Tryz.prog 162 = true := by kernel_rfl
theorem aUe : xR Tryz.prog 223 3 4 .i64 = true := by kernel_rfl
theorem zv4 : jF Tryz.prog 4 = some (.bool false) := by kernel_rfl
theorem wU : eB Tryz.prog 191 0 0 = true := by kernel_rfl
theorem aJp : vE Tryz.prog 189 1024 188 1 = true := by kernel_rfl
theorem aEf : gE Tryz.prog 188 = true := by kernel_rfl
theorem aHg : eD Tryz.prog 188 36 1 4 = true := by kernel_rfl
theorem aUf : eD Tryz.prog 302 3 1 8 = true := by kernel_rfl
theorem mV : eB Tryz.prog 119 0 0 = true := by kernel_rfl
theorem mT : eB Tryz.prog 119 1 1 = true := by kernel_rfl
theorem bCn : aO Tryz.prog 197 = true := by kernel_rfl
theorem aZw : gE Tryz.prog 230 = true := by kernel_rfl
theorem bCc : aO Tryz.prog 196 = true := by kernel_rfl
theorem aIp : gE Tryz.prog 159 = true := by kernel_rfl
theorem rJ : eD Tryz.prog 159 119 2 8 = true := by kernel_rfl
theorem bCm : aO Tryz.prog 218 = true := by kernel_rfl
theorem bBt : aO Tryz.prog 194 = true := by kernel_rfl
theorem bAb : aO Tryz.prog 195 = true := by kernel_rfl
theorem bBe : gL Tryz.prog 189 = some 1024 := by kernel_rfl
theorem bAa : aO Tryz.prog 167 = true := by kernel_rfl
theorem aMp : fW Tryz.prog 231 [] [] := eI Tryz.underlying231 (by kernel_rfl) (by kernel_rfl) (by kernel_rfl)
theorem bDb : aO Tryz.prog 169 = true := by kernel_rfl
theorem bCk : aO Tryz.prog 168 = true := by kernel_rfl
theorem bAk : aO Tryz.prog 160 = true := by kernel_rfl
theorem aDl : xR Tryz.prog 186 36 193 .u32 = true := by kernel_rfl
theorem bEt : fG Tryz.prog 3 = some [.int .i64 0] := by kernel_rfl
theorem aTg : gE Tryz.prog 186 = true := by kernel_rfl
theorem aQm : jF Tryz.prog 193 = some (.agg [.int .i32 0, .int .i32 0, .int .i32 0, .int .i32 0].toArray) := by kernel_rfl
theorem bDf : aO Tryz.prog 164 = true := by kernel_rfl
theorem aRy : aO Tryz.prog 163 = true := by kernel_rfl
theorem bCh : aO Tryz.prog 166 = true := by kernel_rfl
theorem bBo : aO Tryz.prog 132 = true := by kernel_rfl
theorem aZs : aO Tryz.prog 133 = true := by kernel_rfl
theorem aZv : aO Tryz.prog 134 = true := by kernel_rfl
theorem bCl : aO Tryz.prog 136 = true := by kernel_rfl
theorem bAt : aO Tryz.prog 135 = true := by kernel_rfl
theorem bCf : aO Tryz.prog 165 = true := by kernel_rfl
theorem zC : eB Tryz.prog 158 0 0 = true := by kernel_rfl
theorem yF : gE Tryz.prog 156 = true := by kernel_rfl
theorem xP : xR Tryz.prog 156 36 40 .u32 = true := by kernel_rfl
theorem aWh : jF Tryz.prog 40 = some (.agg [.int .u32 0, .int .i32 0, .int .i32 0, .int .i32 0, .int .i32 0, .int .i32 0, .int .i32 0, .int .i32 0, .int .i32 0, .int .i32 0].toArray) := by kernel_rfl
theorem aUu : aO Tryz.prog 137 = true := by kernel_rfl
theorem pB : eB Tryz.prog 158 1 1 = true := by kernel_rfl
theorem oZ : gE Tryz.prog 82 = true := by kernel_rfl
theorem aOk : eD Tryz.prog 82 121 5 20 = true := by kernel_rfl
theorem bCz : aO Tryz.prog 107 = true := by kernel_rfl
theorem aOz : fW Tryz.prog 158 [.map none, .slice none 0 0] [(0, 1), (1, 1)] := eI Tryz.underlying158 (by kernel_rfl) (by kernel_rfl) (by kernel_rfl)
theorem bAp : aO Tryz.prog 105 = true := by kernel_rfl
theorem bCp : aO Tryz.prog 106 = true := by kernel_rfl
theorem bAc : aO Tryz.prog 246 = true := by kernel_rfl
theorem bBi : aO Tryz.prog 240 = true := by kernel_rfl
theorem mU : eB Tryz.prog 121 1 2 = true := by kernel_rfl
theorem bCr : aO Tryz.prog 222 = true := by kernel_rfl
theorem bBc : aO Tryz.prog 223 = true := by kernel_rfl
theorem aTt : aO Tryz.prog 224 = true := by kernel_rfl
theorem aSc : aO Tryz.prog 225 = true := by kernel_rfl
theorem mW : eB Tryz.prog 246 0 0 = true := by kernel_rfl
theorem rI : eB Tryz.prog 121 0 0 = true := by kernel_rfl
theorem aCw : aO Tryz.prog 109 = true := by kernel_rfl
theorem bCy : aO Tryz.prog 204 = true := by kernel_rfl
theorem aSz : aO Tryz.prog 205 = true := by kernel_rfl
theorem mN : eB Tryz.prog 246 1 1 = true := by kernel_rfl
theorem kF : gE Tryz.prog 200 = true := by kernel_rfl
theorem mK : eB Tryz.prog 246 2 2 = true := by kernel_rfl
theorem lV : eD Tryz.prog 200 2 1 8 = true := by kernel_rfl
theorem bAg : aO Tryz.prog 177 = true := by kernel_rfl
theorem aAh : fW Tryz.prog 246 [.slice none 0 0, .slice none 0 0, .slice none 0 0] [(0, 1), (1, 1), (2, 1)] := eI Tryz.underlying246 (by kernel_rfl) (by kernel_rfl) (by kernel_rfl)
theorem aQk : aO Tryz.prog 176 = true := by kernel_rfl
theorem aZz : aO Tryz.prog 138 = true := by kernel_rfl
theorem aIk : aO Tryz.prog 118 = true := by kernel_rfl
theorem bDg : aO Tryz.prog 108 = true := by kernel_rfl
theorem aRq : eB Tryz.prog 121 2 4 = true := by kernel_rfl
theorem aRz : aO Tryz.prog 142 = true := by kernel_rfl
theorem aBh : gE Tryz.prog 97 = true := by kernel_rfl
theorem aHw : eD Tryz.prog 97 135 2 16 = true := by kernel_rfl
theorem xU : eB Tryz.prog 135 0 0 = true := by kernel_rfl
theorem yD : eB Tryz.prog 135 1 1 = true := by kernel_rfl
theorem aVh : fG Tryz.prog 135 = some [.int .i64 0, .int .i64 0] := by kernel_rfl
theorem bBq : fG Tryz.prog 97 = some [.slice none 0 0] := by kernel_rfl
theorem aUw : aO Tryz.prog 111 = true := by kernel_rfl
theorem aSx : aO Tryz.prog 110 = true := by kernel_rfl
theorem aAf : eD Tryz.prog 175 133 1 8 = true := by kernel_rfl
theorem bBm : gE Tryz.prog 133 = true := by kernel_rfl
theorem bEb : aO Tryz.prog 84 = true := by kernel_rfl
theorem aHn : aO Tryz.prog 85 = true := by kernel_rfl
theorem bEa : aO Tryz.prog 83 = true := by kernel_rfl
theorem aZh : aO Tryz.prog 82 = true := by kernel_rfl
theorem bFj : aO Tryz.prog 86 = true := by kernel_rfl
theorem bEi : aO Tryz.prog 53 = true := by kernel_rfl
theorem bDx : aO Tryz.prog 54 = true := by kernel_rfl
theorem vO : eB Tryz.prog 84 1 1 = true := by kernel_rfl
theorem pN : eB Tryz.prog 84 3 3 = true := by kernel_rfl
theorem sJ : eB Tryz.prog 27 2 2 = true := by kernel_rfl
theorem aCc : eB Tryz.prog 84 0 0 = true := by kernel_rfl
theorem bEp : aO Tryz.prog 71 = true := by kernel_rfl
theorem vK : eB Tryz.prog 84 2 2 = true := by kernel_rfl
theorem aXd : eB Tryz.prog 27 0 0 = true := by kernel_rfl
theorem aDr : eB Tryz.prog 27 1 1 = true := by kernel_rfl
theorem aQe : aO Tryz.prog 72 = true := by kernel_rfl
theorem bDp : aO Tryz.prog 73 = true := by kernel_rfl
theorem bDo : aO Tryz.prog 74 = true := by kernel_rfl
theorem wD : fG Tryz.prog 27 = some [.int .i64 0, .int .i64 0, .bool false] := by kernel_rfl
theorem aQj : fW Tryz.prog 84 [.slice none 0 0, .slice none 0 0, .slice none 0 0, .int .i64 0, .int .i64 0, .bool false] [(0, 1), (1, 1), (2, 1), (3, 3)] := eI Tryz.underlying84 (by kernel_rfl) (by kernel_rfl) (by kernel_rfl)
theorem aHl : vE Tryz.prog 86 4 85 1 = true := by kernel_rfl
theorem bCv : fG Tryz.prog 86 = some [.nilFunc, .nilFunc, .nilFunc, .nilFunc] := by kernel_rfl
theorem aKs : gE Tryz.prog 85 = true := by kernel_rfl
theorem bFd : aO Tryz.prog 40 = true := by kernel_rfl
theorem bEq : aO Tryz.prog 41 = true := by kernel_rfl
theorem bEm : aO Tryz.prog 42 = true := by kernel_rfl
theorem bEl : aO Tryz.prog 43 = true := by kernel_rfl
theorem sG : gL Tryz.prog 27 = some 3 := by kernel_rfl
theorem bEk : aO Tryz.prog 16 = true := by kernel_rfl
theorem aYu : ∀ (x0 x1 y0 y1 : Int), EqA Tryz.prog 38 [.int .i32 x0, .int .i32 x1] [.int .i32 y0, .int .i32 y1] (decide (x0 = y0 ∧ x1 = y1)) := fun x0 x1 y0 y1 => ⟨by kernel_rfl, fun w => aLb 9998 w x0 x1 y0 y1⟩
theorem bFb : aO Tryz.prog 18 = true := by kernel_rfl
theorem aQw : jO Tryz.prog 4 40 = some [.u32, .i32, .i32, .i32, .i32, .i32, .i32, .i32, .i32, .i32] := by kernel_rfl
theorem us5 : (Tryz.prog.underlying 5).isSome = true := by kernel_rfl
theorem kS : eD Tryz.prog 57 5 1 1 = true := by kernel_rfl
theorem aDt : fG Tryz.prog 150 = some [.int .u32 0, .int .u32 0, .int .u32 0, .int .u32 0, .int .u32 0, .int .u32 0, .int .u32 0, .int .u32 0, .int .u32 0, .int .u32 0] := by kernel_rfl
theorem fF : vE Tryz.prog 150 10 36 1 = true := by kernel_rfl
theorem nG : aO Tryz.prog 130 = true := by kernel_rfl
theorem aIs : gL Tryz.prog 150 = some 10 := by kernel_rfl
theorem aNw : gE Tryz.prog 5 = true := by kernel_rfl
theorem aIi : aO Tryz.prog 131 = true := by kernel_rfl
theorem aZf : aO Tryz.prog 99 = true := by kernel_rfl
theorem aRi : aO Tryz.prog 100 = true := by kernel_rfl
theorem bBd : aO Tryz.prog 101 = true := by kernel_rfl
theorem kR : aO Tryz.prog 102 = true := by kernel_rfl
theorem lH : aO Tryz.prog 103 = true := by kernel_rfl
theorem bAd : aO Tryz.prog 104 = true := by kernel_rfl
theorem sS : eB Tryz.prog 56 0 0 = true := by kernel_rfl
theorem aKp : aO Tryz.prog 65 = true := by kernel_rfl
theorem pV : eB Tryz.prog 54 0 0 = true := by kernel_rfl
theorem aYt : aO Tryz.prog 66 = true := by kernel_rfl
theorem bEe : aO Tryz.prog 89 = true := by kernel_rfl
theorem bDt : aO Tryz.prog 70 = true := by kernel_rfl
theorem bFk : aO Tryz.prog 64 = true := by kernel_rfl
theorem yK : aO Tryz.prog 31 = true := by kernel_rfl
theorem bDw : aO Tryz.prog 67 = true := by kernel_rfl
theorem aPw : aO Tryz.prog 37 = true := by kernel_rfl
theorem bEg : aO Tryz.prog 87 = true := by kernel_rfl
theorem bFa : aO Tryz.prog 88 = true := by kernel_rfl
theorem aSu : fW Tryz.prog 54 [.slice none 0 0, .map none] [(0, 2)] := eI Tryz.underlying54 (by kernel_rfl) (by kernel_rfl) (by kernel_rfl)
theorem bFh : gL Tryz.prog 54 = some 2 := by kernel_rfl
theorem aZi : aO Tryz.prog 69 = true := by kernel_rfl
theorem bFc : aO Tryz.prog 68 = true := by kernel_rfl
theorem aUc : fG Tryz.prog 61 = some [.slice none 0 0, .int .i64 0, .int .u32 0, .int .i32 0, .int .i32 0, .int .i32 0, .int .i32 0, .int .i32 0, .int .i32 0, .int .i32 0, .int .i32 0, .int .i32 0, .slice none 0 0, .int .i64 0, .bool false] := by kernel_rfl
theorem gK : gL Tryz.prog 61 = some 15 := by kernel_rfl
theorem aDz : eB Tryz.prog 59 0 0 = true := by kernel_rfl
theorem aVg : eB Tryz.prog 59 1 1 = true := by kernel_rfl
theorem nA : eB Tryz.prog 61 1 1 = true := by kernel_rfl
theorem aDc : eB Tryz.prog 59 2 11 = true := by kernel_rfl
theorem aXy : eB Tryz.prog 59 3 12 = true := by kernel_rfl
theorem aDp : eB Tryz.prog 61 4 13 = true := by kernel_rfl
theorem aDd : eB Tryz.prog 61 5 14 = true := by kernel_rfl
theorem aCd : eB Tryz.prog 61 3 12 = true := by kernel_rfl
theorem aEn : gE Tryz.prog 57 = true := by kernel_rfl
theorem aLo : eB Tryz.prog 59 4 14 = true := by kernel_rfl
theorem aEc : eB Tryz.prog 61 2 2 = true := by kernel_rfl
theorem aBf : aO Tryz.prog 32 = true := by kernel_rfl
theorem aYj : aO Tryz.prog 58 = true := by kernel_rfl
theorem aYo : aO Tryz.prog 56 = true := by kernel_rfl
theorem aYm : aO Tryz.prog 57 = true := by kernel_rfl
theorem aAg : aO Tryz.prog 34 = true := by kernel_rfl
theorem aYn : aO Tryz.prog 35 = true := by kernel_rfl
theorem aTf : aO Tryz.prog 33 = true := by kernel_rfl
theorem zF : eD Tryz.prog 48 59 15 88 = true := by kernel_rfl
theorem aIo : fG Tryz.prog 56 = some [.slice none 0 0, .map none] := by kernel_rfl
theorem aKo : aO Tryz.prog 25 = true := by kernel_rfl
theorem bFi : aO Tryz.prog 26 = true := by kernel_rfl
theorem bEn : aO Tryz.prog 27 = true := by kernel_rfl
theorem aBm : gL Tryz.prog 59 = some 15 := by kernel_rfl
theorem aLm : aO Tryz.prog 28 = true := by kernel_rfl
theorem aZg : aO Tryz.prog 30 = true := by kernel_rfl
end Go.Proofs.YtlmcphcgiclanaaGreatDoor

namespace Go.Proofs.YtlmcphcgiclanaaGreatDoor
open Go.Bil
open Go.RowKit (Below)
open Go.Proofs
theorem aQu (a b : Body) : EqA Tryz.prog 40 (aF a) (aF b) (decide (a = b)) := by
 have h := bEw a.key a.radius a.ax a.ay a.mass a.bounce a.px a.py a.vx a.vy b.key b.radius b.ax b.ay b.mass b.bounce b.px b.py b.vx b.vy
 rw [decide_eq_decide.2 (aRd (a := a) (b := b))]
 exact h
set_option maxHeartbeats 4000000 in
theorem aIh (w : World) (A : Option Addr) (n c : Nat) (xs : List Body) (R : Rd w 10 A n (xs.map aF)) (B : Option Addr) (m c' : Nat) (ys : List Body) (R' : Rd w 10 B m (ys.map aF)) :
  Calls Tryz.prog 18 #[.slice A n c, .slice B m c'] w (fun ex w' => ∃ v, ex = .returned v ∧ (fun v w' => v = .bool (decide (xs = ys)) ∧ Below w.heap.size w w') v w') := by
 have hlen : xs.length = n := by simpa using R.len
 have hbd := R.bound
 have hlen' : ys.length = m := by simpa using R'.len
 have hbd' := R'.bound
 refine aH #[.tmp 4] 26 Tryz.func18 rfl Tryz.results18 Tryz.ntmps18 rfl ?_
 have M0 := Mem.refl w
 refine aD (aA (wq (aI (.bool false) rfl) rfl (aB (aC (aD (aD (aA (eF rfl rfl (wq (cK Tryz.underlying22 rfl) rfl (eF rfl rfl ?_))))))))))
 refine wq (cK Tryz.underlying22 rfl) rfl (cS rfl rfl rfl rfl (aB (aC ?_)))
 refine aW rfl (fun h10 => ?_) (fun h10 => ?_)
 ·refine aD (aA (wq (aI (.bool false) rfl) rfl (aB (aC (aN (cC (cA (.bool false) rfl ?_)))))))
  exact ⟨bF (fun e => h10 (by rw [← hlen, ← hlen', e])), M0.below⟩
 ·have hnm : n = m := by omega
  refine aL (aC (aD (aD (aA (bI rfl rfl (aB (aC (aT (dI (σ := Nat) [0, 1] (fun k => [(5, .int .i64 (k : Int))]) (fun k w' => (k ≤ n ∧ ∀ (j : Nat) (x : Body), j < k → xs[j]? = some x → ys[j]? = some x) ∧ Mem w [] [] w') (fun k => n - k) 0 (bK rfl eV) (⟨⟨by omega, fun j c hj => by omega⟩, M0⟩) ?_)))))))))
  rintro k ρ1 w1 ⟨⟨hk, hne⟩, hM1⟩
  refine aD (aD (aA (aV rfl rfl (eF rfl rfl (wq (cK Tryz.underlying22 rfl) rfl (cS rfl rfl rfl rfl (aB (aC ?_))))))))
  refine aW rfl (fun h14 => ?_) (fun h14 => ?_)
  ·obtain ⟨xb, hxb⟩ := cE (k := k) hlen (by omega)
   obtain ⟨yb, hyb⟩ := cE (k := k) hlen' (by omega)
   refine aL (aC (aD (aT (aD (bS [(0, 0), (1, 0), (2, 1), (3, 1), (4, 0), (5, 0), (6, 1), (7, 1), (8, 0)] mixed rfl (by kernel_rfl) (fun w2 hb2 hh2 => ?_))))))
   have M2 := hM1.drew hb2 hh2
   refine vY rfl rfl rfl (gD rfl rfl rfl (cB rfl rfl rfl (bQ (k) eM rfl rfl rfl ((R.mem M2).below_len (aJ aF hxb)) ((R.mem M2).someK (aJ aF hxb))) (cB rfl rfl rfl (dL _ bN (R.mem M2) (aJ aF hxb) rfl) (vY rfl rfl rfl (gD rfl rfl rfl ?_)))))
   refine cB rfl rfl rfl (bQ (k) eM rfl rfl rfl ((R'.mem M2).below_len (aJ aF hyb)) ((R'.mem M2).someK (aJ aF hyb))) (cB rfl rfl rfl (dL _ bN (R'.mem M2) (aJ aF hyb) rfl) (aY rfl rfl rfl (fun _ => bDr (aQu xb yb) rfl rfl) (cF (aC ?_))))
   refine aW rfl (fun h25 => ?_) (fun h25 => ?_)
   ·refine aD (aA (wq (aI (.bool false) rfl) rfl (aB (aC (aN (gZ (cC (nL ?_))))))))
    refine gZ (cC (cA (.bool false) rfl ?_))
    exact ⟨bF (fun e => h25 (by rw [e] at hxb; rw [hxb] at hyb; injection hyb)), M2.below⟩
   ·refine aL (cV (aC (aA (aV rfl rfl (wq (bM rfl rfl (by omega) (by omega)) rfl (bI rfl rfl ?_))))))
    refine aB ?_
    refine cQ (k + 1) (bK rfl eV) (cU rfl (cU rfl jW)) ?_ ?_
    ·exact ⟨⟨by omega, nI (p := fun j x => ys[j]? = some x) hne hxb (by rw [hyb, Decidable.not_not.1 h25])⟩, M2⟩
    ·omega
  ·refine cN (cX (cW (eT (aC (aD (aA (wq (aI (.bool true) rfl) rfl ?_)))))))
   refine aB (aC (aN (cA (.bool true) rfl ?_)))
   exact ⟨bT (List.ext_getElem? fun j => by
   by_cases hj : j < xs.length
   ·obtain ⟨x, hx⟩ := cE (k := j) rfl hj
    rw [hx, hne j x (by omega) hx]
   ·rw [List.getElem?_eq_none (by omega), List.getElem?_eq_none (by omega)]), hM1.below⟩
set_option maxHeartbeats 4000000 in
theorem pC (w : World) (x y l : Int) (h0 : 0 ≤ l) (h1 : l ≤ 2147483647) :
  Calls Tryz.prog 124 #[.agg [.int .i32 x, .int .i32 y].toArray, .int .i32 l] w (fun ex w' => ∃ v, ex = .returned v ∧ (fun v w' => v = .bool (decide (-l ≤ x ∧ x ≤ l ∧ -l ≤ y ∧ y ≤ l)) ∧ Below w.heap.size w w') v w') := by
 have hneg : IntKind.i32.wrap (-l) = -l := lL _ (by omega) (by omega)
 refine aH #[.tmp 4] 29 Tryz.func124 rfl Tryz.results124 Tryz.ntmps124 rfl ?_
 have M0 := Mem.refl w
 refine aD (aA (bJ (.agg (List.toArray _)) M0 rfl rfl rfl (fun b1 w1 M1 => (wq (aI (.bool false) rfl) rfl (aB (aC (aD (aA (aV rfl rfl (wq (aAp rfl) rfl ?_))))))))))
 refine aS 6 (.int .i32 (-l)) (iE hneg) (wq (aE 0 dT rfl) rfl (wq (aM 0 (.int _ _) aU M1 rfl rfl rfl) rfl (cS rfl rfl rfl rfl (wq (aG (.bool (decide _)) rfl) rfl ?_))))
 refine dA 10 rfl (fun g10 => ?_) (fun g10 => ?_)
 ·refine wq (aE 0 dT rfl) rfl (wq (aM 0 (.int _ _) aU M1 rfl rfl rfl) rfl (aV rfl rfl (cS rfl rfl rfl rfl (wq (bL true (.bool (decide _)) rfl rfl) rfl (wq (aG (.bool (decide _)) rfl) rfl ?_)))))
  refine dA 16 rfl (fun g16 => ?_) (fun g16 => ?_)
  ·refine aV rfl rfl (wq (aAp rfl) rfl (aS 18 (.int .i32 (-l)) (iE hneg) (wq (aE 1 dK rfl) rfl (wq (aM 0 (.int _ _) aU M1 rfl rfl rfl) rfl (cS rfl rfl rfl rfl ?_)))))
   refine wq (bL true (.bool (decide _)) rfl rfl) rfl (wq (aG (.bool (decide _)) rfl) rfl ?_)
   refine dA 23 rfl (fun g23 => ?_) (fun g23 => ?_)
   ·refine wq (aE 1 dK rfl) rfl (wq (aM 0 (.int _ _) aU M1 rfl rfl rfl) rfl (aV rfl rfl (cS rfl rfl rfl rfl (wq (bL true (.bool (decide _)) rfl rfl) rfl (wq (aI (.bool (decide _)) rfl) rfl ?_)))))
    refine aB (aC (aN (cA (.bool (decide _)) rfl ?_)))
    exact ⟨by first | exact bF (by omega) | exact bT (by omega) | exact bD (by omega), M1.below⟩
   ·refine aP rfl rfl (aP rfl rfl (aP rfl rfl (aP rfl rfl (wq (bL false (.bool false) rfl rfl) rfl (wq (aI (.bool false) rfl) rfl ?_)))))
    refine aB (aC (aN (cA (.bool false) rfl ?_)))
    exact ⟨by first | exact bF (by omega) | exact bT (by omega) | exact bD (by omega), M1.below⟩
  ·refine aP rfl rfl (aP rfl rfl (aP rfl rfl (aP rfl rfl (aP rfl rfl (wq (bL false (.bool false) rfl rfl) rfl ?_)))))
   refine wq (aG (.bool false) rfl) rfl (aP rfl rfl (aP rfl rfl (aP rfl rfl (aP rfl rfl (wq (bL false (.bool false) rfl rfl) rfl ?_)))))
   refine wq (aI (.bool false) rfl) rfl (aB (aC (aN (cA (.bool false) rfl ?_))))
   exact ⟨by first | exact bF (by omega) | exact bT (by omega) | exact bD (by omega), M1.below⟩
 ·refine aP rfl rfl (aP rfl rfl (aP rfl rfl (aP rfl rfl (wq (bL false (.bool false) rfl rfl) rfl (wq (aG (.bool false) rfl) rfl ?_)))))
  refine aP rfl rfl (aP rfl rfl (aP rfl rfl (aP rfl rfl (aP rfl rfl (wq (bL false (.bool false) rfl rfl) rfl ?_)))))
  refine wq (aG (.bool false) rfl) rfl (aP rfl rfl (aP rfl rfl (aP rfl rfl (aP rfl rfl (wq (bL false (.bool false) rfl rfl) rfl ?_)))))
  refine wq (aI (.bool false) rfl) rfl (aB (aC (aN (cA (.bool false) rfl ?_))))
  exact ⟨by first | exact bF (by omega) | exact bT (by omega) | exact bD (by omega), M1.below⟩
set_option maxHeartbeats 4000000 in
theorem aFu (w : World) (b : Body) (p : Nat) (R : Rd w 10 (some ⟨p, 0, none⟩) 1 [aF b]) :
  Calls Tryz.prog 122 #[.pointer (some ⟨p, 0, none⟩)] w (fun ex w' => ∃ v, ex = .returned v ∧ (fun v w' => v = .bool (decide (4096 ≤ b.radius ∧ b.radius ≤ 4194304)) ∧ Below w.heap.size w w') v w') := by
 rw [← eN p]
 refine aH #[.tmp 1] 10 Tryz.func122 rfl Tryz.results122 Tryz.ntmps122 rfl ?_
 have M0 := Mem.refl w
 refine aD (aA (wq (aI (.bool false) rfl) rfl (aB (aC (aD (aA (wq (bP 1 nB R (Nat.lt_of_le_of_lt (Nat.zero_le _) (R.below_len (show [aF b][0]? = some (aF b) from rfl))) rfl) rfl (wq (eJ (o := 1) (.int _ _) aU R (show [aF b][0]? = some (aF b) from rfl) rfl rfl) rfl ?_))))))))
 refine cS rfl rfl rfl rfl (wq (aG (.bool (decide _)) rfl) rfl ?_)
 refine dA 5 rfl (fun g5 => ?_) (fun g5 => ?_)
 ·refine wq (bP 1 nB R (Nat.lt_of_le_of_lt (Nat.zero_le _) (R.below_len (show [aF b][0]? = some (aF b) from rfl))) rfl) rfl (wq (eJ (o := 1) (.int _ _) aU R (show [aF b][0]? = some (aF b) from rfl) rfl rfl) rfl (cS rfl rfl rfl rfl (wq (bL true (.bool (decide _)) rfl rfl) rfl ?_)))
  refine wq (aI (.bool (decide _)) rfl) rfl (aB (aC (aN (cA (.bool (decide _)) rfl ?_))))
  exact ⟨by first | exact bF (by omega) | exact bT (by omega) | exact bD (by omega), M0.below⟩
 ·refine aP rfl rfl (aP rfl rfl (aP rfl rfl (wq (bL false (.bool false) rfl rfl) rfl (wq (aI (.bool false) rfl) rfl (aB (aC (aN ?_)))))))
  refine cA (.bool false) rfl ?_
  exact ⟨by first | exact bF (by omega) | exact bT (by omega) | exact bD (by omega), M0.below⟩
set_option maxHeartbeats 4000000 in
theorem aEs (w : World) (b : Body) (p : Nat) (R : Rd w 10 (some ⟨p, 0, none⟩) 1 [aF b]) :
  Calls Tryz.prog 123 #[.pointer (some ⟨p, 0, none⟩)] w (fun ex w' => ∃ v, ex = .returned v ∧ (fun v w' => v = .bool (decide (-4194304 ≤ b.ax ∧ b.ax ≤ 4194304 ∧ -4194304 ≤ b.ay ∧ b.ay ≤ 4194304)) ∧ Below w.heap.size w w') v w') := by
 rw [← eN p]
 refine aH #[.tmp 1] 5 Tryz.func123 rfl Tryz.results123 Tryz.ntmps123 rfl ?_
 have M0 := Mem.refl w
 refine aD (aA (wq (aI (.bool false) rfl) rfl (aB (aC (aD (aA (wq (bP 2 kK R (Nat.lt_of_le_of_lt (Nat.zero_le _) (R.below_len (show [aF b][0]? = some (aF b) from rfl))) rfl) rfl (wq (xN (o := 2) _ bH R (show [aF b][0]? = some (aF b) from rfl) rfl rfl rfl) rfl ?_))))))))
 refine bX aIm rfl rfl (pC _ _ _ _ (by omega) (by omega)) ?_
 rintro v1 w1 ⟨rfl, hb1⟩
 have M1 := M0.callB hb1
 refine wq (aI (.bool (decide _)) rfl) rfl (aB (aC (aN (cA (.bool (decide _)) rfl ?_))))
 exact ⟨by first | exact bF (by omega) | exact bT (by omega) | exact bD (by omega), M1.below⟩
set_option maxHeartbeats 4000000 in
theorem aGb (w : World) (b : Body) (p : Nat) (R : Rd w 10 (some ⟨p, 0, none⟩) 1 [aF b]) :
  Calls Tryz.prog 125 #[.pointer (some ⟨p, 0, none⟩)] w (fun ex w' => ∃ v, ex = .returned v ∧ (fun v w' => v = .bool (decide (0 ≤ b.mass ∧ b.mass ≤ 1048576)) ∧ Below w.heap.size w w') v w') := by
 rw [← eN p]
 refine aH #[.tmp 1] 10 Tryz.func125 rfl Tryz.results125 Tryz.ntmps125 rfl ?_
 have M0 := Mem.refl w
 refine aD (aA (wq (aI (.bool false) rfl) rfl (aB (aC (aD (aA (wq (bP 4 fE R (Nat.lt_of_le_of_lt (Nat.zero_le _) (R.below_len (show [aF b][0]? = some (aF b) from rfl))) rfl) rfl (wq (eJ (o := 4) (.int _ _) aU R (show [aF b][0]? = some (aF b) from rfl) rfl rfl) rfl ?_))))))))
 refine cS rfl rfl rfl rfl (wq (aG (.bool (decide _)) rfl) rfl ?_)
 refine dA 5 rfl (fun g5 => ?_) (fun g5 => ?_)
 ·refine wq (bP 4 fE R (Nat.lt_of_le_of_lt (Nat.zero_le _) (R.below_len (show [aF b][0]? = some (aF b) from rfl))) rfl) rfl (wq (eJ (o := 4) (.int _ _) aU R (show [aF b][0]? = some (aF b) from rfl) rfl rfl) rfl (cS rfl rfl rfl rfl (wq (bL true (.bool (decide _)) rfl rfl) rfl ?_)))
  refine wq (aI (.bool (decide _)) rfl) rfl (aB (aC (aN (cA (.bool (decide _)) rfl ?_))))
  exact ⟨by first | exact bF (by omega) | exact bT (by omega) | exact bD (by omega), M0.below⟩
 ·refine aP rfl rfl (aP rfl rfl (aP rfl rfl (wq (bL false (.bool false) rfl rfl) rfl (wq (aI (.bool false) rfl) rfl (aB (aC (aN ?_)))))))
  refine cA (.bool false) rfl ?_
  exact ⟨by first | exact bF (by omega) | exact bT (by omega) | exact bD (by omega), M0.below⟩
set_option maxHeartbeats 4000000 in
theorem aFz (w : World) (b : Body) (p : Nat) (R : Rd w 10 (some ⟨p, 0, none⟩) 1 [aF b]) :
  Calls Tryz.prog 126 #[.pointer (some ⟨p, 0, none⟩)] w (fun ex w' => ∃ v, ex = .returned v ∧ (fun v w' => v = .bool (decide (0 ≤ b.bounce ∧ b.bounce ≤ 65536)) ∧ Below w.heap.size w w') v w') := by
 rw [← eN p]
 refine aH #[.tmp 1] 10 Tryz.func126 rfl Tryz.results126 Tryz.ntmps126 rfl ?_
 have M0 := Mem.refl w
 refine aD (aA (wq (aI (.bool false) rfl) rfl (aB (aC (aD (aA (wq (bP 5 sF R (Nat.lt_of_le_of_lt (Nat.zero_le _) (R.below_len (show [aF b][0]? = some (aF b) from rfl))) rfl) rfl (wq (eJ (o := 5) (.int _ _) aU R (show [aF b][0]? = some (aF b) from rfl) rfl rfl) rfl ?_))))))))
 refine cS rfl rfl rfl rfl (wq (aG (.bool (decide _)) rfl) rfl ?_)
 refine dA 5 rfl (fun g5 => ?_) (fun g5 => ?_)
 ·refine wq (bP 5 sF R (Nat.lt_of_le_of_lt (Nat.zero_le _) (R.below_len (show [aF b][0]? = some (aF b) from rfl))) rfl) rfl (wq (eJ (o := 5) (.int _ _) aU R (show [aF b][0]? = some (aF b) from rfl) rfl rfl) rfl (cS rfl rfl rfl rfl (wq (bL true (.bool (decide _)) rfl rfl) rfl ?_)))
  refine wq (aI (.bool (decide _)) rfl) rfl (aB (aC (aN (cA (.bool (decide _)) rfl ?_))))
  exact ⟨by first | exact bF (by omega) | exact bT (by omega) | exact bD (by omega), M0.below⟩
 ·refine aP rfl rfl (aP rfl rfl (aP rfl rfl (wq (bL false (.bool false) rfl rfl) rfl (wq (aI (.bool false) rfl) rfl (aB (aC (aN ?_)))))))
  refine cA (.bool false) rfl ?_
  exact ⟨by first | exact bF (by omega) | exact bT (by omega) | exact bD (by omega), M0.below⟩
set_option maxHeartbeats 4000000 in
theorem aEw (w : World) (b : Body) (p : Nat) (R : Rd w 10 (some ⟨p, 0, none⟩) 1 [aF b]) :
  Calls Tryz.prog 127 #[.pointer (some ⟨p, 0, none⟩)] w (fun ex w' => ∃ v, ex = .returned v ∧ (fun v w' => v = .bool (decide (-1073741824 ≤ b.px ∧ b.px ≤ 1073741824 ∧ -1073741824 ≤ b.py ∧ b.py ≤ 1073741824)) ∧ Below w.heap.size w w') v w') := by
 rw [← eN p]
 refine aH #[.tmp 1] 5 Tryz.func127 rfl Tryz.results127 Tryz.ntmps127 rfl ?_
 have M0 := Mem.refl w
 refine aD (aA (wq (aI (.bool false) rfl) rfl (aB (aC (aD (aA (wq (bP 6 fX R (Nat.lt_of_le_of_lt (Nat.zero_le _) (R.below_len (show [aF b][0]? = some (aF b) from rfl))) rfl) rfl (wq (xN (o := 6) _ bH R (show [aF b][0]? = some (aF b) from rfl) rfl rfl rfl) rfl ?_))))))))
 refine bX aIm rfl rfl (pC _ _ _ _ (by omega) (by omega)) ?_
 rintro v1 w1 ⟨rfl, hb1⟩
 have M1 := M0.callB hb1
 refine wq (aI (.bool (decide _)) rfl) rfl (aB (aC (aN (cA (.bool (decide _)) rfl ?_))))
 exact ⟨by first | exact bF (by omega) | exact bT (by omega) | exact bD (by omega), M1.below⟩
set_option maxHeartbeats 4000000 in
theorem aGq (w : World) (b : Body) (p : Nat) (R : Rd w 10 (some ⟨p, 0, none⟩) 1 [aF b]) :
  Calls Tryz.prog 128 #[.pointer (some ⟨p, 0, none⟩)] w (fun ex w' => ∃ v, ex = .returned v ∧ (fun v w' => v = .bool (decide (-16777216 ≤ b.vx ∧ b.vx ≤ 16777216 ∧ -16777216 ≤ b.vy ∧ b.vy ≤ 16777216)) ∧ Below w.heap.size w w') v w') := by
 rw [← eN p]
 refine aH #[.tmp 1] 5 Tryz.func128 rfl Tryz.results128 Tryz.ntmps128 rfl ?_
 have M0 := Mem.refl w
 refine aD (aA (wq (aI (.bool false) rfl) rfl (aB (aC (aD (aA (wq (bP 8 fD R (Nat.lt_of_le_of_lt (Nat.zero_le _) (R.below_len (show [aF b][0]? = some (aF b) from rfl))) rfl) rfl (wq (xN (o := 8) _ bH R (show [aF b][0]? = some (aF b) from rfl) rfl rfl rfl) rfl ?_))))))))
 refine bX aIm rfl rfl (pC _ _ _ _ (by omega) (by omega)) ?_
 rintro v1 w1 ⟨rfl, hb1⟩
 have M1 := M0.callB hb1
 refine wq (aI (.bool (decide _)) rfl) rfl (aB (aC (aN (cA (.bool (decide _)) rfl ?_))))
 exact ⟨by first | exact bF (by omega) | exact bT (by omega) | exact bD (by omega), M1.below⟩
set_option maxHeartbeats 4000000 in
theorem qT (w : World) (b : Body) :
  Calls Tryz.prog 98 #[(.agg (aF b).toArray)] w (fun ex w' => ∃ v, ex = .returned v ∧ (fun v w' => v = .int .i64 (check b) ∧ Below w.heap.size w w') v w') := by
 refine aH #[.tmp 2] 28 Tryz.func98 rfl Tryz.results98 Tryz.ntmps98 rfl ?_
 have M0 := Mem.refl w
 refine aD (aA (bJ (.agg (List.toArray _)) M0 rfl rfl rfl (fun b1 w1 M1 => (bI rfl rfl (aB (aC (aD (aD (aA (wq (cP [] [.pointer _] rfl rfl) rfl (wq (cM [(0, .func _ _ _), (1, .int _ _)] _ kO rfl rfl) rfl ?_)))))))))))
 refine wq (cP [] [.pointer _] rfl rfl) rfl (wq (cM [(0, .func _ _ _), (1, .int _ _)] _ kO rfl rfl) rfl (wq (cP [] [.pointer _] rfl rfl) rfl (wq (cM [(0, .func _ _ _), (1, .int _ _)] _ kO rfl rfl) rfl (wq (cP [] [.pointer _] rfl rfl) rfl (wq (cM [(0, .func _ _ _), (1, .int _ _)] _ kO rfl rfl) rfl ?_)))))
 refine wq (cP [] [.pointer _] rfl rfl) rfl (wq (cM [(0, .func _ _ _), (1, .int _ _)] _ kO rfl rfl) rfl (wq (cP [] [.pointer _] rfl rfl) rfl (wq (cM [(0, .func _ _ _), (1, .int _ _)] _ kO rfl rfl) rfl (wq (oD [.agg (List.toArray _), .agg (List.toArray _), .agg (List.toArray _), .agg (List.toArray _), .agg (List.toArray _), .agg (List.toArray _)] qX aXe rfl rfl (dH rfl)) rfl ?_))))
 refine aV rfl rfl (aB (aC (aT (lE 7 (gX (aD (aA (cS rfl rfl rfl rfl (lC 19 rfl (by first | decide | omega) ?_)))))))))
 refine aB (aC (aD (cO rfl (aL (aC (aD (aT (aD (aA (wq (mC 0 _ qX kI rfl rfl (by decide) (by decide) rfl rfl) rfl (aR pH M1 rfl rfl (fun b2 w2 M2 => (bB 1 _ kI M2 rfl rfl rfl rfl rfl (aQ rfl) rfl (fun w3 M3 => ?_))))))))))))))
 refine aB (aC (aD (aA (wq (aE 0 mI rfl) rfl (wq (aM 1 (.func _ _ _) aAi M3 rfl rfl rfl) rfl (bX bAj rfl rfl (aFu _ b _ (lO 0 M3 rfl rfl)) ?_))))))
 rintro v4 w4 ⟨rfl, hb4⟩
 have M4 := M3.callB hb4
 refine wq (qQ rfl) rfl (aB (aC ?_))
 refine aW rfl (fun h24 => ?_) (fun h24 => ?_)
 ·refine aD (aA (wq (aE 1 mF rfl) rfl (wq (aM 1 (.int _ _) aBw M4 rfl rfl rfl) rfl (bI rfl rfl (aB (aC (aN (gZ ?_))))))))
  refine cC (cC (gZ (cC (cA (.int _ _) rfl ?_))))
  exact ⟨iE (aKv b (by omega)).symm, M4.below⟩
 ·refine aL (cV (aC (aA (wq (bM rfl rfl (by first | decide | omega) (by first | decide | omega)) rfl (aS 27 (.int .i64 1) (iE (by first | decide | omega)) (aV rfl rfl ?_))))))
  refine aB (aC (gX (aD (aA (cS rfl rfl rfl rfl (lC 19 rfl (by first | decide | omega) (aB (aC (aD ?_)))))))))
  refine cO rfl (aL (aC (aD (aT (aD (aA (wq (mC 1 _ qX kI rfl rfl (by decide) (by decide) rfl rfl) rfl (aR pH M4 rfl rfl (fun b5 w5 M5 => (bB 2 _ kI M5 rfl rfl rfl rfl rfl (aQ rfl) rfl (fun w6 M6 => (aB (aC (aD (aA ?_)))))))))))))))
  refine wq (aE 0 mI rfl) rfl (wq (aM 2 (.func _ _ _) aAi M6 rfl rfl rfl) rfl (bX aZu rfl rfl (aEs _ b _ (lO 0 M6 rfl rfl)) ?_))
  rintro v7 w7 ⟨rfl, hb7⟩
  have M7 := M6.callB hb7
  refine wq (qQ rfl) rfl (aB (aC ?_))
  refine aW rfl (fun h24 => ?_) (fun h24 => ?_)
  ·refine aD (aA (wq (aE 1 mF rfl) rfl (wq (aM 2 (.int _ _) aBw M7 rfl rfl rfl) rfl (bI rfl rfl (aB (aC (aN (gZ ?_))))))))
   refine cC (cC (gZ (cC (cA (.int _ _) rfl ?_))))
   exact ⟨iE (aLj b (by omega) (by omega)).symm, M7.below⟩
  ·refine aL (cV (aC (aA (wq (bM rfl rfl (by first | decide | omega) (by first | decide | omega)) rfl (aS 27 (.int .i64 2) (iE (by first | decide | omega)) (aV rfl rfl ?_))))))
   refine aB (aC (gX (aD (aA (cS rfl rfl rfl rfl (lC 19 rfl (by first | decide | omega) (aB (aC (aD ?_)))))))))
   refine cO rfl (aL (aC (aD (aT (aD (aA (wq (mC 2 _ qX kI rfl rfl (by decide) (by decide) rfl rfl) rfl (aR pH M7 rfl rfl (fun b8 w8 M8 => (bB 3 _ kI M8 rfl rfl rfl rfl rfl (aQ rfl) rfl (fun w9 M9 => (aB (aC (aD (aA ?_)))))))))))))))
   refine wq (aE 0 mI rfl) rfl (wq (aM 3 (.func _ _ _) aAi M9 rfl rfl rfl) rfl (bX bBg rfl rfl (aGb _ b _ (lO 0 M9 rfl rfl)) ?_))
   rintro v10 w10 ⟨rfl, hb10⟩
   have M10 := M9.callB hb10
   refine wq (qQ rfl) rfl (aB (aC ?_))
   refine aW rfl (fun h24 => ?_) (fun h24 => ?_)
   ·refine aD (aA (wq (aE 1 mF rfl) rfl (wq (aM 3 (.int _ _) aBw M10 rfl rfl rfl) rfl (bI rfl rfl (aB (aC (aN (gZ ?_))))))))
    refine cC (cC (gZ (cC (cA (.int _ _) rfl ?_))))
    exact ⟨iE (aMi b (by omega) (by omega) (by omega)).symm, M10.below⟩
   ·refine aL (cV (aC (aA (wq (bM rfl rfl (by first | decide | omega) (by first | decide | omega)) rfl (aS 27 (.int .i64 3) (iE (by first | decide | omega)) (aV rfl rfl ?_))))))
    refine aB (aC (gX (aD (aA (cS rfl rfl rfl rfl (lC 19 rfl (by first | decide | omega) (aB (aC (aD ?_)))))))))
    refine cO rfl (aL (aC (aD (aT (aD (aA (wq (mC 3 _ qX kI rfl rfl (by decide) (by decide) rfl rfl) rfl (aR pH M10 rfl rfl (fun b11 w11 M11 => (bB 4 _ kI M11 rfl rfl rfl rfl rfl (aQ rfl) rfl (fun w12 M12 => (aB (aC (aD (aA ?_)))))))))))))))
    refine wq (aE 0 mI rfl) rfl (wq (aM 4 (.func _ _ _) aAi M12 rfl rfl rfl) rfl (bX bCa rfl rfl (aFz _ b _ (lO 0 M12 rfl rfl)) ?_))
    rintro v13 w13 ⟨rfl, hb13⟩
    have M13 := M12.callB hb13
    refine wq (qQ rfl) rfl (aB (aC ?_))
    refine aW rfl (fun h24 => ?_) (fun h24 => ?_)
    ·refine aD (aA (wq (aE 1 mF rfl) rfl (wq (aM 4 (.int _ _) aBw M13 rfl rfl rfl) rfl (bI rfl rfl (aB (aC (aN (gZ ?_))))))))
     refine cC (cC (gZ (cC (cA (.int _ _) rfl ?_))))
     exact ⟨iE (aMh b (by omega) (by omega) (by omega) (by omega)).symm, M13.below⟩
    ·refine aL (cV (aC (aA (wq (bM rfl rfl (by first | decide | omega) (by first | decide | omega)) rfl (aS 27 (.int .i64 4) (iE (by first | decide | omega)) (aV rfl rfl ?_))))))
     refine aB (aC (gX (aD (aA (cS rfl rfl rfl rfl (lC 19 rfl (by first | decide | omega) (aB (aC (aD ?_)))))))))
     refine cO rfl (aL (aC (aD (aT (aD (aA (wq (mC 4 _ qX kI rfl rfl (by decide) (by decide) rfl rfl) rfl (aR pH M13 rfl rfl (fun b14 w14 M14 => (bB 5 _ kI M14 rfl rfl rfl rfl rfl (aQ rfl) rfl (fun w15 M15 => (aB (aC (aD (aA ?_)))))))))))))))
     refine wq (aE 0 mI rfl) rfl (wq (aM 5 (.func _ _ _) aAi M15 rfl rfl rfl) rfl (bX bAe rfl rfl (aEw _ b _ (lO 0 M15 rfl rfl)) ?_))
     rintro v16 w16 ⟨rfl, hb16⟩
     have M16 := M15.callB hb16
     refine wq (qQ rfl) rfl (aB (aC ?_))
     refine aW rfl (fun h24 => ?_) (fun h24 => ?_)
     ·refine aD (aA (wq (aE 1 mF rfl) rfl (wq (aM 5 (.int _ _) aBw M16 rfl rfl rfl) rfl (bI rfl rfl (aB (aC (aN (gZ ?_))))))))
      refine cC (cC (gZ (cC (cA (.int _ _) rfl ?_))))
      exact ⟨iE (aKq b (by omega) (by omega) (by omega) (by omega) (by omega)).symm, M16.below⟩
     ·refine aL (cV (aC (aA (wq (bM rfl rfl (by first | decide | omega) (by first | decide | omega)) rfl (aS 27 (.int .i64 5) (iE (by first | decide | omega)) (aV rfl rfl ?_))))))
      refine aB (aC (gX (aD (aA (cS rfl rfl rfl rfl (lC 19 rfl (by first | decide | omega) (aB (aC (aD ?_)))))))))
      refine cO rfl (aL (aC (aD (aT (aD (aA (wq (mC 5 _ qX kI rfl rfl (by decide) (by decide) rfl rfl) rfl (aR pH M16 rfl rfl (fun b17 w17 M17 => (bB 6 _ kI M17 rfl rfl rfl rfl rfl (aQ rfl) rfl (fun w18 M18 => (aB (aC (aD (aA ?_)))))))))))))))
      refine wq (aE 0 mI rfl) rfl (wq (aM 6 (.func _ _ _) aAi M18 rfl rfl rfl) rfl (bX bCi rfl rfl (aGq _ b _ (lO 0 M18 rfl rfl)) ?_))
      rintro v19 w19 ⟨rfl, hb19⟩
      have M19 := M18.callB hb19
      refine wq (qQ rfl) rfl (aB (aC ?_))
      refine aW rfl (fun h24 => ?_) (fun h24 => ?_)
      ·refine aD (aA (wq (aE 1 mF rfl) rfl (wq (aM 6 (.int _ _) aBw M19 rfl rfl rfl) rfl (bI rfl rfl (aB (aC (aN (gZ ?_))))))))
       refine cC (cC (gZ (cC (cA (.int _ _) rfl ?_))))
       exact ⟨iE (aLc b (by omega) (by omega) (by omega) (by omega) (by omega) (by omega)).symm, M19.below⟩
      ·refine aL (cV (aC (aA (wq (bM rfl rfl (by first | decide | omega) (by first | decide | omega)) rfl (aS 27 (.int .i64 6) (iE (by first | decide | omega)) (aV rfl rfl ?_))))))
       refine aB (aC (gX (aD (aA (cS rfl rfl rfl rfl (uQ 19 rfl (by first | decide | omega) (aB (aC (aD ?_)))))))))
       refine cD rfl (cN (cX (cX (eT (aC (aD (aA (bI rfl rfl ?_))))))))
       refine aB (aC (aN (cA (.int _ _) rfl ?_)))
       exact ⟨iE (aWx b (by omega) (by omega) (by omega) (by omega) (by omega) (by omega)).symm, M19.below⟩
set_option maxHeartbeats 4000000 in
theorem uJ (w : World) (x : Int) :
  Calls Tryz.prog 121 #[.int .u32 x] w (fun ex w' => ∃ v, ex = .returned v ∧ (fun v w' => v = .bool false ∧ w' = w) v w') := by
 refine aH #[.tmp 2] 6 Tryz.func121 rfl Tryz.results121 Tryz.ntmps121 rfl ?_
 have M0 := Mem.refl w
 refine aD (aA (wq (aI (.bool false) rfl) rfl (aB (aC (aD (aA (aV rfl rfl (aV rfl rfl (cS rfl rfl rfl rfl ?_)))))))))
 refine wq (aI (.bool (decide _)) rfl) rfl (aB (aC (aN (cA (.bool (decide _)) rfl ?_))))
 exact ⟨(bF (by omega)).symm, rfl⟩
set_option maxHeartbeats 4000000 in
theorem jX (w : World) (x y : Int) :
  Calls Tryz.prog 97 #[.int .u32 x, .int .u32 y] w (fun ex w' => ∃ v, ex = .returned v ∧ (fun v w' => v = .int .i64 (lD x y) ∧ w' = w) v w') := by
 refine aH #[.tmp 4] 20 Tryz.func97 rfl Tryz.results97 Tryz.ntmps97 rfl ?_
 have M0 := Mem.refl w
 refine aD (aA (bI rfl rfl (aB (aC (aD (aA (aV rfl rfl (bX aSn rfl rfl (uJ _ _) ?_))))))))
 rintro v1 w1 ⟨rfl, rfl⟩
 have M1 : Mem _ _ [] _ := M0
 refine wq (aI (.bool false) rfl) rfl (aB (aC (aD (aA (aV rfl rfl (bX aSn rfl rfl (uJ _ _) ?_))))))
 rintro v2 w2 ⟨rfl, rfl⟩
 have M2 : Mem _ _ [] _ := M1
 refine wq (aI (.bool false) rfl) rfl (aB (aC (aD (aD (aA (wq (aG (.bool false) rfl) rfl (aB (aC (cD rfl (aL (aC (aD (aD (aA ?_))))))))))))))
 refine wq (aG (.bool false) rfl) rfl (aB (aC (cD rfl (aL (aC (aD (aD (aA (aV rfl rfl (aV rfl rfl ?_))))))))))
 refine cS rfl rfl rfl rfl (aB (aC ?_))
 refine aW rfl (fun h16 => ?_) (fun h16 => ?_)
 ·refine aD (aA (bI rfl rfl (aB (aC (aN (cC (cA (.int _ _) rfl ?_)))))))
  exact ⟨iE (by unfold lD; (repeat' split) <;> omega), rfl⟩
 ·refine aL (aC (aD (aD (aA (aV rfl rfl (aV rfl rfl (cS rfl rfl rfl rfl (aB (aC ?_)))))))))
  refine aW rfl (fun h19 => ?_) (fun h19 => ?_)
  ·refine aD (aA (bI rfl rfl (aB (aC (aN (cC (cA (.int _ _) rfl ?_)))))))
   exact ⟨iE (by unfold lD; (repeat' split) <;> omega), rfl⟩
  ·refine aL (aC (aD (aA (bI rfl rfl (aB (aC (aN (cA (.int _ _) rfl ?_))))))))
   exact ⟨iE (by unfold lD; (repeat' split) <;> omega), rfl⟩
set_option maxHeartbeats 4000000 in
theorem zV (a b : Body) (w : World) :
  Calls Tryz.prog 96 #[(.agg (aF a).toArray), (.agg (aF b).toArray)] w (fun ex w' => ∃ v, ex = .returned v ∧ (fun v w' => v = .int .i64 (lD a.key b.key) ∧ ∃ q os, w' = Go.Sort.grow (w.drewN q) os) v w') := by
 refine aH #[.tmp 4] 10 Tryz.func96 rfl Tryz.results96 Tryz.ntmps96 rfl ?_
 have M0 := Mem.refl w
 refine aD (aA (vS (.agg (List.toArray _)) M0 rfl rfl rfl (fun M1 => (vS (.agg (List.toArray _)) M1 rfl rfl rfl (fun M2 => (bI rfl rfl (aB (aC (aD (aA (wq (aE 0 eK rfl) rfl ?_)))))))))))
 refine wq (aM 0 (.int _ _) bW M2 rfl rfl rfl) rfl (wq (aE 0 eK rfl) rfl (wq (aM 1 (.int _ _) bW M2 rfl rfl rfl) rfl (bX aLw rfl rfl (jX _ _ _) ?_)))
 rintro v3 w3 ⟨rfl, rfl⟩
 have M3 : Mem _ _ [_, _] _ := M2
 refine bI rfl rfl (aB (aC (aN (cA (.int _ _) rfl ?_))))
 exact ⟨rfl, bEj _ _ _⟩
set_option maxHeartbeats 4000000 in
theorem zY (w : World) (A : Option Addr) (n c : Nat) (ls : List (List Value)) (R : Rd w 10 A n ls) (h1 : ∀ y ∈ ls, ∀ u ∈ y, one u = true) (hn : n ≤ 1048576) :
  Calls Tryz.prog 49 #[.slice A n c] w (fun ex w' => ∃ v, ex = .returned v ∧ (fun v w' => ∃ A' n' c' e, v = .slice A' n' c' ∧ aX 40 10 A' n' c' ls e ∧ Mem w [] [e] w' ∧ A'.isSome = A.isSome) v w') := by
 refine aH #[.tmp 2] 8 Tryz.func49 rfl Tryz.results49 Tryz.ntmps49 rfl ?_
 have M0 := Mem.refl w
 refine aD (aA (gB rfl rfl (aB (aC (aD (aD (aA (eF rfl rfl (wq (aCs _ Tryz.underlying22 rfl rfl) rfl (aB (aC ?_)))))))))))
 refine gP _ rfl (fun h4 => ?_) (fun h4 => ?_)
 ·refine aD (aA (gB rfl rfl (aB (aC (aN (cC (cA (.slice _ _ _) rfl ?_)))))))
  have hA : A = none := by cases A <;> simp_all
  have hl : ls = [] := by
   rcases Nat.eq_zero_or_pos n with h | h
   ·subst h; exact List.eq_nil_of_length_eq_zero R.len
   ·have := R.some h; rw [hA] at this; cases this
  subst hA; subst hl
  exact ⟨_, _, _, _, rfl, aX.nil 40 10 default, M0.dummy default, rfl⟩
 ·refine aL (aC (aD (aA (cZ [] [] rfl eM M0 rfl rfl rfl rfl (dH rfl) (by decide) (fun b1 w1 M1 => (eF rfl rfl (aIy 0 ls eM M1 rfl rfl rfl rfl rfl (aX.empty b1) (R.mem M1) h1 (by omega) (fun A2 c2 e2 w2 M2 hR2 hA2 => ?_))))))))
  have hAA := hA2
  refine gB rfl rfl (aB (aC (aN (cA (.slice _ _ _) rfl ?_))))
  refine ⟨_, _, _, _, rfl, by simpa using hR2, M2, ?_⟩
  rw [hAA rfl]; cases A <;> simp_all
end Go.Proofs.YtlmcphcgiclanaaGreatDoor
