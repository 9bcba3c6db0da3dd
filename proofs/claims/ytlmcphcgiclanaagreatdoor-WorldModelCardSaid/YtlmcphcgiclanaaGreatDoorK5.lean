/- Part of the proof of the laws of this seat: Ty, T26, T25, T20, T20r, T20l, T21, T22, R5, R6, Bd, Lib, St. No conditions. -/
import Derived.Test.YtlmcphcgiclanaaGreatDoorProg
import Derived.Test.YtlmcphcgiclanaaGreatDoorK2
import Derived.Test.YtlmcphcgiclanaaGreatDoorK3
import Derived.Test.YtlmcphcgiclanaaGreatDoorK4
import Derived.KernelRfl
set_option linter.unusedVariables false
set_option linter.unusedSimpArgs false
set_option linter.unnecessarySimpa false
namespace Go.Proofs.YtlmcphcgiclanaaGreatDoor
open Go.Bil
open Go.Proofs
theorem bU : jM Tryz.prog 36 = true := by kernel_rfl
theorem aR : jM Tryz.prog 21 = true := by kernel_rfl
theorem aQj : ∀ (d : Nat) (w : World) (x0 x1 y0 y1 : Int), (Op.equalIn (d + 2) 38 (.agg [.int .i32 x0, .int .i32 x1].toArray) (.agg [.int .i32 y0, .int .i32 y1].toArray)).run Tryz.prog w = .ok (decide (x0 = y0 ∧ x1 = y1)) w := fun d w x0 x1 y0 y1 => by
  have h := xB (P := Tryz.prog) (T := 38) (dd := d + 1) (xs := [.int .i32 x0, .int .i32 x1]) (ys := [.int .i32 y0, .int .i32 y1]) (w := w) Tryz.underlying38 (by kernel_rfl) (jW rfl (lO aR rfl) (lO aR rfl) (sH (dd := d + 0) Tryz.underlying21) (jW rfl (lO aR rfl) (lO aR rfl) (sH (dd := d + 0) Tryz.underlying21) (aHj)))
  refine h.trans (congrArg (fun r => Result.ok r w) ?_)
  simp only [Bool.decide_and, Bool.and_true, Bool.and_assoc]
theorem bI : jE Tryz.prog 38 = some 2 := by kernel_rfl
theorem bKi : ∀ (d : Nat) (w : World) (x0 x1 x2 x3 x4 x5 x6 x7 x8 x9 y0 y1 y2 y3 y4 y5 y6 y7 y8 y9 : Int), (Op.equalIn (d + 3) 40 (.agg [.int .u32 x0, .int .i32 x1, .int .i32 x2, .int .i32 x3, .int .i32 x4, .int .i32 x5, .int .i32 x6, .int .i32 x7, .int .i32 x8, .int .i32 x9].toArray) (.agg [.int .u32 y0, .int .i32 y1, .int .i32 y2, .int .i32 y3, .int .i32 y4, .int .i32 y5, .int .i32 y6, .int .i32 y7, .int .i32 y8, .int .i32 y9].toArray)).run Tryz.prog w = .ok (decide (x0 = y0 ∧ x1 = y1 ∧ x2 = y2 ∧ x3 = y3 ∧ x4 = y4 ∧ x5 = y5 ∧ x6 = y6 ∧ x7 = y7 ∧ x8 = y8 ∧ x9 = y9)) w := fun d w x0 x1 x2 x3 x4 x5 x6 x7 x8 x9 y0 y1 y2 y3 y4 y5 y6 y7 y8 y9 => by
  have h := xB (P := Tryz.prog) (T := 40) (dd := d + 2) (xs := [.int .u32 x0, .int .i32 x1, .int .i32 x2, .int .i32 x3, .int .i32 x4, .int .i32 x5, .int .i32 x6, .int .i32 x7, .int .i32 x8, .int .i32 x9]) (ys := [.int .u32 y0, .int .i32 y1, .int .i32 y2, .int .i32 y3, .int .i32 y4, .int .i32 y5, .int .i32 y6, .int .i32 y7, .int .i32 y8, .int .i32 y9]) (w := w) Tryz.underlying40 (by kernel_rfl) (jW rfl (lO bU rfl) (lO bU rfl) (sH (dd := d + 1) Tryz.underlying36) (jW rfl (lO aR rfl) (lO aR rfl) (sH (dd := d + 1) Tryz.underlying21) (jW rfl (aEc bI rfl) (aEc bI rfl) (aQj (d + 0) w x2 x3 y2 y3) (jW rfl (lO aR rfl) (lO aR rfl) (sH (dd := d + 1) Tryz.underlying21) (jW rfl (lO aR rfl) (lO aR rfl) (sH (dd := d + 1) Tryz.underlying21) (jW rfl (aEc bI rfl) (aEc bI rfl) (aQj (d + 0) w x6 x7 y6 y7) (jW rfl (aEc bI rfl) (aEc bI rfl) (aQj (d + 0) w x8 x9 y8 y9) (aHj))))))))
  refine h.trans (congrArg (fun r => Result.ok r w) ?_)
  simp only [Bool.decide_and, Bool.and_true, Bool.and_assoc]
theorem bLm : ∀ (x0 x1 x2 x3 x4 x5 x6 x7 x8 x9 y0 y1 y2 y3 y4 y5 y6 y7 y8 y9 : Int), EqA Tryz.prog 40 [.int .u32 x0, .int .i32 x1, .int .i32 x2, .int .i32 x3, .int .i32 x4, .int .i32 x5, .int .i32 x6, .int .i32 x7, .int .i32 x8, .int .i32 x9] [.int .u32 y0, .int .i32 y1, .int .i32 y2, .int .i32 y3, .int .i32 y4, .int .i32 y5, .int .i32 y6, .int .i32 y7, .int .i32 y8, .int .i32 y9] (decide (x0 = y0 ∧ x1 = y1 ∧ x2 = y2 ∧ x3 = y3 ∧ x4 = y4 ∧ x5 = y5 ∧ x6 = y6 ∧ x7 = y7 ∧ x8 = y8 ∧ x9 = y9)) := fun x0 x1 x2 x3 x4 x5 x6 x7 x8 x9 y0 y1 y2 y3 y4 y5 y6 y7 y8 y9 => ⟨by kernel_rfl, fun w => bKi 9997 w x0 x1 x2 x3 x4 x5 x6 x7 x8 x9 y0 y1 y2 y3 y4 y5 y6 y7 y8 y9⟩
theorem bK : jE Tryz.prog 40 = some 10 := by kernel_rfl
theorem bKt : aW Tryz.prog 96 = true := by kernel_rfl
theorem bHc : ∀ (d : Nat) (w : World) (x0 x1 y0 y1 : Int), (Op.equalIn (d + 2) 119 (.agg [.int .u32 x0, .int .u32 x1].toArray) (.agg [.int .u32 y0, .int .u32 y1].toArray)).run Tryz.prog w = .ok (decide (x0 = y0 ∧ x1 = y1)) w := fun d w x0 x1 y0 y1 => by
  have h := xB (P := Tryz.prog) (T := 119) (dd := d + 1) (xs := [.int .u32 x0, .int .u32 x1]) (ys := [.int .u32 y0, .int .u32 y1]) (w := w) Tryz.underlying119 (by kernel_rfl) (jW rfl (lO bU rfl) (lO bU rfl) (sH (dd := d + 0) Tryz.underlying36) (jW rfl (lO bU rfl) (lO bU rfl) (sH (dd := d + 0) Tryz.underlying36) (aHj)))
  refine h.trans (congrArg (fun r => Result.ok r w) ?_)
  simp only [Bool.decide_and, Bool.and_true, Bool.and_assoc]
theorem bGz : ∀ (x0 x1 y0 y1 : Int), EqA Tryz.prog 119 [.int .u32 x0, .int .u32 x1] [.int .u32 y0, .int .u32 y1] (decide (x0 = y0 ∧ x1 = y1)) := fun x0 x1 y0 y1 => ⟨by kernel_rfl, fun w => bHc 9998 w x0 x1 y0 y1⟩
theorem jA : jE Tryz.prog 119 = some 2 := by kernel_rfl
theorem bHd : aW Tryz.prog 170 = true := by kernel_rfl
theorem bMk : lX Tryz.prog 119 = some (.agg [.int .u32 0, .int .u32 0].toArray) := by kernel_rfl
theorem kK : jM Tryz.prog 3 = true := by kernel_rfl
theorem oL : jM Tryz.prog 4 = true := by kernel_rfl
theorem kT : fK Tryz.prog 40 1 1 = true := by kernel_rfl
theorem iH : fK Tryz.prog 40 2 2 = true := by kernel_rfl
theorem cQ : fK Tryz.prog 38 0 0 = true := by kernel_rfl
theorem aFy : aW Tryz.prog 55 = true := by kernel_rfl
theorem cK : fK Tryz.prog 38 1 1 = true := by kernel_rfl
theorem eC : fK Tryz.prog 40 3 4 = true := by kernel_rfl
theorem mK : fK Tryz.prog 40 4 5 = true := by kernel_rfl
theorem fD : fK Tryz.prog 40 5 6 = true := by kernel_rfl
theorem dP : fK Tryz.prog 40 6 8 = true := by kernel_rfl
theorem dF : fR Tryz.prog 22 40 10 40 = true := by kernel_rfl
theorem dH : fK Tryz.prog 40 0 0 = true := by kernel_rfl
theorem mixed : Tryz.prog.follows .mixedOrders = true := by kernel_rfl
theorem aOo : aW Tryz.prog 124 = true := by kernel_rfl
theorem nO : iK Tryz.prog 181 [.nilFunc, .int .i64 0] [(0, 1), (1, 1)] := fM Tryz.underlying181 (by kernel_rfl) (by kernel_rfl) (by kernel_rfl)
theorem uT : xL Tryz.prog 183 6 181 2 = true := by kernel_rfl
theorem bCq : gU Tryz.prog 183 = some [.nilFunc, .int .i64 0, .nilFunc, .int .i64 0, .nilFunc, .int .i64 0, .nilFunc, .int .i64 0, .nilFunc, .int .i64 0, .nilFunc, .int .i64 0] := by kernel_rfl
theorem nE : jE Tryz.prog 181 = some 2 := by kernel_rfl
theorem sV : gU Tryz.prog 181 = some [.nilFunc, .int .i64 0] := by kernel_rfl
theorem pY : fK Tryz.prog 181 0 0 = true := by kernel_rfl
theorem aGh : jM Tryz.prog 25 = true := by kernel_rfl
theorem bJg : aW Tryz.prog 122 = true := by kernel_rfl
theorem pO : fK Tryz.prog 181 1 1 = true := by kernel_rfl
theorem aGi : jM Tryz.prog 67 = true := by kernel_rfl
theorem bHl : aW Tryz.prog 123 = true := by kernel_rfl
theorem bJx : aW Tryz.prog 125 = true := by kernel_rfl
theorem bJe : aW Tryz.prog 126 = true := by kernel_rfl
theorem bJu : aW Tryz.prog 127 = true := by kernel_rfl
theorem bJv : aW Tryz.prog 128 = true := by kernel_rfl
theorem aXa : aW Tryz.prog 98 = true := by kernel_rfl
theorem mI : fK Tryz.prog 52 1 1 = true := by kernel_rfl
theorem uC : jM Tryz.prog 50 = true := by kernel_rfl
theorem yL : aCl Tryz.prog 50 36 3 .u32 = true := by kernel_rfl
theorem zv3 : lX Tryz.prog 3 = some (.int .i64 0) := by kernel_rfl
theorem iU : fK Tryz.prog 52 0 0 = true := by kernel_rfl
theorem fQ : jM Tryz.prog 22 = true := by kernel_rfl
theorem fJ : gU Tryz.prog 40 = some [.int .u32 0, .int .i32 0, .int .i32 0, .int .i32 0, .int .i32 0, .int .i32 0, .int .i32 0, .int .i32 0, .int .i32 0, .int .i32 0] := by kernel_rfl
theorem nT : iK Tryz.prog 40 [.int .u32 0, .int .i32 0, .int .i32 0, .int .i32 0, .int .i32 0, .int .i32 0, .int .i32 0, .int .i32 0, .int .i32 0, .int .i32 0] [(0, 1), (1, 1), (2, 2), (4, 1), (5, 1), (6, 2), (8, 2)] := fM Tryz.underlying40 (by kernel_rfl) (by kernel_rfl) (by kernel_rfl)
theorem aYz : aW Tryz.prog 121 = true := by kernel_rfl
theorem aRd : aW Tryz.prog 97 = true := by kernel_rfl
theorem bMf : aW Tryz.prog 49 = true := by kernel_rfl
theorem bKz : aW Tryz.prog 95 = true := by kernel_rfl
theorem bFu : aW Tryz.prog 24 = true := by kernel_rfl
theorem rA : aW Tryz.prog 38 = true := by kernel_rfl
theorem aQg : aW Tryz.prog 90 = true := by kernel_rfl
theorem bLa : aW Tryz.prog 59 = true := by kernel_rfl
theorem bGu : aW Tryz.prog 129 = true := by kernel_rfl
theorem bKf : aW Tryz.prog 50 = true := by kernel_rfl
theorem us3 : (Tryz.prog.underlying 3).isSome = true := by kernel_rfl
theorem bMb : (Tryz.prog.underlying 136).isSome = true := by kernel_rfl
theorem aYe : aW Tryz.prog 140 = true := by kernel_rfl
theorem bGn : aW Tryz.prog 139 = true := by kernel_rfl
theorem aVs : aW Tryz.prog 215 = true := by kernel_rfl
theorem aHn : gU Tryz.prog 193 = some [.int .i32 0, .int .i32 0, .int .i32 0, .int .i32 0] := by kernel_rfl
theorem bHp : aW Tryz.prog 190 = true := by kernel_rfl
theorem aGx : iK Tryz.prog 193 [.int .i32 0, .int .i32 0, .int .i32 0, .int .i32 0] [(0, 1), (1, 1), (2, 1), (3, 1)] := fM Tryz.underlying193 (by kernel_rfl) (by kernel_rfl) (by kernel_rfl)
theorem kJ : jE Tryz.prog 193 = some 4 := by kernel_rfl
theorem vG : fK Tryz.prog 193 0 0 = true := by kernel_rfl
theorem wP : fK Tryz.prog 193 2 2 = true := by kernel_rfl
theorem vW : fK Tryz.prog 193 1 1 = true := by kernel_rfl
theorem wU : fK Tryz.prog 193 3 3 = true := by kernel_rfl
theorem aOn : aW Tryz.prog 192 = true := by kernel_rfl
theorem bGg : aW Tryz.prog 193 = true := by kernel_rfl
theorem qG : gU Tryz.prog 226 = some [.int .i32 0, .int .i32 0] := by kernel_rfl
theorem aGn : iK Tryz.prog 226 [.int .i32 0, .int .i32 0] [(0, 1), (1, 1)] := fM Tryz.underlying226 (by kernel_rfl) (by kernel_rfl) (by kernel_rfl)
theorem jN : jE Tryz.prog 226 = some 2 := by kernel_rfl
theorem eG : iK Tryz.prog 38 [.int .i32 0, .int .i32 0] [(0, 1), (1, 1)] := fM Tryz.underlying38 (by kernel_rfl) (by kernel_rfl) (by kernel_rfl)
theorem bAc : aW Tryz.prog 229 = true := by kernel_rfl
theorem bHz : aW Tryz.prog 216 = true := by kernel_rfl
theorem aRy : gU Tryz.prog 4 = some [.bool false] := by kernel_rfl
theorem aBp : fK Tryz.prog 226 1 1 = true := by kernel_rfl
theorem aDc : fK Tryz.prog 226 0 0 = true := by kernel_rfl
theorem bCa : gU Tryz.prog 224 = some [.slice none 0 0] := by kernel_rfl
theorem bGv : aW Tryz.prog 191 = true := by kernel_rfl
theorem bIt : aW Tryz.prog 217 = true := by kernel_rfl
theorem aOv : jM Tryz.prog 224 = true := by kernel_rfl
theorem aWi : fR Tryz.prog 224 226 2 8 = true := by kernel_rfl
theorem dO : (Tryz.prog.underlying 21).isSome = true := by kernel_rfl
theorem bAm : xL Tryz.prog 270 2 36 1 = true := by kernel_rfl
theorem tP : (Tryz.prog.underlying 36).isSome = true := by kernel_rfl
theorem bHv : aW Tryz.prog 206 = true := by kernel_rfl
theorem lK : (Tryz.prog.underlying 2).isSome = true := by kernel_rfl
theorem uI : (Tryz.prog.underlying 170).isSome = true := by kernel_rfl
theorem sC : aW Tryz.prog 179 = true := by kernel_rfl
theorem aPj : aW Tryz.prog 178 = true := by kernel_rfl
theorem aYc : aW Tryz.prog 180 = true := by kernel_rfl
theorem aJa : aW Tryz.prog 181 = true := by kernel_rfl
theorem aIw : aW Tryz.prog 207 = true := by kernel_rfl
theorem bAh : aW Tryz.prog 201 = true := by kernel_rfl
theorem aPr : aW Tryz.prog 173 = true := by kernel_rfl
theorem bHf : aW Tryz.prog 203 = true := by kernel_rfl
theorem gY : gU Tryz.prog 38 = some [.int .i32 0, .int .i32 0] := by kernel_rfl
theorem aWs : aW Tryz.prog 175 = true := by kernel_rfl
theorem aXe : aW Tryz.prog 202 = true := by kernel_rfl
theorem aDu : aW Tryz.prog 200 = true := by kernel_rfl
theorem iR : jM Tryz.prog 2 = true := by kernel_rfl
theorem aIz : aW Tryz.prog 141 = true := by kernel_rfl
theorem bGe : aW Tryz.prog 244 = true := by kernel_rfl
theorem aCo : gU Tryz.prog 2 = some [.int .i64 0] := by kernel_rfl
theorem aWj : aW Tryz.prog 245 = true := by kernel_rfl
theorem cN : jM Tryz.prog 170 = true := by kernel_rfl
theorem bEf : gU Tryz.prog 170 = some [.int .u64 0] := by kernel_rfl
theorem xQ : xL Tryz.prog 318 2 38 2 = true := by kernel_rfl
theorem aRg : gU Tryz.prog 318 = some [.int .i32 0, .int .i32 0, .int .i32 0, .int .i32 0] := by kernel_rfl
theorem aIs : aW Tryz.prog 239 = true := by kernel_rfl
theorem aIe : aW Tryz.prog 238 = true := by kernel_rfl
theorem bGm : aW Tryz.prog 221 = true := by kernel_rfl
theorem wT : gU Tryz.prog 239 = some [.int .u32 0, .int .i32 0, .int .i32 0, .int .i32 0, .int .i32 0, .int .i32 0, .int .i32 0, .int .i32 0, .int .i32 0, .int .i32 0, .int .i32 0, .int .i32 0, .int .i32 0, .int .i32 0] := by kernel_rfl
theorem bIk : aW Tryz.prog 220 = true := by kernel_rfl
theorem aVa : iK Tryz.prog 239 [.int .u32 0, .int .i32 0, .int .i32 0, .int .i32 0, .int .i32 0, .int .i32 0, .int .i32 0, .int .i32 0, .int .i32 0, .int .i32 0, .int .i32 0, .int .i32 0, .int .i32 0, .int .i32 0] [(0, 10), (10, 2), (12, 2)] := fM Tryz.underlying239 (by kernel_rfl) (by kernel_rfl) (by kernel_rfl)
theorem mZ : jE Tryz.prog 239 = some 14 := by kernel_rfl
theorem aIn : aW Tryz.prog 198 = true := by kernel_rfl
theorem aMb : fK Tryz.prog 239 1 10 = true := by kernel_rfl
theorem aLz : fK Tryz.prog 239 2 12 = true := by kernel_rfl
theorem bGf : aW Tryz.prog 199 = true := by kernel_rfl
theorem vL : fK Tryz.prog 239 0 0 = true := by kernel_rfl
theorem lT : gU Tryz.prog 121 = some [.int .u32 0, .int .u32 0, .int .i32 0, .int .i32 0, .int .i32 0] := by kernel_rfl
theorem bJb : aW Tryz.prog 171 = true := by kernel_rfl
theorem bJn : aW Tryz.prog 172 = true := by kernel_rfl
theorem tK : iK Tryz.prog 121 [.int .u32 0, .int .u32 0, .int .i32 0, .int .i32 0, .int .i32 0] [(0, 2), (2, 2), (4, 1)] := fM Tryz.underlying121 (by kernel_rfl) (by kernel_rfl) (by kernel_rfl)
theorem eL : jE Tryz.prog 121 = some 5 := by kernel_rfl
theorem xE : iK Tryz.prog 119 [.int .u32 0, .int .u32 0] [(0, 1), (1, 1)] := fM Tryz.underlying119 (by kernel_rfl) (by kernel_rfl) (by kernel_rfl)
theorem sZ : gU Tryz.prog 119 = some [.int .u32 0, .int .u32 0] := by kernel_rfl
theorem bGs : aW Tryz.prog 174 = true := by kernel_rfl
theorem aKa : fK Tryz.prog 191 1 1024 = true := by kernel_rfl
theorem bIm : aW Tryz.prog 161 = true := by kernel_rfl
theorem bJh : aW Tryz.prog 162 = true := by kernel_rfl
theorem aVr : aCl Tryz.prog 223 3 4 .i64 = true := by kernel_rfl
theorem zv4 : lX Tryz.prog 4 = some (.bool false) := by kernel_rfl
theorem aDg : fK Tryz.prog 191 0 0 = true := by kernel_rfl
theorem aMv : xL Tryz.prog 189 1024 188 1 = true := by kernel_rfl
theorem aIm : jM Tryz.prog 188 = true := by kernel_rfl
theorem aKx : fR Tryz.prog 188 36 1 4 = true := by kernel_rfl
theorem aXh : fR Tryz.prog 302 3 1 8 = true := by kernel_rfl
theorem gB : fK Tryz.prog 119 0 0 = true := by kernel_rfl
theorem jJ : fK Tryz.prog 119 1 1 = true := by kernel_rfl
theorem bHt : aW Tryz.prog 197 = true := by kernel_rfl
theorem bJl : jM Tryz.prog 230 = true := by kernel_rfl
theorem bIv : aW Tryz.prog 196 = true := by kernel_rfl
theorem aNr : jM Tryz.prog 159 = true := by kernel_rfl
theorem wC : fR Tryz.prog 159 119 2 8 = true := by kernel_rfl
theorem bIi : aW Tryz.prog 218 = true := by kernel_rfl
theorem bJm : aW Tryz.prog 194 = true := by kernel_rfl
theorem bIg : aW Tryz.prog 195 = true := by kernel_rfl
theorem bJs : jE Tryz.prog 189 = some 1024 := by kernel_rfl
theorem bIr : aW Tryz.prog 167 = true := by kernel_rfl
theorem aVd : iK Tryz.prog 231 [] [] := fM Tryz.underlying231 (by kernel_rfl) (by kernel_rfl) (by kernel_rfl)
theorem bGx : aW Tryz.prog 169 = true := by kernel_rfl
theorem bJa : aW Tryz.prog 168 = true := by kernel_rfl
theorem bGo : aW Tryz.prog 160 = true := by kernel_rfl
theorem aIp : aCl Tryz.prog 186 36 193 .u32 = true := by kernel_rfl
theorem bKw : gU Tryz.prog 3 = some [.int .i64 0] := by kernel_rfl
theorem aWd : jM Tryz.prog 186 = true := by kernel_rfl
theorem aWw : lX Tryz.prog 193 = some (.agg [.int .i32 0, .int .i32 0, .int .i32 0, .int .i32 0].toArray) := by kernel_rfl
theorem bJr : aW Tryz.prog 164 = true := by kernel_rfl
theorem aXo : aW Tryz.prog 163 = true := by kernel_rfl
theorem bGb : aW Tryz.prog 166 = true := by kernel_rfl
theorem bIb : aW Tryz.prog 132 = true := by kernel_rfl
theorem bGr : aW Tryz.prog 133 = true := by kernel_rfl
theorem bIa : aW Tryz.prog 134 = true := by kernel_rfl
theorem bIq : aW Tryz.prog 136 = true := by kernel_rfl
theorem bJw : aW Tryz.prog 135 = true := by kernel_rfl
theorem bJo : aW Tryz.prog 165 = true := by kernel_rfl
theorem aCb : fK Tryz.prog 158 0 0 = true := by kernel_rfl
theorem aDz : jM Tryz.prog 156 = true := by kernel_rfl
theorem aDt : aCl Tryz.prog 156 36 40 .u32 = true := by kernel_rfl
theorem bBd : lX Tryz.prog 40 = some (.agg [.int .u32 0, .int .i32 0, .int .i32 0, .int .i32 0, .int .i32 0, .int .i32 0, .int .i32 0, .int .i32 0, .int .i32 0, .int .i32 0].toArray) := by kernel_rfl
theorem aVw : aW Tryz.prog 137 = true := by kernel_rfl
theorem sI : fK Tryz.prog 158 1 1 = true := by kernel_rfl
theorem rI : jM Tryz.prog 82 = true := by kernel_rfl
theorem zN : fR Tryz.prog 82 121 5 20 = true := by kernel_rfl
theorem bHs : aW Tryz.prog 107 = true := by kernel_rfl
theorem aTf : iK Tryz.prog 158 [.map none, .slice none 0 0] [(0, 1), (1, 1)] := fM Tryz.underlying158 (by kernel_rfl) (by kernel_rfl) (by kernel_rfl)
theorem bHk : aW Tryz.prog 105 = true := by kernel_rfl
theorem bIx : aW Tryz.prog 106 = true := by kernel_rfl
theorem tM : gU Tryz.prog 291 = some [.int .u64 0, .int .u64 0, .int .u64 0, .int .u64 0, .int .u64 0, .int .u64 0, .int .u64 0, .int .u64 0] := by kernel_rfl
theorem bS : fK Tryz.prog 291 0 0 = true := by kernel_rfl
theorem cW : xL Tryz.prog 289 8 170 1 = true := by kernel_rfl
theorem nA : jE Tryz.prog 291 = some 8 := by kernel_rfl
theorem aYv : aW Tryz.prog 228 = true := by kernel_rfl
theorem bGt : aW Tryz.prog 227 = true := by kernel_rfl
theorem aVi : aW Tryz.prog 212 = true := by kernel_rfl
theorem bAi : aW Tryz.prog 211 = true := by kernel_rfl
theorem aYs : aW Tryz.prog 213 = true := by kernel_rfl
theorem aZq : aW Tryz.prog 146 = true := by kernel_rfl
theorem bGy : aW Tryz.prog 147 = true := by kernel_rfl
theorem aPq : aW Tryz.prog 115 = true := by kernel_rfl
theorem nH : aW Tryz.prog 78 = true := by kernel_rfl
theorem aXw : aW Tryz.prog 208 = true := by kernel_rfl
theorem bHw : aW Tryz.prog 226 = true := by kernel_rfl
theorem bJf : aW Tryz.prog 209 = true := by kernel_rfl
theorem bAr : aW Tryz.prog 210 = true := by kernel_rfl
theorem vV : fK Tryz.prog 168 1 2 = true := by kernel_rfl
theorem vF : fK Tryz.prog 168 0 0 = true := by kernel_rfl
theorem aAj : gU Tryz.prog 168 = some [.int .i32 0, .int .i32 0, .int .i32 0, .int .i32 0] := by kernel_rfl
theorem sR : iK Tryz.prog 168 [.int .i32 0, .int .i32 0, .int .i32 0, .int .i32 0] [(0, 2), (2, 2)] := fM Tryz.underlying168 (by kernel_rfl) (by kernel_rfl) (by kernel_rfl)
theorem aHs : aW Tryz.prog 182 = true := by kernel_rfl
theorem aQe : fR Tryz.prog 256 168 4 16 = true := by kernel_rfl
theorem lN : jE Tryz.prog 168 = some 4 := by kernel_rfl
theorem aPf : aW Tryz.prog 113 = true := by kernel_rfl
theorem bAe : aW Tryz.prog 144 = true := by kernel_rfl
theorem aVo : aW Tryz.prog 145 = true := by kernel_rfl
theorem bIf : aW Tryz.prog 143 = true := by kernel_rfl
theorem bGk : aW Tryz.prog 112 = true := by kernel_rfl
theorem bIn : aW Tryz.prog 114 = true := by kernel_rfl
theorem aYa : aW Tryz.prog 75 = true := by kernel_rfl
theorem bGd : aW Tryz.prog 246 = true := by kernel_rfl
theorem bHg : aW Tryz.prog 240 = true := by kernel_rfl
theorem gP : fK Tryz.prog 121 1 2 = true := by kernel_rfl
theorem bIp : aW Tryz.prog 222 = true := by kernel_rfl
theorem bGc : aW Tryz.prog 223 = true := by kernel_rfl
theorem aZb : aW Tryz.prog 224 = true := by kernel_rfl
theorem bAg : aW Tryz.prog 225 = true := by kernel_rfl
theorem pS : fK Tryz.prog 246 0 0 = true := by kernel_rfl
theorem fI : fK Tryz.prog 121 0 0 = true := by kernel_rfl
theorem aIr : aW Tryz.prog 109 = true := by kernel_rfl
theorem bHu : aW Tryz.prog 204 = true := by kernel_rfl
theorem aWh : aW Tryz.prog 205 = true := by kernel_rfl
theorem pU : fK Tryz.prog 246 1 1 = true := by kernel_rfl
theorem nC : jM Tryz.prog 200 = true := by kernel_rfl
theorem pR : fK Tryz.prog 246 2 2 = true := by kernel_rfl
theorem oR : fR Tryz.prog 200 2 1 8 = true := by kernel_rfl
theorem bIy : aW Tryz.prog 177 = true := by kernel_rfl
theorem aFo : iK Tryz.prog 246 [.slice none 0 0, .slice none 0 0, .slice none 0 0] [(0, 1), (1, 1), (2, 1)] := fM Tryz.underlying246 (by kernel_rfl) (by kernel_rfl) (by kernel_rfl)
theorem aYh : aW Tryz.prog 176 = true := by kernel_rfl
theorem bIo : aW Tryz.prog 138 = true := by kernel_rfl
theorem aNc : aW Tryz.prog 118 = true := by kernel_rfl
theorem bGl : aW Tryz.prog 108 = true := by kernel_rfl
theorem aCn : fK Tryz.prog 121 2 4 = true := by kernel_rfl
theorem aXb : aW Tryz.prog 142 = true := by kernel_rfl
theorem aFj : jM Tryz.prog 97 = true := by kernel_rfl
theorem aOl : fR Tryz.prog 97 135 2 16 = true := by kernel_rfl
theorem aCe : fK Tryz.prog 135 0 0 = true := by kernel_rfl
theorem aDl : fK Tryz.prog 135 1 1 = true := by kernel_rfl
theorem bDe : gU Tryz.prog 135 = some [.int .i64 0, .int .i64 0] := by kernel_rfl
theorem bGi : gU Tryz.prog 97 = some [.slice none 0 0] := by kernel_rfl
theorem aWr : aW Tryz.prog 111 = true := by kernel_rfl
theorem aYn : aW Tryz.prog 110 = true := by kernel_rfl
theorem aFv : fR Tryz.prog 175 133 1 8 = true := by kernel_rfl
theorem bHa : jM Tryz.prog 133 = true := by kernel_rfl
theorem bLl : aW Tryz.prog 84 = true := by kernel_rfl
theorem aJw : aW Tryz.prog 85 = true := by kernel_rfl
theorem bLt : aW Tryz.prog 83 = true := by kernel_rfl
theorem bEw : aW Tryz.prog 82 = true := by kernel_rfl
theorem bLq : aW Tryz.prog 86 = true := by kernel_rfl
theorem bLh : aW Tryz.prog 53 = true := by kernel_rfl
theorem bLj : aW Tryz.prog 54 = true := by kernel_rfl
theorem aAa : fK Tryz.prog 84 1 1 = true := by kernel_rfl
theorem sU : fK Tryz.prog 84 3 3 = true := by kernel_rfl
theorem vR : fK Tryz.prog 27 2 2 = true := by kernel_rfl
theorem aHz : fK Tryz.prog 84 0 0 = true := by kernel_rfl
theorem bKp : aW Tryz.prog 71 = true := by kernel_rfl
theorem zZ : fK Tryz.prog 84 2 2 = true := by kernel_rfl
theorem bDx : fK Tryz.prog 27 0 0 = true := by kernel_rfl
theorem aIx : fK Tryz.prog 27 1 1 = true := by kernel_rfl
theorem aWt : aW Tryz.prog 72 = true := by kernel_rfl
theorem bLi : aW Tryz.prog 73 = true := by kernel_rfl
theorem bMc : aW Tryz.prog 74 = true := by kernel_rfl
theorem aEd : gU Tryz.prog 27 = some [.int .i64 0, .int .i64 0, .bool false] := by kernel_rfl
theorem bAd : iK Tryz.prog 84 [.slice none 0 0, .slice none 0 0, .slice none 0 0, .int .i64 0, .int .i64 0, .bool false] [(0, 1), (1, 1), (2, 1), (3, 3)] := fM Tryz.underlying84 (by kernel_rfl) (by kernel_rfl) (by kernel_rfl)
theorem aMc : xL Tryz.prog 86 4 85 1 = true := by kernel_rfl
theorem bHb : gU Tryz.prog 86 = some [.nilFunc, .nilFunc, .nilFunc, .nilFunc] := by kernel_rfl
theorem aQr : jM Tryz.prog 85 = true := by kernel_rfl
theorem bLp : aW Tryz.prog 40 = true := by kernel_rfl
theorem bLr : aW Tryz.prog 41 = true := by kernel_rfl
theorem bKn : aW Tryz.prog 42 = true := by kernel_rfl
theorem bKr : aW Tryz.prog 43 = true := by kernel_rfl
theorem wE : jE Tryz.prog 27 = some 3 := by kernel_rfl
theorem bLx : aW Tryz.prog 16 = true := by kernel_rfl
theorem bJi : aW Tryz.prog 183 = true := by kernel_rfl
theorem aYf : aW Tryz.prog 184 = true := by kernel_rfl
theorem aWp : aW Tryz.prog 148 = true := by kernel_rfl
theorem aIc : aW Tryz.prog 149 = true := by kernel_rfl
theorem aYq : aW Tryz.prog 116 = true := by kernel_rfl
theorem aBs : aW Tryz.prog 76 = true := by kernel_rfl
theorem bLk : aW Tryz.prog 77 = true := by kernel_rfl
theorem bIh : aW Tryz.prog 117 = true := by kernel_rfl
theorem bBf : gU Tryz.prog 126 = some [.int .i64 0, .int .i64 0] := by kernel_rfl
theorem bFy : aW Tryz.prog 79 = true := by kernel_rfl
theorem kN : fK Tryz.prog 126 0 0 = true := by kernel_rfl
theorem kP : fK Tryz.prog 126 1 1 = true := by kernel_rfl
theorem bJd : jE Tryz.prog 126 = some 2 := by kernel_rfl
theorem aTs : fR Tryz.prog 90 126 2 16 = true := by kernel_rfl
theorem bMg : aW Tryz.prog 44 = true := by kernel_rfl
theorem bLc : aW Tryz.prog 45 = true := by kernel_rfl
theorem bKe : aW Tryz.prog 46 = true := by kernel_rfl
theorem bKd : aW Tryz.prog 48 = true := by kernel_rfl
theorem bKg : aW Tryz.prog 47 = true := by kernel_rfl
theorem bFo : ∀ (x0 x1 y0 y1 : Int), EqA Tryz.prog 38 [.int .i32 x0, .int .i32 x1] [.int .i32 y0, .int .i32 y1] (decide (x0 = y0 ∧ x1 = y1)) := fun x0 x1 y0 y1 => ⟨by kernel_rfl, fun w => aQj 9998 w x0 x1 y0 y1⟩
theorem bLe : aW Tryz.prog 17 = true := by kernel_rfl
theorem bEy : aW Tryz.prog 18 = true := by kernel_rfl
theorem us5 : (Tryz.prog.underlying 5).isSome = true := by kernel_rfl
theorem bLv : aW Tryz.prog 20 = true := by kernel_rfl
theorem gE : fR Tryz.prog 57 5 1 1 = true := by kernel_rfl
theorem aHi : gU Tryz.prog 150 = some [.int .u32 0, .int .u32 0, .int .u32 0, .int .u32 0, .int .u32 0, .int .u32 0, .int .u32 0, .int .u32 0, .int .u32 0, .int .u32 0] := by kernel_rfl
theorem iC : xL Tryz.prog 150 10 36 1 = true := by kernel_rfl
theorem qX : aW Tryz.prog 130 = true := by kernel_rfl
theorem aOe : jE Tryz.prog 150 = some 10 := by kernel_rfl
theorem aEv : jM Tryz.prog 5 = true := by kernel_rfl
theorem aNl : aW Tryz.prog 131 = true := by kernel_rfl
theorem bFx : aW Tryz.prog 99 = true := by kernel_rfl
theorem bAq : aW Tryz.prog 100 = true := by kernel_rfl
theorem bJt : aW Tryz.prog 101 = true := by kernel_rfl
theorem oF : aW Tryz.prog 102 = true := by kernel_rfl
theorem nP : aW Tryz.prog 103 = true := by kernel_rfl
theorem bIl : aW Tryz.prog 104 = true := by kernel_rfl
theorem bAy : aW Tryz.prog 93 = true := by kernel_rfl
theorem sM : aW Tryz.prog 92 = true := by kernel_rfl
theorem vS : aW Tryz.prog 94 = true := by kernel_rfl
theorem vE : fK Tryz.prog 56 0 0 = true := by kernel_rfl
theorem aPw : aW Tryz.prog 65 = true := by kernel_rfl
theorem sQ : fK Tryz.prog 54 0 0 = true := by kernel_rfl
theorem bFg : aW Tryz.prog 66 = true := by kernel_rfl
theorem bMi : aW Tryz.prog 89 = true := by kernel_rfl
theorem bKu : aW Tryz.prog 70 = true := by kernel_rfl
theorem bLo : aW Tryz.prog 64 = true := by kernel_rfl
theorem aGv : aW Tryz.prog 31 = true := by kernel_rfl
theorem bKx : aW Tryz.prog 67 = true := by kernel_rfl
theorem aZz : aW Tryz.prog 37 = true := by kernel_rfl
theorem bMh : aW Tryz.prog 87 = true := by kernel_rfl
theorem bLw : aW Tryz.prog 88 = true := by kernel_rfl
theorem aZw : iK Tryz.prog 54 [.slice none 0 0, .map none] [(0, 2)] := fM Tryz.underlying54 (by kernel_rfl) (by kernel_rfl) (by kernel_rfl)
theorem bLy : jE Tryz.prog 54 = some 2 := by kernel_rfl
theorem bEl : aW Tryz.prog 69 = true := by kernel_rfl
theorem bMl : aW Tryz.prog 68 = true := by kernel_rfl
theorem bEo : aW Tryz.prog 91 = true := by kernel_rfl
theorem sO : gU Tryz.prog 61 = some [.slice none 0 0, .int .i64 0, .int .u32 0, .int .i32 0, .int .i32 0, .int .i32 0, .int .i32 0, .int .i32 0, .int .i32 0, .int .i32 0, .int .i32 0, .int .i32 0, .slice none 0 0, .int .i64 0, .bool false] := by kernel_rfl
theorem aXg : iK Tryz.prog 61 [.slice none 0 0, .int .i64 0, .int .u32 0, .int .i32 0, .int .i32 0, .int .i32 0, .int .i32 0, .int .i32 0, .int .i32 0, .int .i32 0, .int .i32 0, .int .i32 0, .slice none 0 0, .int .i64 0, .bool false] [(0, 1), (1, 1), (2, 10), (12, 1), (13, 1), (14, 1)] := fM Tryz.underlying61 (by kernel_rfl) (by kernel_rfl) (by kernel_rfl)
theorem dZ : jE Tryz.prog 61 = some 15 := by kernel_rfl
theorem aAk : fK Tryz.prog 59 0 0 = true := by kernel_rfl
theorem aQz : fK Tryz.prog 59 1 1 = true := by kernel_rfl
theorem qI : fK Tryz.prog 61 0 0 = true := by kernel_rfl
theorem kW : fK Tryz.prog 61 1 1 = true := by kernel_rfl
theorem tF : fK Tryz.prog 59 2 11 = true := by kernel_rfl
theorem bKh : aW Tryz.prog 60 = true := by kernel_rfl
theorem aQa : fK Tryz.prog 59 3 12 = true := by kernel_rfl
theorem bKv : aW Tryz.prog 61 = true := by kernel_rfl
theorem aAs : fK Tryz.prog 61 4 13 = true := by kernel_rfl
theorem aAv : fK Tryz.prog 61 5 14 = true := by kernel_rfl
theorem bKq : aW Tryz.prog 62 = true := by kernel_rfl
theorem aAq : fK Tryz.prog 61 3 12 = true := by kernel_rfl
theorem aBt : jM Tryz.prog 57 = true := by kernel_rfl
theorem aJd : fK Tryz.prog 59 4 14 = true := by kernel_rfl
theorem bKj : aW Tryz.prog 63 = true := by kernel_rfl
theorem zW : fK Tryz.prog 61 2 2 = true := by kernel_rfl
theorem aQu : aW Tryz.prog 32 = true := by kernel_rfl
theorem bGa : aW Tryz.prog 58 = true := by kernel_rfl
theorem bEz : aW Tryz.prog 56 = true := by kernel_rfl
theorem bFc : aW Tryz.prog 57 = true := by kernel_rfl
theorem bFz : aW Tryz.prog 34 = true := by kernel_rfl
theorem bEs : aW Tryz.prog 35 = true := by kernel_rfl
theorem bLz : aW Tryz.prog 33 = true := by kernel_rfl
theorem aKf : fR Tryz.prog 48 59 15 88 = true := by kernel_rfl
theorem aVm : gU Tryz.prog 56 = some [.slice none 0 0, .map none] := by kernel_rfl
theorem bFf : aW Tryz.prog 25 = true := by kernel_rfl
theorem bKo : aW Tryz.prog 26 = true := by kernel_rfl
theorem bLu : aW Tryz.prog 27 = true := by kernel_rfl
theorem aQl : jE Tryz.prog 59 = some 15 := by kernel_rfl
theorem bFj : aW Tryz.prog 28 = true := by kernel_rfl
theorem bEu : aW Tryz.prog 29 = true := by kernel_rfl
theorem bFv : aW Tryz.prog 30 = true := by kernel_rfl
end Go.Proofs.YtlmcphcgiclanaaGreatDoor

namespace Go.Proofs.YtlmcphcgiclanaaGreatDoor
open Go.Bil
open Go.RowKit (Below)
open Go.Proofs
set_option maxHeartbeats 4000000 in
theorem pV (w : World) (n l : Int) (h0 : 0 ≤ l) (h1 : l ≤ 2147483647) :
  Calls Tryz.prog 55 #[.int .i32 n, .int .i32 l] w (fun ex w' => ∃ v, ex = .returned v ∧ (fun v w' => v = .bool (decide (uV n l)) ∧ Below w.heap.size w w') v w') := by
 have hneg : IntKind.i32.wrap (-l) = -l := iP _ (by omega) (by omega)
 refine aI #[.tmp 4] 14 Tryz.func55 rfl Tryz.results55 Tryz.ntmps55 rfl ?_
 have M0 := Mem.refl w
 refine aE (aA (wq (aJ (.bool false) rfl) rfl (aB (aC (aE (aA (aO rfl rfl (aO rfl rfl (wq (pN rfl) rfl ?_)))))))))
 refine aK 7 (.int .i32 (-l)) (iE hneg) (cX rfl rfl rfl rfl (wq (aH (.bool (decide _)) rfl) rfl ?_))
 refine dI 9 rfl (fun g9 => ?_) (fun g9 => ?_)
 ·refine aO rfl rfl (aO rfl rfl (cX rfl rfl rfl rfl (wq (bM true (.bool (decide _)) rfl rfl) rfl (wq (aJ (.bool (decide _)) rfl) rfl (aB (aC (aP ?_)))))))
  refine cE (.bool (decide _)) rfl ?_
  exact ⟨by unfold uV; first | exact bF (by omega) | exact bD (by omega), M0.below⟩
 ·refine aN rfl rfl (aN rfl rfl (aN rfl rfl (wq (bM false (.bool false) rfl rfl) rfl (wq (aJ (.bool false) rfl) rfl (aB (aC (aP ?_)))))))
  refine cE (.bool false) rfl ?_
  exact ⟨by unfold uV; first | exact bF (by omega) | exact bD (by omega), M0.below⟩
set_option maxHeartbeats 4000000 in
theorem yU (w : World) (b : Body) :
  Calls Tryz.prog 24 #[(.agg (aF b).toArray)] w (fun ex w' => ∃ v, ex = .returned v ∧ (fun v w' => v = .int .i64 (check b) ∧ Below w.heap.size w w') v w') := by
 refine aI #[.tmp 2] 63 Tryz.func24 rfl Tryz.results24 Tryz.ntmps24 rfl ?_
 have M0 := Mem.refl w
 refine aE (aA (bP (.agg (List.toArray _)) M0 rfl rfl rfl (fun b1 w1 M1 => (bC rfl rfl (aB (aC (aE (aE (aA (wq (aD 1 kT rfl) rfl (wq (aM 0 (.int _ _) aR M1 rfl rfl rfl) rfl ?_)))))))))))
 refine cX rfl rfl rfl rfl (wq (aH (.bool (decide _)) rfl) rfl ?_)
 refine dI 6 rfl (fun g6 => ?_) (fun g6 => ?_)
 ·refine aN rfl rfl (aN rfl rfl (aN rfl rfl (wq (bM true (.bool true) rfl rfl) rfl (aB (aC (cC rfl ?_))))))
  refine aE (aA (bC rfl rfl (aB (aC (aP (cH (cE (.int _ _) rfl ?_)))))))
  exact ⟨iE (by unfold check; unfold uV at *; (repeat' split) <;> omega), M1.below⟩
 ·refine wq (aD 1 kT rfl) rfl (wq (aM 0 (.int _ _) aR M1 rfl rfl rfl) rfl (cX rfl rfl rfl rfl (wq (bM false (.bool (decide _)) rfl rfl) rfl (aB (aC ?_)))))
  refine aS rfl (fun h10 => ?_) (fun h10 => ?_)
  ·refine aE (aA (bC rfl rfl (aB (aC (aP (cH (cE (.int _ _) rfl ?_)))))))
   exact ⟨iE (by unfold check; unfold uV at *; (repeat' split) <;> omega), M1.below⟩
  ·refine aL (aC (aE (aE (aA (wq (aD 2 iH rfl) rfl (wq (aD 0 cQ rfl) rfl (wq (aM 0 (.int _ _) aR M1 rfl rfl rfl) rfl (bZ aFy rfl rfl (pV _ _ _ (by omega) (by omega)) ?_))))))))
   rintro v2 w2 ⟨rfl, hb2⟩
   have M2 := M1.callB hb2
   refine wq (nK rfl) rfl (wq (aH (.bool (decide _)) rfl) rfl ?_)
   refine dI 16 rfl (fun g16 => ?_) (fun g16 => ?_)
   ·refine aN rfl rfl (aN rfl rfl (aN rfl rfl (aN rfl rfl (aN rfl rfl (wq (bM true (.bool true) rfl rfl) rfl ?_)))))
    refine aB (aC (cC rfl (aE (aA (bC rfl rfl (aB (aC (aP (cH (cE (.int _ _) rfl ?_))))))))))
    exact ⟨iE (by unfold check; unfold uV at *; (repeat' split) <;> omega), M2.below⟩
   ·refine wq (aD 2 iH rfl) rfl (wq (aD 1 cK rfl) rfl (wq (aM 0 (.int _ _) aR M2 rfl rfl rfl) rfl (bZ aFy rfl rfl (pV _ _ _ (by omega) (by omega)) ?_)))
    rintro v3 w3 ⟨rfl, hb3⟩
    have M3 := M2.callB hb3
    refine wq (nK rfl) rfl (wq (bM false (.bool (decide _)) rfl rfl) rfl (aB (aC ?_)))
    refine aS rfl (fun h22 => ?_) (fun h22 => ?_)
    ·refine aE (aA (bC rfl rfl (aB (aC (aP (cH (cE (.int _ _) rfl ?_)))))))
     exact ⟨iE (by unfold check; unfold uV at *; (repeat' split) <;> omega), M3.below⟩
    ·refine aL (aC (aE (aE (aA (wq (aD 4 eC rfl) rfl (wq (aM 0 (.int _ _) aR M3 rfl rfl rfl) rfl (cX rfl rfl rfl rfl (wq (aH (.bool (decide _)) rfl) rfl ?_))))))))
     refine dI 26 rfl (fun g26 => ?_) (fun g26 => ?_)
     ·refine aN rfl rfl (aN rfl rfl (aN rfl rfl (wq (bM true (.bool true) rfl rfl) rfl (aB (aC (cC rfl ?_))))))
      refine aE (aA (bC rfl rfl (aB (aC (aP (cH (cE (.int _ _) rfl ?_)))))))
      exact ⟨iE (by unfold check; unfold uV at *; (repeat' split) <;> omega), M3.below⟩
     ·refine wq (aD 4 eC rfl) rfl (wq (aM 0 (.int _ _) aR M3 rfl rfl rfl) rfl (cX rfl rfl rfl rfl (wq (bM false (.bool (decide _)) rfl rfl) rfl (aB (aC ?_)))))
      refine aS rfl (fun h30 => ?_) (fun h30 => ?_)
      ·refine aE (aA (bC rfl rfl (aB (aC (aP (cH (cE (.int _ _) rfl ?_)))))))
       exact ⟨iE (by unfold check; unfold uV at *; (repeat' split) <;> omega), M3.below⟩
      ·refine aL (aC (aE (aE (aA (wq (aD 5 mK rfl) rfl (wq (aM 0 (.int _ _) aR M3 rfl rfl rfl) rfl (cX rfl rfl rfl rfl (wq (aH (.bool (decide _)) rfl) rfl ?_))))))))
       refine dI 34 rfl (fun g34 => ?_) (fun g34 => ?_)
       ·refine aN rfl rfl (aN rfl rfl (aN rfl rfl (wq (bM true (.bool true) rfl rfl) rfl (aB (aC (cC rfl ?_))))))
        refine aE (aA (bC rfl rfl (aB (aC (aP (cH (cE (.int _ _) rfl ?_)))))))
        exact ⟨iE (by unfold check; unfold uV at *; (repeat' split) <;> omega), M3.below⟩
       ·refine wq (aD 5 mK rfl) rfl (wq (aM 0 (.int _ _) aR M3 rfl rfl rfl) rfl (cX rfl rfl rfl rfl (wq (bM false (.bool (decide _)) rfl rfl) rfl (aB (aC ?_)))))
        refine aS rfl (fun h38 => ?_) (fun h38 => ?_)
        ·refine aE (aA (bC rfl rfl (aB (aC (aP (cH (cE (.int _ _) rfl ?_)))))))
         exact ⟨iE (by unfold check; unfold uV at *; (repeat' split) <;> omega), M3.below⟩
        ·refine aL (aC (aE (aE (aA (wq (aD 6 fD rfl) rfl (wq (aD 0 cQ rfl) rfl (wq (aM 0 (.int _ _) aR M3 rfl rfl rfl) rfl (bZ aFy rfl rfl (pV _ _ _ (by omega) (by omega)) ?_))))))))
         rintro v4 w4 ⟨rfl, hb4⟩
         have M4 := M3.callB hb4
         refine wq (nK rfl) rfl (wq (aH (.bool (decide _)) rfl) rfl ?_)
         refine dI 44 rfl (fun g44 => ?_) (fun g44 => ?_)
         ·refine aN rfl rfl (aN rfl rfl (aN rfl rfl (aN rfl rfl (aN rfl rfl (wq (bM true (.bool true) rfl rfl) rfl ?_)))))
          refine aB (aC (cC rfl (aE (aA (bC rfl rfl (aB (aC (aP (cH (cE (.int _ _) rfl ?_))))))))))
          exact ⟨iE (by unfold check; unfold uV at *; (repeat' split) <;> omega), M4.below⟩
         ·refine wq (aD 6 fD rfl) rfl (wq (aD 1 cK rfl) rfl (wq (aM 0 (.int _ _) aR M4 rfl rfl rfl) rfl (bZ aFy rfl rfl (pV _ _ _ (by omega) (by omega)) ?_)))
          rintro v5 w5 ⟨rfl, hb5⟩
          have M5 := M4.callB hb5
          refine wq (nK rfl) rfl (wq (bM false (.bool (decide _)) rfl rfl) rfl (aB (aC ?_)))
          refine aS rfl (fun h50 => ?_) (fun h50 => ?_)
          ·refine aE (aA (bC rfl rfl (aB (aC (aP (cH (cE (.int _ _) rfl ?_)))))))
           exact ⟨iE (by unfold check; unfold uV at *; (repeat' split) <;> omega), M5.below⟩
          ·refine aL (aC (aE (aE (aA (wq (aD 8 dP rfl) rfl (wq (aD 0 cQ rfl) rfl (wq (aM 0 (.int _ _) aR M5 rfl rfl rfl) rfl (bZ aFy rfl rfl (pV _ _ _ (by omega) (by omega)) ?_))))))))
           rintro v6 w6 ⟨rfl, hb6⟩
           have M6 := M5.callB hb6
           refine wq (nK rfl) rfl (wq (aH (.bool (decide _)) rfl) rfl ?_)
           refine dI 56 rfl (fun g56 => ?_) (fun g56 => ?_)
           ·refine aN rfl rfl (aN rfl rfl (aN rfl rfl (aN rfl rfl (aN rfl rfl (wq (bM true (.bool true) rfl rfl) rfl ?_)))))
            refine aB (aC (cC rfl (aE (aA (bC rfl rfl (aB (aC (aP (cH (cE (.int _ _) rfl ?_))))))))))
            exact ⟨iE (by unfold check; unfold uV at *; (repeat' split) <;> omega), M6.below⟩
           ·refine wq (aD 8 dP rfl) rfl (wq (aD 1 cK rfl) rfl (wq (aM 0 (.int _ _) aR M6 rfl rfl rfl) rfl (bZ aFy rfl rfl (pV _ _ _ (by omega) (by omega)) ?_)))
            rintro v7 w7 ⟨rfl, hb7⟩
            have M7 := M6.callB hb7
            refine wq (nK rfl) rfl (wq (bM false (.bool (decide _)) rfl rfl) rfl (aB (aC ?_)))
            refine aS rfl (fun h62 => ?_) (fun h62 => ?_)
            ·refine aE (aA (bC rfl rfl (aB (aC (aP (cH (cE (.int _ _) rfl ?_)))))))
             exact ⟨iE (by unfold check; unfold uV at *; (repeat' split) <;> omega), M7.below⟩
            ·refine aL (aC (aE (aA (bC rfl rfl (aB (aC (aP (cE (.int _ _) rfl ?_))))))))
             exact ⟨iE (by unfold check; unfold uV at *; (repeat' split) <;> omega), M7.below⟩
theorem aZk (a b : Body) : EqA Tryz.prog 40 (aF a) (aF b) (decide (a = b)) := by
 have h := bLm a.key a.radius a.ax a.ay a.mass a.bounce a.px a.py a.vx a.vy b.key b.radius b.ax b.ay b.mass b.bounce b.px b.py b.vx b.vy
 rw [decide_eq_decide.2 (aXn (a := a) (b := b))]
 exact h
set_option maxHeartbeats 4000000 in
theorem gM (w : World) (key : Int) (A : Option Addr) (n c : Nat) (xs : List Body) (R : Rd w 10 A n (xs.map aF)) :
  Calls Tryz.prog 38 #[.slice A n c, .int .u32 key] w (fun ex w' => ∃ v, ex = .returned v ∧ (fun v w' => v = .int .i64 (dG key xs) ∧ Below w.heap.size w w') v w') := by
 have hlen : xs.length = n := by simpa using R.len
 have hbd := R.bound
 refine aI #[.tmp 4] 20 Tryz.func38 rfl Tryz.results38 Tryz.ntmps38 rfl ?_
 have M0 := Mem.refl w
 refine aE (aA (bC rfl rfl (aB (aC (aE (aE (aA (bC rfl rfl (aB (aC (aQ (dQ (σ := Nat) [0, 1] (fun k => [(5, .int .i64 (k : Int))]) (fun k w' => (k ≤ n ∧ ∀ (j : Nat) (c : Body), j < k → xs[j]? = some c → c.key ≠ key) ∧ Mem w [] [] w') (fun k => n - k) 0 (bA rfl dX) (⟨⟨by omega, fun j c hj => by omega⟩, M0⟩) ?_))))))))))))
 rintro k ρ1 w1 ⟨⟨hk, hne⟩, hM1⟩
 refine aE (aE (aA (aO rfl rfl (dN rfl rfl (wq (dB Tryz.underlying22 rfl) rfl (cX rfl rfl rfl rfl (aB (aC ?_))))))))
 refine aS rfl (fun h9 => ?_) (fun h9 => ?_)
 ·obtain ⟨xb, hxb⟩ := cT (k := k) hlen (by omega)
  refine aL (aC (aE (aQ (aE (aA (dN rfl rfl (aO rfl rfl (wq (bN (k) dF rfl rfl rfl ((R.mem hM1).below_len (aG aF hxb)) ((R.mem hM1).someK (aG aF hxb))) rfl (wq (bE 0 dH (R.mem hM1) (Nat.lt_of_le_of_lt (Nat.zero_le _) ((R.mem hM1).below_len (aG aF hxb))) rfl) rfl ?_)))))))))
  refine wq (dV (o := 0) (.int _ _) bU (R.mem hM1) (aG aF hxb) rfl rfl) rfl (aO rfl rfl (cX rfl rfl rfl rfl (aB (aC ?_))))
  refine aS rfl (fun h18 => ?_) (fun h18 => ?_)
  ·refine aE (aA (aO rfl rfl (bC rfl rfl (aB (aC (aP (jP (cH ?_))))))))
   refine pD (jP (cH (cE (.int _ _) rfl ?_)))
   exact ⟨iE (wG hxb h18 hne).symm, hM1.below⟩
  ·refine aL (cO (aC (aA (aO rfl rfl (wq (aY rfl rfl (by omega) (by omega)) rfl (bC rfl rfl ?_))))))
   refine aB ?_
   refine cD (k + 1) (bA rfl dX) (cL rfl (cL rfl gO)) ?_ ?_
   ·exact ⟨⟨by omega, oS hne hxb h18⟩, hM1⟩
   ·omega
 ·refine cV (dD (dK (eO (aC (aE (aA (bC rfl rfl ?_)))))))
  refine aB (aC (aP (cE (.int _ _) rfl ?_)))
  have hkn : k = n := by omega
  exact ⟨iE (aFt (fun j b hj => hne j b (by have := (List.getElem?_eq_some_iff.1 hj).1; omega) hj)).symm, hM1.below⟩
set_option maxHeartbeats 4000000 in
theorem aDw (w : World) (A : Option Addr) (n c : Nat) (xs : List Body) (R : Rd w 10 A n (xs.map aF)) (B : Option Addr) (m c' : Nat) (ys : List Body) (R' : Rd w 10 B m (ys.map aF)) :
  Calls Tryz.prog 18 #[.slice A n c, .slice B m c'] w (fun ex w' => ∃ v, ex = .returned v ∧ (fun v w' => v = .bool (decide (xs = ys)) ∧ Below w.heap.size w w') v w') := by
 have hlen : xs.length = n := by simpa using R.len
 have hbd := R.bound
 have hlen' : ys.length = m := by simpa using R'.len
 have hbd' := R'.bound
 refine aI #[.tmp 4] 26 Tryz.func18 rfl Tryz.results18 Tryz.ntmps18 rfl ?_
 have M0 := Mem.refl w
 refine aE (aA (wq (aJ (.bool false) rfl) rfl (aB (aC (aE (aE (aA (dN rfl rfl (wq (dB Tryz.underlying22 rfl) rfl (dN rfl rfl ?_))))))))))
 refine wq (dB Tryz.underlying22 rfl) rfl (cX rfl rfl rfl rfl (aB (aC ?_)))
 refine aS rfl (fun h10 => ?_) (fun h10 => ?_)
 ·refine aE (aA (wq (aJ (.bool false) rfl) rfl (aB (aC (aP (cH (cE (.bool false) rfl ?_)))))))
  exact ⟨bF (fun e => h10 (by rw [← hlen, ← hlen', e])), M0.below⟩
 ·have hnm : n = m := by omega
  refine aL (aC (aE (aE (aA (bC rfl rfl (aB (aC (aQ (dQ (σ := Nat) [0, 1] (fun k => [(5, .int .i64 (k : Int))]) (fun k w' => (k ≤ n ∧ ∀ (j : Nat) (x : Body), j < k → xs[j]? = some x → ys[j]? = some x) ∧ Mem w [] [] w') (fun k => n - k) 0 (bA rfl dX) (⟨⟨by omega, fun j c hj => by omega⟩, M0⟩) ?_)))))))))
  rintro k ρ1 w1 ⟨⟨hk, hne⟩, hM1⟩
  refine aE (aE (aA (aO rfl rfl (dN rfl rfl (wq (dB Tryz.underlying22 rfl) rfl (cX rfl rfl rfl rfl (aB (aC ?_))))))))
  refine aS rfl (fun h14 => ?_) (fun h14 => ?_)
  ·obtain ⟨xb, hxb⟩ := cT (k := k) hlen (by omega)
   obtain ⟨yb, hyb⟩ := cT (k := k) hlen' (by omega)
   refine aL (aC (aE (aQ (aE (bR [(0, 0), (1, 0), (2, 1), (3, 1), (4, 0), (5, 0), (6, 1), (7, 1), (8, 0)] mixed rfl (by kernel_rfl) (fun w2 hb2 hh2 => ?_))))))
   have M2 := hM1.drew hb2 hh2
   refine kQ rfl rfl rfl (eF rfl rfl rfl (bV rfl rfl rfl (bN (k) dF rfl rfl rfl ((R.mem M2).below_len (aG aF hxb)) ((R.mem M2).someK (aG aF hxb))) (bV rfl rfl rfl (dJ _ bK (R.mem M2) (aG aF hxb) rfl) (kQ rfl rfl rfl (eF rfl rfl rfl ?_)))))
   refine bV rfl rfl rfl (bN (k) dF rfl rfl rfl ((R'.mem M2).below_len (aG aF hyb)) ((R'.mem M2).someK (aG aF hyb))) (bV rfl rfl rfl (dJ _ bK (R'.mem M2) (aG aF hyb) rfl) (aX rfl rfl rfl (fun _ => bLn (aZk xb yb) rfl rfl) (bY (aC ?_))))
   refine aS rfl (fun h25 => ?_) (fun h25 => ?_)
   ·refine aE (aA (wq (aJ (.bool false) rfl) rfl (aB (aC (aP (jP (cH (pD ?_))))))))
    refine jP (cH (cE (.bool false) rfl ?_))
    exact ⟨bF (fun e => h25 (by rw [e] at hxb; rw [hxb] at hyb; injection hyb)), M2.below⟩
   ·refine aL (cO (aC (aA (aO rfl rfl (wq (aY rfl rfl (by omega) (by omega)) rfl (bC rfl rfl ?_))))))
    refine aB ?_
    refine cD (k + 1) (bA rfl dX) (cL rfl (cL rfl gO)) ?_ ?_
    ·exact ⟨⟨by omega, oS (p := fun j x => ys[j]? = some x) hne hxb (by rw [hyb, Decidable.not_not.1 h25])⟩, M2⟩
    ·omega
  ·refine cV (dD (dK (eO (aC (aE (aA (wq (aJ (.bool true) rfl) rfl ?_)))))))
   refine aB (aC (aP (cE (.bool true) rfl ?_)))
   exact ⟨bT (List.ext_getElem? fun j => by
   by_cases hj : j < xs.length
   ·obtain ⟨x, hx⟩ := cT (k := j) rfl hj
    rw [hx, hne j x (by omega) hx]
   ·rw [List.getElem?_eq_none (by omega), List.getElem?_eq_none (by omega)]), hM1.below⟩
set_option maxHeartbeats 4000000 in
theorem tG (w : World) (b : Body) (gone : Bool) (A : Option Addr) (n c : Nat) (xs : List Body) (R : Rd w 10 A n (xs.map aF)) (hn : n ≤ 1048576) :
  Calls Tryz.prog 90 #[.slice A n c, (.agg (aF b).toArray), .bool gone] w (fun ex w' => ∃ v, ex = .returned v ∧ (fun v w' => ∃ A' n' c' e, v = .slice A' n' c' ∧ bH 40 10 A' n' c' ((uL xs b gone).map aF) e ∧ Mem w [] [e] w') v w') := by
 have hlen : xs.length = n := by simpa using R.len
 have hbd := R.bound
 refine aI #[.tmp 6] 55 Tryz.func90 rfl Tryz.results90 Tryz.ntmps90 rfl ?_
 have M0 := Mem.refl w
 refine aE (aA (bP (.agg (List.toArray _)) M0 rfl rfl rfl (fun b1 w1 M1 => (eN rfl rfl (aB (aC (aE (aA (eN rfl rfl ?_)))))))))
 have M2 := M1.dummy default
 refine aB (aC (aE (aA (wq (aH (.bool _) rfl) rfl (wq (aJ (.bool _) rfl) rfl (aB (aC (aE (aE (aA (bC rfl rfl (aB (aC (aQ ?_))))))))))))))
 refine dQ (σ := Nat × List Body × Bool × Row) [0, 4, 6] (fun (k, acc, done, r) => [(7, .slice r.A r.n r.c), (8, .bool done), (9, .int .i64 (k : Int))]) (fun (k, acc, done, r) w' => (k ≤ n ∧ jF b gone (xs.take k) = (acc, done) ∧ bH 40 10 r.A r.n r.c (acc.map aF) r.e) ∧ Mem w [] [(some b1, bc (aF b) 40), r.e] w') (fun (k, acc, done, r) => n - k) (0, [], gone, ⟨none, 0, 0, (none, default)⟩) (bA rfl (bA rfl (bA rfl dX))) (⟨⟨by omega, rfl, bH.nil _ _ _⟩, M2⟩) ?_
 rintro ⟨k, acc, done, r⟩ ρ3 w3 ⟨⟨hk, heq, hr⟩, hM3⟩
 have hra : acc.length = r.n := by simpa using hr.1
 have hrl : acc.length ≤ k + 1 := by have h := aOx b gone xs k; rw [heq] at h; exact h
 refine aE (aE (aA (aO rfl rfl (dN rfl rfl (wq (dB Tryz.underlying22 rfl) rfl (cX rfl rfl rfl rfl (aB (aC ?_))))))))
 refine aS rfl (fun h14 => ?_) (fun h14 => ?_)
 ·obtain ⟨xb, hxb⟩ := cT (k := k) hlen (by omega)
  refine aL (aC (aE (aQ (aE (aE (bR [(0, 0), (1, 0), (2, 0), (3, 0), (4, 0), (5, 1), (6, 1), (7, 1), (8, 0), (9, 1), (10, 0), (11, 0)] mixed rfl (by kernel_rfl) (fun w4 hb4 hh4 => ?_)))))))
  have M4 := hM3.drew hb4 hh4
  refine aX rfl rfl rfl (fun _ => aH (.bool _) rfl) (aX rfl rfl rfl (fun _ => iD _ rfl rfl) (aX rfl rfl rfl (fun _ => aH (.bool _) rfl) ?_))
  refine aRh 19 _ rfl (fun g19 => ?_) (fun g19 => ?_)
  ·have hd : done = false := by simpa using g19
   refine kQ rfl rfl rfl (eF rfl rfl rfl (bV rfl rfl rfl (bN (k) dF rfl rfl rfl ((R.mem M4).below_len (aG aF hxb)) ((R.mem M4).someK (aG aF hxb))) (bV rfl rfl rfl (bE 0 dH (R.mem M4) (Nat.lt_of_le_of_lt (Nat.zero_le _) ((R.mem M4).below_len (aG aF hxb))) rfl) ?_)))
   refine bV rfl rfl rfl (dV (o := 0) (.int _ _) bU (R.mem M4) (aG aF hxb) rfl rfl) (aX rfl rfl rfl (fun _ => aD 0 dH rfl) (bV rfl rfl rfl (aM 0 (.int _ _) bU M4 rfl rfl rfl) (aX rfl rfl rfl (fun _ => cA (.bool (decide _)) rfl rfl rfl) (aX rfl rfl rfl (fun _ => bM true (.bool (decide _)) rfl rfl) ?_))))
   refine bY (aC ?_)
   refine aS rfl (fun h28 => ?_) (fun h28 => ?_)
   ·refine aE (aA (wq (aJ (.bool true) rfl) rfl (aB (aC (aA (dN rfl rfl (wq (aU 0 bK M4 rfl rfl rfl) rfl (cU [.agg (List.toArray _)] _ rfl dF M4 rfl rfl rfl rfl (dE rfl) (by decide) (fun b5 w5 M5 => ?_)))))))))
    refine dL 1 [aF b] dF M5 rfl rfl rfl rfl rfl hr rfl (by simpa using ⟨gV b, gT b⟩) (dR.ofMem 2 M5 rfl) (by omega) (fun A6 c6 e6 w6 M6 hR6 => (eN rfl rfl (aB (aC (aE (bR [(0, 0), (1, 0), (2, 1), (3, 1), (4, 1), (5, 0), (6, 1), (7, 0)] mixed rfl (by kernel_rfl) (fun w7 hb7 hh7 => ?_)))))))
    have M7 := M6.drew hb7 hh7
    refine kQ rfl rfl rfl (eF rfl rfl rfl (bV rfl rfl rfl (bN (k) dF rfl rfl rfl ((R.mem M7).below_len (aG aF hxb)) ((R.mem M7).someK (aG aF hxb))) (bV rfl rfl rfl (bE 0 dH (R.mem M7) (Nat.lt_of_le_of_lt (Nat.zero_le _) ((R.mem M7).below_len (aG aF hxb))) rfl) ?_)))
    refine bV rfl rfl rfl (dV (o := 0) (.int _ _) bU (R.mem M7) (aG aF hxb) rfl rfl) (aX rfl rfl rfl (fun _ => aD 0 dH rfl) (bV rfl rfl rfl (aM 0 (.int _ _) bU M7 rfl rfl rfl) (aX rfl rfl rfl (fun _ => cA (.bool (decide _)) rfl rfl rfl) (bY (aC ?_)))))
    refine aS rfl (fun h40 => ?_) (fun h40 => ?_)
    ·refine aA (dN rfl rfl (dN rfl rfl (aO rfl rfl (wq (bN (k) dF rfl rfl rfl ((R.mem M7).below_len (aG aF hxb)) ((R.mem M7).someK (aG aF hxb))) rfl (wq (dJ _ bK (R.mem M7) (aG aF hxb) rfl) rfl ?_)))))
     refine cU [.agg (List.toArray _)] _ rfl dF M7 rfl rfl rfl rfl (dE rfl) (by decide) (fun b8 w8 M8 => (dL 1 [aF xb] dF M8 rfl rfl rfl rfl rfl hR6 rfl (by simpa using ⟨gV xb, gT xb⟩) (dR.ofMem 3 M8 rfl) (by omega) (fun A9 c9 e9 w9 M9 hR9 => (eN rfl rfl (aB ?_)))))
     refine cO (aC (aA (aO rfl rfl (wq (aY rfl rfl (by omega) (by omega)) rfl (bC rfl rfl (aB ?_))))))
     refine cD (k + 1, (jF b gone (xs.take (k + 1))).1, (jF b gone (xs.take (k + 1))).2, ⟨A9, r.n + 1 + 1, c9, e9⟩) (bA rfl (bA (bv rfl (by rw [fW b gone hxb, heq]; simp [fL, *])) (bA rfl dX))) (cL rfl (cL rfl (cL rfl gO))) ?_ ?_
     ·exact ⟨⟨by omega, rfl, by rw [fW b gone hxb, heq]; simpa [fL, *] using hR9⟩, M9.keep [true, true, false, false]⟩
     ·(show n - (k + 1) < n - k; omega)
    ·refine aL (cO (aC (aA (aO rfl rfl (wq (aY rfl rfl (by omega) (by omega)) rfl (bC rfl rfl ?_))))))
     refine aB ?_
     refine cD (k + 1, (jF b gone (xs.take (k + 1))).1, (jF b gone (xs.take (k + 1))).2, ⟨A6, r.n + 1, c6, e6⟩) (bA rfl (bA (bv rfl (by rw [fW b gone hxb, heq]; simp [fL, *])) (bA rfl dX))) (cL rfl (cL rfl (cL rfl gO))) ?_ ?_
     ·exact ⟨⟨by omega, rfl, by rw [fW b gone hxb, heq]; simpa [fL, *] using hR6⟩, M7.keep [true, true, false]⟩
     ·(show n - (k + 1) < n - k; omega)
   ·refine aL (aC (aE (bR [(0, 0), (1, 0), (2, 1), (3, 1), (4, 1), (5, 0), (6, 1), (7, 0)] mixed rfl (by kernel_rfl) (fun w10 hb10 hh10 => ?_))))
    have M10 := M4.drew hb10 hh10
    refine kQ rfl rfl rfl (eF rfl rfl rfl (bV rfl rfl rfl (bN (k) dF rfl rfl rfl ((R.mem M10).below_len (aG aF hxb)) ((R.mem M10).someK (aG aF hxb))) (bV rfl rfl rfl (bE 0 dH (R.mem M10) (Nat.lt_of_le_of_lt (Nat.zero_le _) ((R.mem M10).below_len (aG aF hxb))) rfl) ?_)))
    refine bV rfl rfl rfl (dV (o := 0) (.int _ _) bU (R.mem M10) (aG aF hxb) rfl rfl) (aX rfl rfl rfl (fun _ => aD 0 dH rfl) (bV rfl rfl rfl (aM 0 (.int _ _) bU M10 rfl rfl rfl) (aX rfl rfl rfl (fun _ => cA (.bool (decide _)) rfl rfl rfl) (bY (aC ?_)))))
    refine aS rfl (fun h40 => ?_) (fun h40 => ?_)
    ·refine aA (dN rfl rfl (dN rfl rfl (aO rfl rfl (wq (bN (k) dF rfl rfl rfl ((R.mem M10).below_len (aG aF hxb)) ((R.mem M10).someK (aG aF hxb))) rfl (wq (dJ _ bK (R.mem M10) (aG aF hxb) rfl) rfl ?_)))))
     refine cU [.agg (List.toArray _)] _ rfl dF M10 rfl rfl rfl rfl (dE rfl) (by decide) (fun b11 w11 M11 => (dL 1 [aF xb] dF M11 rfl rfl rfl rfl rfl hr rfl (by simpa using ⟨gV xb, gT xb⟩) (dR.ofMem 2 M11 rfl) (by omega) (fun A12 c12 e12 w12 M12 hR12 => (eN rfl rfl ?_))))
     refine aB (cO (aC (aA (aO rfl rfl (wq (aY rfl rfl (by omega) (by omega)) rfl (bC rfl rfl ?_))))))
     refine aB ?_
     refine cD (k + 1, (jF b gone (xs.take (k + 1))).1, (jF b gone (xs.take (k + 1))).2, ⟨A12, r.n + 1, c12, e12⟩) (bA rfl (bA (bv rfl (by rw [fW b gone hxb, heq]; simp [fL, *])) (bA rfl dX))) (cL rfl (cL rfl (cL rfl gO))) ?_ ?_
     ·exact ⟨⟨by omega, rfl, by rw [fW b gone hxb, heq]; simpa [fL, *] using hR12⟩, M12.keep [true, true, false]⟩
     ·(show n - (k + 1) < n - k; omega)
    ·refine aL (cO (aC (aA (aO rfl rfl (wq (aY rfl rfl (by omega) (by omega)) rfl (bC rfl rfl ?_))))))
     refine aB ?_
     refine cD (k + 1, (jF b gone (xs.take (k + 1))).1, (jF b gone (xs.take (k + 1))).2, r) (bA rfl (bA (bv rfl (by rw [fW b gone hxb, heq]; simp [fL, *])) (bA rfl dX))) (cL rfl (cL rfl (cL rfl gO))) ?_ ?_
     ·exact ⟨⟨by omega, rfl, by rw [fW b gone hxb, heq]; simpa [fL, *] using hr⟩, M10.keep [true, true]⟩
     ·(show n - (k + 1) < n - k; omega)
  ·have hd : done = true := by simpa using g19
   refine D_s rfl rfl rfl (D_s rfl rfl rfl (xJ rfl rfl rfl (xJ rfl rfl rfl (xJ rfl rfl rfl (D_s rfl rfl rfl ?_)))))
   refine xJ rfl rfl rfl (D_s rfl rfl rfl (aX rfl rfl rfl (fun _ => bM false (.bool false) rfl rfl) (bY (aC (cM rfl ?_)))))
   refine aL (aC (aE (bR [(0, 0), (1, 0), (2, 1), (3, 1), (4, 1), (5, 0), (6, 1), (7, 0)] mixed rfl (by kernel_rfl) (fun w13 hb13 hh13 => ?_))))
   have M13 := M4.drew hb13 hh13
   refine kQ rfl rfl rfl (eF rfl rfl rfl (bV rfl rfl rfl (bN (k) dF rfl rfl rfl ((R.mem M13).below_len (aG aF hxb)) ((R.mem M13).someK (aG aF hxb))) (bV rfl rfl rfl (bE 0 dH (R.mem M13) (Nat.lt_of_le_of_lt (Nat.zero_le _) ((R.mem M13).below_len (aG aF hxb))) rfl) ?_)))
   refine bV rfl rfl rfl (dV (o := 0) (.int _ _) bU (R.mem M13) (aG aF hxb) rfl rfl) (aX rfl rfl rfl (fun _ => aD 0 dH rfl) (bV rfl rfl rfl (aM 0 (.int _ _) bU M13 rfl rfl rfl) (aX rfl rfl rfl (fun _ => cA (.bool (decide _)) rfl rfl rfl) (bY (aC ?_)))))
   refine aS rfl (fun h40 => ?_) (fun h40 => ?_)
   ·refine aA (dN rfl rfl (dN rfl rfl (aO rfl rfl (wq (bN (k) dF rfl rfl rfl ((R.mem M13).below_len (aG aF hxb)) ((R.mem M13).someK (aG aF hxb))) rfl (wq (dJ _ bK (R.mem M13) (aG aF hxb) rfl) rfl ?_)))))
    refine cU [.agg (List.toArray _)] _ rfl dF M13 rfl rfl rfl rfl (dE rfl) (by decide) (fun b14 w14 M14 => (dL 1 [aF xb] dF M14 rfl rfl rfl rfl rfl hr rfl (by simpa using ⟨gV xb, gT xb⟩) (dR.ofMem 2 M14 rfl) (by omega) (fun A15 c15 e15 w15 M15 hR15 => (eN rfl rfl ?_))))
    refine aB (cO (aC (aA (aO rfl rfl (wq (aY rfl rfl (by omega) (by omega)) rfl (bC rfl rfl ?_))))))
    refine aB ?_
    refine cD (k + 1, (jF b gone (xs.take (k + 1))).1, (jF b gone (xs.take (k + 1))).2, ⟨A15, r.n + 1, c15, e15⟩) (bA rfl (bA (bv rfl (by rw [fW b gone hxb, heq]; simp [fL, *])) (bA rfl dX))) (cL rfl (cL rfl (cL rfl gO))) ?_ ?_
    ·exact ⟨⟨by omega, rfl, by rw [fW b gone hxb, heq]; simpa [fL, *] using hR15⟩, M15.keep [true, true, false]⟩
    ·(show n - (k + 1) < n - k; omega)
   ·refine aL (cO (aC (aA (aO rfl rfl (wq (aY rfl rfl (by omega) (by omega)) rfl (bC rfl rfl ?_))))))
    refine aB ?_
    refine cD (k + 1, (jF b gone (xs.take (k + 1))).1, (jF b gone (xs.take (k + 1))).2, r) (bA rfl (bA (bv rfl (by rw [fW b gone hxb, heq]; simp [fL, *])) (bA rfl dX))) (cL rfl (cL rfl (cL rfl gO))) ?_ ?_
    ·exact ⟨⟨by omega, rfl, by rw [fW b gone hxb, heq]; simpa [fL, *] using hr⟩, M13.keep [true, true]⟩
    ·(show n - (k + 1) < n - k; omega)
 ·have hkn : k = n := by omega
  subst hkn
  rw [List.take_of_length_le (by omega)] at heq
  refine cV (dD (dK (eO (aC (aE (aE (aA (wq (aH (.bool _) rfl) rfl ?_))))))))
  refine wq (iD _ rfl rfl) rfl (aB (aC ?_))
  refine iB _ rfl (fun h49 => ?_) (fun h49 => ?_)
  ·have hd : done = false := by simpa using h49
   refine aA (dN rfl rfl (wq (aU 0 bK hM3 rfl rfl rfl) rfl (cU [.agg (List.toArray _)] _ rfl dF hM3 rfl rfl rfl rfl (dE rfl) (by decide) (fun b16 w16 M16 => (dL 1 [aF b] dF M16 rfl rfl rfl rfl rfl hr rfl (by simpa using ⟨gV b, gT b⟩) (dR.ofMem 2 M16 rfl) (by omega) (fun A17 c17 e17 w17 M17 hR17 => ?_))))))
   refine eN rfl rfl (aB (aC (aE (aA (dN rfl rfl (eN rfl rfl (aB (aC (aP (cE (.slice _ _ _) rfl ?_))))))))))
   exact ⟨_, _, _, _, rfl, by unfold uL; rw [heq]; simpa [*] using hR17, M17.keep [false, true, false]⟩
  ·have hd : done = true := by simpa using h49
   refine aL (aC (aE (aA (dN rfl rfl (eN rfl rfl (aB (aC (aP (cE (.slice _ _ _) rfl ?_)))))))))
   exact ⟨_, _, _, _, rfl, by unfold uL; rw [heq]; simpa [*] using hr, hM3.keep [false, true]⟩
set_option maxHeartbeats 4000000 in
theorem sJ (w : World) (x y l : Int) (h0 : 0 ≤ l) (h1 : l ≤ 2147483647) :
  Calls Tryz.prog 124 #[.agg [.int .i32 x, .int .i32 y].toArray, .int .i32 l] w (fun ex w' => ∃ v, ex = .returned v ∧ (fun v w' => v = .bool (decide (-l ≤ x ∧ x ≤ l ∧ -l ≤ y ∧ y ≤ l)) ∧ Below w.heap.size w w') v w') := by
 have hneg : IntKind.i32.wrap (-l) = -l := iP _ (by omega) (by omega)
 refine aI #[.tmp 4] 29 Tryz.func124 rfl Tryz.results124 Tryz.ntmps124 rfl ?_
 have M0 := Mem.refl w
 refine aE (aA (bP (.agg (List.toArray _)) M0 rfl rfl rfl (fun b1 w1 M1 => (wq (aJ (.bool false) rfl) rfl (aB (aC (aE (aA (aO rfl rfl (wq (pN rfl) rfl ?_))))))))))
 refine aK 6 (.int .i32 (-l)) (iE hneg) (wq (aD 0 cQ rfl) rfl (wq (aM 0 (.int _ _) aR M1 rfl rfl rfl) rfl (cX rfl rfl rfl rfl (wq (aH (.bool (decide _)) rfl) rfl ?_))))
 refine dI 10 rfl (fun g10 => ?_) (fun g10 => ?_)
 ·refine wq (aD 0 cQ rfl) rfl (wq (aM 0 (.int _ _) aR M1 rfl rfl rfl) rfl (aO rfl rfl (cX rfl rfl rfl rfl (wq (bM true (.bool (decide _)) rfl rfl) rfl (wq (aH (.bool (decide _)) rfl) rfl ?_)))))
  refine dI 16 rfl (fun g16 => ?_) (fun g16 => ?_)
  ·refine aO rfl rfl (wq (pN rfl) rfl (aK 18 (.int .i32 (-l)) (iE hneg) (wq (aD 1 cK rfl) rfl (wq (aM 0 (.int _ _) aR M1 rfl rfl rfl) rfl (cX rfl rfl rfl rfl ?_)))))
   refine wq (bM true (.bool (decide _)) rfl rfl) rfl (wq (aH (.bool (decide _)) rfl) rfl ?_)
   refine dI 23 rfl (fun g23 => ?_) (fun g23 => ?_)
   ·refine wq (aD 1 cK rfl) rfl (wq (aM 0 (.int _ _) aR M1 rfl rfl rfl) rfl (aO rfl rfl (cX rfl rfl rfl rfl (wq (bM true (.bool (decide _)) rfl rfl) rfl (wq (aJ (.bool (decide _)) rfl) rfl ?_)))))
    refine aB (aC (aP (cE (.bool (decide _)) rfl ?_)))
    exact ⟨by first | exact bF (by omega) | exact bT (by omega) | exact bD (by omega), M1.below⟩
   ·refine aN rfl rfl (aN rfl rfl (aN rfl rfl (aN rfl rfl (wq (bM false (.bool false) rfl rfl) rfl (wq (aJ (.bool false) rfl) rfl ?_)))))
    refine aB (aC (aP (cE (.bool false) rfl ?_)))
    exact ⟨by first | exact bF (by omega) | exact bT (by omega) | exact bD (by omega), M1.below⟩
  ·refine aN rfl rfl (aN rfl rfl (aN rfl rfl (aN rfl rfl (aN rfl rfl (wq (bM false (.bool false) rfl rfl) rfl ?_)))))
   refine wq (aH (.bool false) rfl) rfl (aN rfl rfl (aN rfl rfl (aN rfl rfl (aN rfl rfl (wq (bM false (.bool false) rfl rfl) rfl ?_)))))
   refine wq (aJ (.bool false) rfl) rfl (aB (aC (aP (cE (.bool false) rfl ?_))))
   exact ⟨by first | exact bF (by omega) | exact bT (by omega) | exact bD (by omega), M1.below⟩
 ·refine aN rfl rfl (aN rfl rfl (aN rfl rfl (aN rfl rfl (wq (bM false (.bool false) rfl rfl) rfl (wq (aH (.bool false) rfl) rfl ?_)))))
  refine aN rfl rfl (aN rfl rfl (aN rfl rfl (aN rfl rfl (aN rfl rfl (wq (bM false (.bool false) rfl rfl) rfl ?_)))))
  refine wq (aH (.bool false) rfl) rfl (aN rfl rfl (aN rfl rfl (aN rfl rfl (aN rfl rfl (wq (bM false (.bool false) rfl rfl) rfl ?_)))))
  refine wq (aJ (.bool false) rfl) rfl (aB (aC (aP (cE (.bool false) rfl ?_))))
  exact ⟨by first | exact bF (by omega) | exact bT (by omega) | exact bD (by omega), M1.below⟩
set_option maxHeartbeats 4000000 in
theorem aMo (w : World) (b : Body) (p : Nat) (R : Rd w 10 (some ⟨p, 0, none⟩) 1 [aF b]) :
  Calls Tryz.prog 122 #[.pointer (some ⟨p, 0, none⟩)] w (fun ex w' => ∃ v, ex = .returned v ∧ (fun v w' => v = .bool (decide (4096 ≤ b.radius ∧ b.radius ≤ 4194304)) ∧ Below w.heap.size w w') v w') := by
 rw [← gJ p]
 refine aI #[.tmp 1] 10 Tryz.func122 rfl Tryz.results122 Tryz.ntmps122 rfl ?_
 have M0 := Mem.refl w
 refine aE (aA (wq (aJ (.bool false) rfl) rfl (aB (aC (aE (aA (wq (bE 1 kT R (Nat.lt_of_le_of_lt (Nat.zero_le _) (R.below_len (show [aF b][0]? = some (aF b) from rfl))) rfl) rfl (wq (dV (o := 1) (.int _ _) aR R (show [aF b][0]? = some (aF b) from rfl) rfl rfl) rfl ?_))))))))
 refine cX rfl rfl rfl rfl (wq (aH (.bool (decide _)) rfl) rfl ?_)
 refine dI 5 rfl (fun g5 => ?_) (fun g5 => ?_)
 ·refine wq (bE 1 kT R (Nat.lt_of_le_of_lt (Nat.zero_le _) (R.below_len (show [aF b][0]? = some (aF b) from rfl))) rfl) rfl (wq (dV (o := 1) (.int _ _) aR R (show [aF b][0]? = some (aF b) from rfl) rfl rfl) rfl (cX rfl rfl rfl rfl (wq (bM true (.bool (decide _)) rfl rfl) rfl ?_)))
  refine wq (aJ (.bool (decide _)) rfl) rfl (aB (aC (aP (cE (.bool (decide _)) rfl ?_))))
  exact ⟨by first | exact bF (by omega) | exact bT (by omega) | exact bD (by omega), M0.below⟩
 ·refine aN rfl rfl (aN rfl rfl (aN rfl rfl (wq (bM false (.bool false) rfl rfl) rfl (wq (aJ (.bool false) rfl) rfl (aB (aC (aP ?_)))))))
  refine cE (.bool false) rfl ?_
  exact ⟨by first | exact bF (by omega) | exact bT (by omega) | exact bD (by omega), M0.below⟩
set_option maxHeartbeats 4000000 in
theorem aKp (w : World) (b : Body) (p : Nat) (R : Rd w 10 (some ⟨p, 0, none⟩) 1 [aF b]) :
  Calls Tryz.prog 123 #[.pointer (some ⟨p, 0, none⟩)] w (fun ex w' => ∃ v, ex = .returned v ∧ (fun v w' => v = .bool (decide (-4194304 ≤ b.ax ∧ b.ax ≤ 4194304 ∧ -4194304 ≤ b.ay ∧ b.ay ≤ 4194304)) ∧ Below w.heap.size w w') v w') := by
 rw [← gJ p]
 refine aI #[.tmp 1] 5 Tryz.func123 rfl Tryz.results123 Tryz.ntmps123 rfl ?_
 have M0 := Mem.refl w
 refine aE (aA (wq (aJ (.bool false) rfl) rfl (aB (aC (aE (aA (wq (bE 2 iH R (Nat.lt_of_le_of_lt (Nat.zero_le _) (R.below_len (show [aF b][0]? = some (aF b) from rfl))) rfl) rfl (wq (aBe (o := 2) _ bI R (show [aF b][0]? = some (aF b) from rfl) rfl rfl rfl) rfl ?_))))))))
 refine bZ aOo rfl rfl (sJ _ _ _ _ (by omega) (by omega)) ?_
 rintro v1 w1 ⟨rfl, hb1⟩
 have M1 := M0.callB hb1
 refine wq (aJ (.bool (decide _)) rfl) rfl (aB (aC (aP (cE (.bool (decide _)) rfl ?_))))
 exact ⟨by first | exact bF (by omega) | exact bT (by omega) | exact bD (by omega), M1.below⟩
set_option maxHeartbeats 4000000 in
theorem aMr (w : World) (b : Body) (p : Nat) (R : Rd w 10 (some ⟨p, 0, none⟩) 1 [aF b]) :
  Calls Tryz.prog 125 #[.pointer (some ⟨p, 0, none⟩)] w (fun ex w' => ∃ v, ex = .returned v ∧ (fun v w' => v = .bool (decide (0 ≤ b.mass ∧ b.mass ≤ 1048576)) ∧ Below w.heap.size w w') v w') := by
 rw [← gJ p]
 refine aI #[.tmp 1] 10 Tryz.func125 rfl Tryz.results125 Tryz.ntmps125 rfl ?_
 have M0 := Mem.refl w
 refine aE (aA (wq (aJ (.bool false) rfl) rfl (aB (aC (aE (aA (wq (bE 4 eC R (Nat.lt_of_le_of_lt (Nat.zero_le _) (R.below_len (show [aF b][0]? = some (aF b) from rfl))) rfl) rfl (wq (dV (o := 4) (.int _ _) aR R (show [aF b][0]? = some (aF b) from rfl) rfl rfl) rfl ?_))))))))
 refine cX rfl rfl rfl rfl (wq (aH (.bool (decide _)) rfl) rfl ?_)
 refine dI 5 rfl (fun g5 => ?_) (fun g5 => ?_)
 ·refine wq (bE 4 eC R (Nat.lt_of_le_of_lt (Nat.zero_le _) (R.below_len (show [aF b][0]? = some (aF b) from rfl))) rfl) rfl (wq (dV (o := 4) (.int _ _) aR R (show [aF b][0]? = some (aF b) from rfl) rfl rfl) rfl (cX rfl rfl rfl rfl (wq (bM true (.bool (decide _)) rfl rfl) rfl ?_)))
  refine wq (aJ (.bool (decide _)) rfl) rfl (aB (aC (aP (cE (.bool (decide _)) rfl ?_))))
  exact ⟨by first | exact bF (by omega) | exact bT (by omega) | exact bD (by omega), M0.below⟩
 ·refine aN rfl rfl (aN rfl rfl (aN rfl rfl (wq (bM false (.bool false) rfl rfl) rfl (wq (aJ (.bool false) rfl) rfl (aB (aC (aP ?_)))))))
  refine cE (.bool false) rfl ?_
  exact ⟨by first | exact bF (by omega) | exact bT (by omega) | exact bD (by omega), M0.below⟩
set_option maxHeartbeats 4000000 in
theorem aLc (w : World) (b : Body) (p : Nat) (R : Rd w 10 (some ⟨p, 0, none⟩) 1 [aF b]) :
  Calls Tryz.prog 126 #[.pointer (some ⟨p, 0, none⟩)] w (fun ex w' => ∃ v, ex = .returned v ∧ (fun v w' => v = .bool (decide (0 ≤ b.bounce ∧ b.bounce ≤ 65536)) ∧ Below w.heap.size w w') v w') := by
 rw [← gJ p]
 refine aI #[.tmp 1] 10 Tryz.func126 rfl Tryz.results126 Tryz.ntmps126 rfl ?_
 have M0 := Mem.refl w
 refine aE (aA (wq (aJ (.bool false) rfl) rfl (aB (aC (aE (aA (wq (bE 5 mK R (Nat.lt_of_le_of_lt (Nat.zero_le _) (R.below_len (show [aF b][0]? = some (aF b) from rfl))) rfl) rfl (wq (dV (o := 5) (.int _ _) aR R (show [aF b][0]? = some (aF b) from rfl) rfl rfl) rfl ?_))))))))
 refine cX rfl rfl rfl rfl (wq (aH (.bool (decide _)) rfl) rfl ?_)
 refine dI 5 rfl (fun g5 => ?_) (fun g5 => ?_)
 ·refine wq (bE 5 mK R (Nat.lt_of_le_of_lt (Nat.zero_le _) (R.below_len (show [aF b][0]? = some (aF b) from rfl))) rfl) rfl (wq (dV (o := 5) (.int _ _) aR R (show [aF b][0]? = some (aF b) from rfl) rfl rfl) rfl (cX rfl rfl rfl rfl (wq (bM true (.bool (decide _)) rfl rfl) rfl ?_)))
  refine wq (aJ (.bool (decide _)) rfl) rfl (aB (aC (aP (cE (.bool (decide _)) rfl ?_))))
  exact ⟨by first | exact bF (by omega) | exact bT (by omega) | exact bD (by omega), M0.below⟩
 ·refine aN rfl rfl (aN rfl rfl (aN rfl rfl (wq (bM false (.bool false) rfl rfl) rfl (wq (aJ (.bool false) rfl) rfl (aB (aC (aP ?_)))))))
  refine cE (.bool false) rfl ?_
  exact ⟨by first | exact bF (by omega) | exact bT (by omega) | exact bD (by omega), M0.below⟩
set_option maxHeartbeats 4000000 in
theorem aJr (w : World) (b : Body) (p : Nat) (R : Rd w 10 (some ⟨p, 0, none⟩) 1 [aF b]) :
  Calls Tryz.prog 127 #[.pointer (some ⟨p, 0, none⟩)] w (fun ex w' => ∃ v, ex = .returned v ∧ (fun v w' => v = .bool (decide (-1073741824 ≤ b.px ∧ b.px ≤ 1073741824 ∧ -1073741824 ≤ b.py ∧ b.py ≤ 1073741824)) ∧ Below w.heap.size w w') v w') := by
 rw [← gJ p]
 refine aI #[.tmp 1] 5 Tryz.func127 rfl Tryz.results127 Tryz.ntmps127 rfl ?_
 have M0 := Mem.refl w
 refine aE (aA (wq (aJ (.bool false) rfl) rfl (aB (aC (aE (aA (wq (bE 6 fD R (Nat.lt_of_le_of_lt (Nat.zero_le _) (R.below_len (show [aF b][0]? = some (aF b) from rfl))) rfl) rfl (wq (aBe (o := 6) _ bI R (show [aF b][0]? = some (aF b) from rfl) rfl rfl rfl) rfl ?_))))))))
 refine bZ aOo rfl rfl (sJ _ _ _ _ (by omega) (by omega)) ?_
 rintro v1 w1 ⟨rfl, hb1⟩
 have M1 := M0.callB hb1
 refine wq (aJ (.bool (decide _)) rfl) rfl (aB (aC (aP (cE (.bool (decide _)) rfl ?_))))
 exact ⟨by first | exact bF (by omega) | exact bT (by omega) | exact bD (by omega), M1.below⟩
set_option maxHeartbeats 4000000 in
theorem aLl (w : World) (b : Body) (p : Nat) (R : Rd w 10 (some ⟨p, 0, none⟩) 1 [aF b]) :
  Calls Tryz.prog 128 #[.pointer (some ⟨p, 0, none⟩)] w (fun ex w' => ∃ v, ex = .returned v ∧ (fun v w' => v = .bool (decide (-16777216 ≤ b.vx ∧ b.vx ≤ 16777216 ∧ -16777216 ≤ b.vy ∧ b.vy ≤ 16777216)) ∧ Below w.heap.size w w') v w') := by
 rw [← gJ p]
 refine aI #[.tmp 1] 5 Tryz.func128 rfl Tryz.results128 Tryz.ntmps128 rfl ?_
 have M0 := Mem.refl w
 refine aE (aA (wq (aJ (.bool false) rfl) rfl (aB (aC (aE (aA (wq (bE 8 dP R (Nat.lt_of_le_of_lt (Nat.zero_le _) (R.below_len (show [aF b][0]? = some (aF b) from rfl))) rfl) rfl (wq (aBe (o := 8) _ bI R (show [aF b][0]? = some (aF b) from rfl) rfl rfl rfl) rfl ?_))))))))
 refine bZ aOo rfl rfl (sJ _ _ _ _ (by omega) (by omega)) ?_
 rintro v1 w1 ⟨rfl, hb1⟩
 have M1 := M0.callB hb1
 refine wq (aJ (.bool (decide _)) rfl) rfl (aB (aC (aP (cE (.bool (decide _)) rfl ?_))))
 exact ⟨by first | exact bF (by omega) | exact bT (by omega) | exact bD (by omega), M1.below⟩
set_option maxHeartbeats 4000000 in
theorem uR (w : World) (b : Body) :
  Calls Tryz.prog 98 #[(.agg (aF b).toArray)] w (fun ex w' => ∃ v, ex = .returned v ∧ (fun v w' => v = .int .i64 (check b) ∧ Below w.heap.size w w') v w') := by
 refine aI #[.tmp 2] 28 Tryz.func98 rfl Tryz.results98 Tryz.ntmps98 rfl ?_
 have M0 := Mem.refl w
 refine aE (aA (bP (.agg (List.toArray _)) M0 rfl rfl rfl (fun b1 w1 M1 => (bC rfl rfl (aB (aC (aE (aE (aA (wq (dU [] [.pointer _] rfl rfl) rfl (wq (cP [(0, .func _ _ _), (1, .int _ _)] _ nO rfl rfl) rfl ?_)))))))))))
 refine wq (dU [] [.pointer _] rfl rfl) rfl (wq (cP [(0, .func _ _ _), (1, .int _ _)] _ nO rfl rfl) rfl (wq (dU [] [.pointer _] rfl rfl) rfl (wq (cP [(0, .func _ _ _), (1, .int _ _)] _ nO rfl rfl) rfl (wq (dU [] [.pointer _] rfl rfl) rfl (wq (cP [(0, .func _ _ _), (1, .int _ _)] _ nO rfl rfl) rfl ?_)))))
 refine wq (dU [] [.pointer _] rfl rfl) rfl (wq (cP [(0, .func _ _ _), (1, .int _ _)] _ nO rfl rfl) rfl (wq (dU [] [.pointer _] rfl rfl) rfl (wq (cP [(0, .func _ _ _), (1, .int _ _)] _ nO rfl rfl) rfl (wq (rH [.agg (List.toArray _), .agg (List.toArray _), .agg (List.toArray _), .agg (List.toArray _), .agg (List.toArray _), .agg (List.toArray _)] uT bCq rfl rfl (dE rfl)) rfl ?_))))
 refine aO rfl rfl (aB (aC (aQ (iL 7 (fG (aE (aA (cX rfl rfl rfl rfl (jB 19 rfl (by first | decide | omega) ?_)))))))))
 refine aB (aC (aE (cC rfl (aL (aC (aE (aQ (aE (aA (wq (pC 0 _ uT nE rfl rfl (by decide) (by decide) rfl rfl) rfl (aV sV M1 rfl rfl (fun b2 w2 M2 => (bG 1 _ nE M2 rfl rfl rfl rfl rfl (aT rfl) rfl (fun w3 M3 => ?_))))))))))))))
 refine aB (aC (aE (aA (wq (aD 0 pY rfl) rfl (wq (aM 1 (.func _ _ _) aGh M3 rfl rfl rfl) rfl (bZ bJg rfl rfl (aMo _ b _ (oM 0 M3 rfl rfl)) ?_))))))
 rintro v4 w4 ⟨rfl, hb4⟩
 have M4 := M3.callB hb4
 refine wq (nK rfl) rfl (aB (aC ?_))
 refine aS rfl (fun h24 => ?_) (fun h24 => ?_)
 ·refine aE (aA (wq (aD 1 pO rfl) rfl (wq (aM 1 (.int _ _) aGi M4 rfl rfl rfl) rfl (bC rfl rfl (aB (aC (aP (jP ?_))))))))
  refine cH (cH (jP (cH (cE (.int _ _) rfl ?_))))
  exact ⟨iE (aQd b (by omega)).symm, M4.below⟩
 ·refine aL (cO (aC (aA (wq (aY rfl rfl (by first | decide | omega) (by first | decide | omega)) rfl (aK 27 (.int .i64 1) (iE (by first | decide | omega)) (aO rfl rfl ?_))))))
  refine aB (aC (fG (aE (aA (cX rfl rfl rfl rfl (jB 19 rfl (by first | decide | omega) (aB (aC (aE ?_)))))))))
  refine cC rfl (aL (aC (aE (aQ (aE (aA (wq (pC 1 _ uT nE rfl rfl (by decide) (by decide) rfl rfl) rfl (aV sV M4 rfl rfl (fun b5 w5 M5 => (bG 2 _ nE M5 rfl rfl rfl rfl rfl (aT rfl) rfl (fun w6 M6 => (aB (aC (aE (aA ?_)))))))))))))))
  refine wq (aD 0 pY rfl) rfl (wq (aM 2 (.func _ _ _) aGh M6 rfl rfl rfl) rfl (bZ bHl rfl rfl (aKp _ b _ (oM 0 M6 rfl rfl)) ?_))
  rintro v7 w7 ⟨rfl, hb7⟩
  have M7 := M6.callB hb7
  refine wq (nK rfl) rfl (aB (aC ?_))
  refine aS rfl (fun h24 => ?_) (fun h24 => ?_)
  ·refine aE (aA (wq (aD 1 pO rfl) rfl (wq (aM 2 (.int _ _) aGi M7 rfl rfl rfl) rfl (bC rfl rfl (aB (aC (aP (jP ?_))))))))
   refine cH (cH (jP (cH (cE (.int _ _) rfl ?_))))
   exact ⟨iE (aQi b (by omega) (by omega)).symm, M7.below⟩
  ·refine aL (cO (aC (aA (wq (aY rfl rfl (by first | decide | omega) (by first | decide | omega)) rfl (aK 27 (.int .i64 2) (iE (by first | decide | omega)) (aO rfl rfl ?_))))))
   refine aB (aC (fG (aE (aA (cX rfl rfl rfl rfl (jB 19 rfl (by first | decide | omega) (aB (aC (aE ?_)))))))))
   refine cC rfl (aL (aC (aE (aQ (aE (aA (wq (pC 2 _ uT nE rfl rfl (by decide) (by decide) rfl rfl) rfl (aV sV M7 rfl rfl (fun b8 w8 M8 => (bG 3 _ nE M8 rfl rfl rfl rfl rfl (aT rfl) rfl (fun w9 M9 => (aB (aC (aE (aA ?_)))))))))))))))
   refine wq (aD 0 pY rfl) rfl (wq (aM 3 (.func _ _ _) aGh M9 rfl rfl rfl) rfl (bZ bJx rfl rfl (aMr _ b _ (oM 0 M9 rfl rfl)) ?_))
   rintro v10 w10 ⟨rfl, hb10⟩
   have M10 := M9.callB hb10
   refine wq (nK rfl) rfl (aB (aC ?_))
   refine aS rfl (fun h24 => ?_) (fun h24 => ?_)
   ·refine aE (aA (wq (aD 1 pO rfl) rfl (wq (aM 3 (.int _ _) aGi M10 rfl rfl rfl) rfl (bC rfl rfl (aB (aC (aP (jP ?_))))))))
    refine cH (cH (jP (cH (cE (.int _ _) rfl ?_))))
    exact ⟨iE (aPx b (by omega) (by omega) (by omega)).symm, M10.below⟩
   ·refine aL (cO (aC (aA (wq (aY rfl rfl (by first | decide | omega) (by first | decide | omega)) rfl (aK 27 (.int .i64 3) (iE (by first | decide | omega)) (aO rfl rfl ?_))))))
    refine aB (aC (fG (aE (aA (cX rfl rfl rfl rfl (jB 19 rfl (by first | decide | omega) (aB (aC (aE ?_)))))))))
    refine cC rfl (aL (aC (aE (aQ (aE (aA (wq (pC 3 _ uT nE rfl rfl (by decide) (by decide) rfl rfl) rfl (aV sV M10 rfl rfl (fun b11 w11 M11 => (bG 4 _ nE M11 rfl rfl rfl rfl rfl (aT rfl) rfl (fun w12 M12 => (aB (aC (aE (aA ?_)))))))))))))))
    refine wq (aD 0 pY rfl) rfl (wq (aM 4 (.func _ _ _) aGh M12 rfl rfl rfl) rfl (bZ bJe rfl rfl (aLc _ b _ (oM 0 M12 rfl rfl)) ?_))
    rintro v13 w13 ⟨rfl, hb13⟩
    have M13 := M12.callB hb13
    refine wq (nK rfl) rfl (aB (aC ?_))
    refine aS rfl (fun h24 => ?_) (fun h24 => ?_)
    ·refine aE (aA (wq (aD 1 pO rfl) rfl (wq (aM 4 (.int _ _) aGi M13 rfl rfl rfl) rfl (bC rfl rfl (aB (aC (aP (jP ?_))))))))
     refine cH (cH (jP (cH (cE (.int _ _) rfl ?_))))
     exact ⟨iE (aRk b (by omega) (by omega) (by omega) (by omega)).symm, M13.below⟩
    ·refine aL (cO (aC (aA (wq (aY rfl rfl (by first | decide | omega) (by first | decide | omega)) rfl (aK 27 (.int .i64 4) (iE (by first | decide | omega)) (aO rfl rfl ?_))))))
     refine aB (aC (fG (aE (aA (cX rfl rfl rfl rfl (jB 19 rfl (by first | decide | omega) (aB (aC (aE ?_)))))))))
     refine cC rfl (aL (aC (aE (aQ (aE (aA (wq (pC 4 _ uT nE rfl rfl (by decide) (by decide) rfl rfl) rfl (aV sV M13 rfl rfl (fun b14 w14 M14 => (bG 5 _ nE M14 rfl rfl rfl rfl rfl (aT rfl) rfl (fun w15 M15 => (aB (aC (aE (aA ?_)))))))))))))))
     refine wq (aD 0 pY rfl) rfl (wq (aM 5 (.func _ _ _) aGh M15 rfl rfl rfl) rfl (bZ bJu rfl rfl (aJr _ b _ (oM 0 M15 rfl rfl)) ?_))
     rintro v16 w16 ⟨rfl, hb16⟩
     have M16 := M15.callB hb16
     refine wq (nK rfl) rfl (aB (aC ?_))
     refine aS rfl (fun h24 => ?_) (fun h24 => ?_)
     ·refine aE (aA (wq (aD 1 pO rfl) rfl (wq (aM 5 (.int _ _) aGi M16 rfl rfl rfl) rfl (bC rfl rfl (aB (aC (aP (jP ?_))))))))
      refine cH (cH (jP (cH (cE (.int _ _) rfl ?_))))
      exact ⟨iE (aQo b (by omega) (by omega) (by omega) (by omega) (by omega)).symm, M16.below⟩
     ·refine aL (cO (aC (aA (wq (aY rfl rfl (by first | decide | omega) (by first | decide | omega)) rfl (aK 27 (.int .i64 5) (iE (by first | decide | omega)) (aO rfl rfl ?_))))))
      refine aB (aC (fG (aE (aA (cX rfl rfl rfl rfl (jB 19 rfl (by first | decide | omega) (aB (aC (aE ?_)))))))))
      refine cC rfl (aL (aC (aE (aQ (aE (aA (wq (pC 5 _ uT nE rfl rfl (by decide) (by decide) rfl rfl) rfl (aV sV M16 rfl rfl (fun b17 w17 M17 => (bG 6 _ nE M17 rfl rfl rfl rfl rfl (aT rfl) rfl (fun w18 M18 => (aB (aC (aE (aA ?_)))))))))))))))
      refine wq (aD 0 pY rfl) rfl (wq (aM 6 (.func _ _ _) aGh M18 rfl rfl rfl) rfl (bZ bJv rfl rfl (aLl _ b _ (oM 0 M18 rfl rfl)) ?_))
      rintro v19 w19 ⟨rfl, hb19⟩
      have M19 := M18.callB hb19
      refine wq (nK rfl) rfl (aB (aC ?_))
      refine aS rfl (fun h24 => ?_) (fun h24 => ?_)
      ·refine aE (aA (wq (aD 1 pO rfl) rfl (wq (aM 6 (.int _ _) aGi M19 rfl rfl rfl) rfl (bC rfl rfl (aB (aC (aP (jP ?_))))))))
       refine cH (cH (jP (cH (cE (.int _ _) rfl ?_))))
       exact ⟨iE (aRs b (by omega) (by omega) (by omega) (by omega) (by omega) (by omega)).symm, M19.below⟩
      ·refine aL (cO (aC (aA (wq (aY rfl rfl (by first | decide | omega) (by first | decide | omega)) rfl (aK 27 (.int .i64 6) (iE (by first | decide | omega)) (aO rfl rfl ?_))))))
       refine aB (aC (fG (aE (aA (cX rfl rfl rfl rfl (pA 19 rfl (by first | decide | omega) (aB (aC (aE ?_)))))))))
       refine cM rfl (cV (dD (dD (eO (aC (aE (aA (bC rfl rfl ?_))))))))
       refine aB (aC (aP (cE (.int _ _) rfl ?_)))
       exact ⟨iE (bBu b (by omega) (by omega) (by omega) (by omega) (by omega) (by omega)).symm, M19.below⟩
set_option maxHeartbeats 4000000 in
theorem zG (w : World) (x : Int) :
  Calls Tryz.prog 121 #[.int .u32 x] w (fun ex w' => ∃ v, ex = .returned v ∧ (fun v w' => v = .bool false ∧ w' = w) v w') := by
 refine aI #[.tmp 2] 6 Tryz.func121 rfl Tryz.results121 Tryz.ntmps121 rfl ?_
 have M0 := Mem.refl w
 refine aE (aA (wq (aJ (.bool false) rfl) rfl (aB (aC (aE (aA (aO rfl rfl (aO rfl rfl (cX rfl rfl rfl rfl ?_)))))))))
 refine wq (aJ (.bool (decide _)) rfl) rfl (aB (aC (aP (cE (.bool (decide _)) rfl ?_))))
 exact ⟨(bF (by omega)).symm, rfl⟩
set_option maxHeartbeats 4000000 in
theorem mM (w : World) (x y : Int) :
  Calls Tryz.prog 97 #[.int .u32 x, .int .u32 y] w (fun ex w' => ∃ v, ex = .returned v ∧ (fun v w' => v = .int .i64 (oJ x y) ∧ w' = w) v w') := by
 refine aI #[.tmp 4] 20 Tryz.func97 rfl Tryz.results97 Tryz.ntmps97 rfl ?_
 have M0 := Mem.refl w
 refine aE (aA (bC rfl rfl (aB (aC (aE (aA (aO rfl rfl (bZ aYz rfl rfl (zG _ _) ?_))))))))
 rintro v1 w1 ⟨rfl, rfl⟩
 have M1 : Mem _ _ [] _ := M0
 refine wq (aJ (.bool false) rfl) rfl (aB (aC (aE (aA (aO rfl rfl (bZ aYz rfl rfl (zG _ _) ?_))))))
 rintro v2 w2 ⟨rfl, rfl⟩
 have M2 : Mem _ _ [] _ := M1
 refine wq (aJ (.bool false) rfl) rfl (aB (aC (aE (aE (aA (wq (aH (.bool false) rfl) rfl (aB (aC (cM rfl (aL (aC (aE (aE (aA ?_))))))))))))))
 refine wq (aH (.bool false) rfl) rfl (aB (aC (cM rfl (aL (aC (aE (aE (aA (aO rfl rfl (aO rfl rfl ?_))))))))))
 refine cX rfl rfl rfl rfl (aB (aC ?_))
 refine aS rfl (fun h16 => ?_) (fun h16 => ?_)
 ·refine aE (aA (bC rfl rfl (aB (aC (aP (cH (cE (.int _ _) rfl ?_)))))))
  exact ⟨iE (by unfold oJ; (repeat' split) <;> omega), rfl⟩
 ·refine aL (aC (aE (aE (aA (aO rfl rfl (aO rfl rfl (cX rfl rfl rfl rfl (aB (aC ?_)))))))))
  refine aS rfl (fun h19 => ?_) (fun h19 => ?_)
  ·refine aE (aA (bC rfl rfl (aB (aC (aP (cH (cE (.int _ _) rfl ?_)))))))
   exact ⟨iE (by unfold oJ; (repeat' split) <;> omega), rfl⟩
  ·refine aL (aC (aE (aA (bC rfl rfl (aB (aC (aP (cE (.int _ _) rfl ?_))))))))
   exact ⟨iE (by unfold oJ; (repeat' split) <;> omega), rfl⟩
set_option maxHeartbeats 4000000 in
theorem aEu (a b : Body) (w : World) :
  Calls Tryz.prog 96 #[(.agg (aF a).toArray), (.agg (aF b).toArray)] w (fun ex w' => ∃ v, ex = .returned v ∧ (fun v w' => v = .int .i64 (oJ a.key b.key) ∧ ∃ q os, w' = Go.Sort.grow (w.drewN q) os) v w') := by
 refine aI #[.tmp 4] 10 Tryz.func96 rfl Tryz.results96 Tryz.ntmps96 rfl ?_
 have M0 := Mem.refl w
 refine aE (aA (aAb (.agg (List.toArray _)) M0 rfl rfl rfl (fun M1 => (aAb (.agg (List.toArray _)) M1 rfl rfl rfl (fun M2 => (bC rfl rfl (aB (aC (aE (aA (wq (aD 0 dH rfl) rfl ?_)))))))))))
 refine wq (aM 0 (.int _ _) bU M2 rfl rfl rfl) rfl (wq (aD 0 dH rfl) rfl (wq (aM 1 (.int _ _) bU M2 rfl rfl rfl) rfl (bZ aRd rfl rfl (mM _ _ _) ?_)))
 rintro v3 w3 ⟨rfl, rfl⟩
 have M3 : Mem _ _ [_, _] _ := M2
 refine bC rfl rfl (aB (aC (aP (cE (.int _ _) rfl ?_))))
 exact ⟨rfl, bMd _ _ _⟩
set_option maxHeartbeats 4000000 in
theorem aEq (w : World) (A : Option Addr) (n c : Nat) (ls : List (List Value)) (R : Rd w 10 A n ls) (h1 : ∀ y ∈ ls, ∀ u ∈ y, one u = true) (hn : n ≤ 1048576) :
  Calls Tryz.prog 49 #[.slice A n c] w (fun ex w' => ∃ v, ex = .returned v ∧ (fun v w' => ∃ A' n' c' e, v = .slice A' n' c' ∧ bH 40 10 A' n' c' ls e ∧ Mem w [] [e] w' ∧ A'.isSome = A.isSome) v w') := by
 refine aI #[.tmp 2] 8 Tryz.func49 rfl Tryz.results49 Tryz.ntmps49 rfl ?_
 have M0 := Mem.refl w
 refine aE (aA (eN rfl rfl (aB (aC (aE (aE (aA (dN rfl rfl (wq (aHu _ Tryz.underlying22 rfl rfl) rfl (aB (aC ?_)))))))))))
 refine iB _ rfl (fun h4 => ?_) (fun h4 => ?_)
 ·refine aE (aA (eN rfl rfl (aB (aC (aP (cH (cE (.slice _ _ _) rfl ?_)))))))
  have hA : A = none := by cases A <;> simp_all
  have hl : ls = [] := by
   rcases Nat.eq_zero_or_pos n with h | h
   ·subst h; exact List.eq_nil_of_length_eq_zero R.len
   ·have := R.some h; rw [hA] at this; cases this
  subst hA; subst hl
  exact ⟨_, _, _, _, rfl, bH.nil 40 10 default, M0.dummy default, rfl⟩
 ·refine aL (aC (aE (aA (cU [] [] rfl dF M0 rfl rfl rfl rfl (dE rfl) (by decide) (fun b1 w1 M1 => (dN rfl rfl (gK 0 ls dF M1 rfl rfl rfl rfl rfl (bH.empty b1) (R.mem M1) h1 (by omega) (fun A2 c2 e2 w2 M2 hR2 hA2 => ?_))))))))
  have hAA := hA2
  refine eN rfl rfl (aB (aC (aP (cE (.slice _ _ _) rfl ?_))))
  refine ⟨_, _, _, _, rfl, by simpa using hR2, M2, ?_⟩
  rw [hAA rfl]; cases A <;> simp_all
end Go.Proofs.YtlmcphcgiclanaaGreatDoor
