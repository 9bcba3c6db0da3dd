/- Part of the proof of the laws of this seat: Ty, T26, T25, T20, T20r, T20l, T21, T22, R5, R6, Bd, Lib, St. No conditions. -/
import Derived.Test.YtlmcphcgiclanaaGreatDoorProg
import Derived.Test.YtlmcphcgiclanaaGreatDoorK2
import Derived.Test.YtlmcphcgiclanaaGreatDoorK3
import Derived.Test.YtlmcphcgiclanaaGreatDoorK4
import Derived.KernelRfl
set_option linter.unusedVariables false
set_option linter.unusedSimpArgs false
set_option linter.unnecessarySimpa false
namespace Go.Proofs.YtlmcphcgiclanaaGreatDoor
open Go.Bil
open Go.Proofs
theorem bR : gH Tryz.prog 36 = true := by kernel_rfl
theorem aX : gH Tryz.prog 21 = true := by kernel_rfl
theorem aLc : ∀ (d : Nat) (w : World) (x0 x1 y0 y1 : Int), (Op.equalIn (d + 2) 38 (.agg [.int .i32 x0, .int .i32 x1].toArray) (.agg [.int .i32 y0, .int .i32 y1].toArray)).run Tryz.prog w = .ok (decide (x0 = y0 ∧ x1 = y1)) w := fun d w x0 x1 y0 y1 => by
    have h := sD (P := Tryz.prog) (T := 38) (dd := d + 1) (xs := [.int .i32 x0, .int .i32 x1]) (ys := [.int .i32 y0, .int .i32 y1]) (w := w) Tryz.underlying38 (by kernel_rfl) (gM rfl (iY aX rfl) (iY aX rfl) (nS (dd := d + 0) Tryz.underlying21) (gM rfl (iY aX rfl) (iY aX rfl) (nS (dd := d + 0) Tryz.underlying21) (aCm)))
    refine h.trans (congrArg (fun r => Result.ok r w) ?_)
    simp only [Bool.decide_and, Bool.and_true, Bool.and_assoc]
theorem bJ : gW Tryz.prog 38 = some 2 := by kernel_rfl
theorem bDz : ∀ (d : Nat) (w : World) (x0 x1 x2 x3 x4 x5 x6 x7 x8 x9 y0 y1 y2 y3 y4 y5 y6 y7 y8 y9 : Int), (Op.equalIn (d + 3) 40 (.agg [.int .u32 x0, .int .i32 x1, .int .i32 x2, .int .i32 x3, .int .i32 x4, .int .i32 x5, .int .i32 x6, .int .i32 x7, .int .i32 x8, .int .i32 x9].toArray) (.agg [.int .u32 y0, .int .i32 y1, .int .i32 y2, .int .i32 y3, .int .i32 y4, .int .i32 y5, .int .i32 y6, .int .i32 y7, .int .i32 y8, .int .i32 y9].toArray)).run Tryz.prog w = .ok (decide (x0 = y0 ∧ x1 = y1 ∧ x2 = y2 ∧ x3 = y3 ∧ x4 = y4 ∧ x5 = y5 ∧ x6 = y6 ∧ x7 = y7 ∧ x8 = y8 ∧ x9 = y9)) w := fun d w x0 x1 x2 x3 x4 x5 x6 x7 x8 x9 y0 y1 y2 y3 y4 y5 y6 y7 y8 y9 => by
    have h := sD (P := Tryz.prog) (T := 40) (dd := d + 2) (xs := [.int .u32 x0, .int .i32 x1, .int .i32 x2, .int .i32 x3, .int .i32 x4, .int .i32 x5, .int .i32 x6, .int .i32 x7, .int .i32 x8, .int .i32 x9]) (ys := [.int .u32 y0, .int .i32 y1, .int .i32 y2, .int .i32 y3, .int .i32 y4, .int .i32 y5, .int .i32 y6, .int .i32 y7, .int .i32 y8, .int .i32 y9]) (w := w) Tryz.underlying40 (by kernel_rfl) (gM rfl (iY bR rfl) (iY bR rfl) (nS (dd := d + 1) Tryz.underlying36) (gM rfl (iY aX rfl) (iY aX rfl) (nS (dd := d + 1) Tryz.underlying21) (gM rfl (vL bJ rfl) (vL bJ rfl) (aLc (d + 0) w x2 x3 y2 y3) (gM rfl (iY aX rfl) (iY aX rfl) (nS (dd := d + 1) Tryz.underlying21) (gM rfl (iY aX rfl) (iY aX rfl) (nS (dd := d + 1) Tryz.underlying21) (gM rfl (vL bJ rfl) (vL bJ rfl) (aLc (d + 0) w x6 x7 y6 y7) (gM rfl (vL bJ rfl) (vL bJ rfl) (aLc (d + 0) w x8 x9 y8 y9) (aCm))))))))
    refine h.trans (congrArg (fun r => Result.ok r w) ?_)
    simp only [Bool.decide_and, Bool.and_true, Bool.and_assoc]
theorem bEb : ∀ (x0 x1 x2 x3 x4 x5 x6 x7 x8 x9 y0 y1 y2 y3 y4 y5 y6 y7 y8 y9 : Int), EqA Tryz.prog 40 [.int .u32 x0, .int .i32 x1, .int .i32 x2, .int .i32 x3, .int .i32 x4, .int .i32 x5, .int .i32 x6, .int .i32 x7, .int .i32 x8, .int .i32 x9] [.int .u32 y0, .int .i32 y1, .int .i32 y2, .int .i32 y3, .int .i32 y4, .int .i32 y5, .int .i32 y6, .int .i32 y7, .int .i32 y8, .int .i32 y9] (decide (x0 = y0 ∧ x1 = y1 ∧ x2 = y2 ∧ x3 = y3 ∧ x4 = y4 ∧ x5 = y5 ∧ x6 = y6 ∧ x7 = y7 ∧ x8 = y8 ∧ x9 = y9)) := fun x0 x1 x2 x3 x4 x5 x6 x7 x8 x9 y0 y1 y2 y3 y4 y5 y6 y7 y8 y9 => ⟨by kernel_rfl, fun w => bDz 9997 w x0 x1 x2 x3 x4 x5 x6 x7 x8 x9 y0 y1 y2 y3 y4 y5 y6 y7 y8 y9⟩
theorem bO : gW Tryz.prog 40 = some 10 := by kernel_rfl
theorem bEh : aT Tryz.prog 96 = true := by kernel_rfl
theorem bAg : ∀ (d : Nat) (w : World) (x0 x1 y0 y1 : Int), (Op.equalIn (d + 2) 119 (.agg [.int .u32 x0, .int .u32 x1].toArray) (.agg [.int .u32 y0, .int .u32 y1].toArray)).run Tryz.prog w = .ok (decide (x0 = y0 ∧ x1 = y1)) w := fun d w x0 x1 y0 y1 => by
    have h := sD (P := Tryz.prog) (T := 119) (dd := d + 1) (xs := [.int .u32 x0, .int .u32 x1]) (ys := [.int .u32 y0, .int .u32 y1]) (w := w) Tryz.underlying119 (by kernel_rfl) (gM rfl (iY bR rfl) (iY bR rfl) (nS (dd := d + 0) Tryz.underlying36) (gM rfl (iY bR rfl) (iY bR rfl) (nS (dd := d + 0) Tryz.underlying36) (aCm)))
    refine h.trans (congrArg (fun r => Result.ok r w) ?_)
    simp only [Bool.decide_and, Bool.and_true, Bool.and_assoc]
theorem bAu : ∀ (x0 x1 y0 y1 : Int), EqA Tryz.prog 119 [.int .u32 x0, .int .u32 x1] [.int .u32 y0, .int .u32 y1] (decide (x0 = y0 ∧ x1 = y1)) := fun x0 x1 y0 y1 => ⟨by kernel_rfl, fun w => bAg 9998 w x0 x1 y0 y1⟩
theorem fT : gW Tryz.prog 119 = some 2 := by kernel_rfl
theorem aYr : aT Tryz.prog 170 = true := by kernel_rfl
theorem bCf : jC Tryz.prog 119 = some (.agg [.int .u32 0, .int .u32 0].toArray) := by kernel_rfl
theorem yB : gH Tryz.prog 3 = true := by kernel_rfl
theorem oE : gH Tryz.prog 4 = true := by kernel_rfl
theorem jM : fB Tryz.prog 40 1 1 = true := by kernel_rfl
theorem iU : fB Tryz.prog 40 2 2 = true := by kernel_rfl
theorem dG : fB Tryz.prog 38 0 0 = true := by kernel_rfl
theorem zT : aT Tryz.prog 55 = true := by kernel_rfl
theorem dC : fB Tryz.prog 38 1 1 = true := by kernel_rfl
theorem eM : fB Tryz.prog 40 3 4 = true := by kernel_rfl
theorem nC : fB Tryz.prog 40 4 5 = true := by kernel_rfl
theorem fG : fB Tryz.prog 40 5 6 = true := by kernel_rfl
theorem eN : fB Tryz.prog 40 6 8 = true := by kernel_rfl
theorem dO : eV Tryz.prog 22 40 10 40 = true := by kernel_rfl
theorem dJ : fB Tryz.prog 40 0 0 = true := by kernel_rfl
theorem mixed : Tryz.prog.follows .mixedOrders = true := by kernel_rfl
theorem aHq : aT Tryz.prog 124 = true := by kernel_rfl
theorem kL : fV Tryz.prog 181 [.nilFunc, .int .i64 0] [(0, 1), (1, 1)] := eG Tryz.underlying181 (by kernel_rfl) (by kernel_rfl) (by kernel_rfl)
theorem qE : uI Tryz.prog 183 6 181 2 = true := by kernel_rfl
theorem aUf : fJ Tryz.prog 183 = some [.nilFunc, .int .i64 0, .nilFunc, .int .i64 0, .nilFunc, .int .i64 0, .nilFunc, .int .i64 0, .nilFunc, .int .i64 0, .nilFunc, .int .i64 0] := by kernel_rfl
theorem kG : gW Tryz.prog 181 = some 2 := by kernel_rfl
theorem pL : fJ Tryz.prog 181 = some [.nilFunc, .int .i64 0] := by kernel_rfl
theorem mP : fB Tryz.prog 181 0 0 = true := by kernel_rfl
theorem aAo : gH Tryz.prog 25 = true := by kernel_rfl
theorem bBv : aT Tryz.prog 122 = true := by kernel_rfl
theorem mN : fB Tryz.prog 181 1 1 = true := by kernel_rfl
theorem zZ : gH Tryz.prog 67 = true := by kernel_rfl
theorem aZd : aT Tryz.prog 123 = true := by kernel_rfl
theorem bAj : aT Tryz.prog 125 = true := by kernel_rfl
theorem bBy : aT Tryz.prog 126 = true := by kernel_rfl
theorem bBd : aT Tryz.prog 127 = true := by kernel_rfl
theorem bAl : aT Tryz.prog 128 = true := by kernel_rfl
theorem aQs : aT Tryz.prog 98 = true := by kernel_rfl
theorem jR : fB Tryz.prog 52 1 1 = true := by kernel_rfl
theorem pX : gH Tryz.prog 50 = true := by kernel_rfl
theorem tT : vJ Tryz.prog 50 36 3 .u32 = true := by kernel_rfl
theorem zv3 : jC Tryz.prog 3 = some (.int .i64 0) := by kernel_rfl
theorem fN : fB Tryz.prog 52 0 0 = true := by kernel_rfl
theorem eX : gH Tryz.prog 22 = true := by kernel_rfl
theorem gL : fJ Tryz.prog 40 = some [.int .u32 0, .int .i32 0, .int .i32 0, .int .i32 0, .int .i32 0, .int .i32 0, .int .i32 0, .int .i32 0, .int .i32 0, .int .i32 0] := by kernel_rfl
theorem oJ : fV Tryz.prog 40 [.int .u32 0, .int .i32 0, .int .i32 0, .int .i32 0, .int .i32 0, .int .i32 0, .int .i32 0, .int .i32 0, .int .i32 0, .int .i32 0] [(0, 1), (1, 1), (2, 2), (4, 1), (5, 1), (6, 2), (8, 2)] := eG Tryz.underlying40 (by kernel_rfl) (by kernel_rfl) (by kernel_rfl)
theorem aPe : aT Tryz.prog 121 = true := by kernel_rfl
theorem aKt : aT Tryz.prog 97 = true := by kernel_rfl
theorem bDb : aT Tryz.prog 49 = true := by kernel_rfl
theorem bCz : aT Tryz.prog 95 = true := by kernel_rfl
theorem bDu : aT Tryz.prog 24 = true := by kernel_rfl
theorem bEe : aT Tryz.prog 38 = true := by kernel_rfl
theorem bDv : aT Tryz.prog 90 = true := by kernel_rfl
theorem bDx : aT Tryz.prog 59 = true := by kernel_rfl
theorem bBe : aT Tryz.prog 129 = true := by kernel_rfl
theorem bCq : aT Tryz.prog 36 = true := by kernel_rfl
theorem us3 : (Tryz.prog.underlying 3).isSome = true := by kernel_rfl
theorem bCk : (Tryz.prog.underlying 136).isSome = true := by kernel_rfl
theorem aQt : aT Tryz.prog 140 = true := by kernel_rfl
theorem bBa : aT Tryz.prog 139 = true := by kernel_rfl
theorem aSp : aT Tryz.prog 215 = true := by kernel_rfl
theorem aDg : fJ Tryz.prog 193 = some [.int .i32 0, .int .i32 0, .int .i32 0, .int .i32 0] := by kernel_rfl
theorem bAn : aT Tryz.prog 190 = true := by kernel_rfl
theorem aAf : fV Tryz.prog 193 [.int .i32 0, .int .i32 0, .int .i32 0, .int .i32 0] [(0, 1), (1, 1), (2, 1), (3, 1)] := eG Tryz.underlying193 (by kernel_rfl) (by kernel_rfl) (by kernel_rfl)
theorem iC : gW Tryz.prog 193 = some 4 := by kernel_rfl
theorem rS : fB Tryz.prog 193 0 0 = true := by kernel_rfl
theorem rG : fB Tryz.prog 193 2 2 = true := by kernel_rfl
theorem rJ : fB Tryz.prog 193 1 1 = true := by kernel_rfl
theorem rV : fB Tryz.prog 193 3 3 = true := by kernel_rfl
theorem aJg : aT Tryz.prog 192 = true := by kernel_rfl
theorem bBg : aT Tryz.prog 193 = true := by kernel_rfl
theorem nD : fJ Tryz.prog 226 = some [.int .i32 0, .int .i32 0] := by kernel_rfl
theorem aBe : fV Tryz.prog 226 [.int .i32 0, .int .i32 0] [(0, 1), (1, 1)] := eG Tryz.underlying226 (by kernel_rfl) (by kernel_rfl) (by kernel_rfl)
theorem gC : gW Tryz.prog 226 = some 2 := by kernel_rfl
theorem eJ : fV Tryz.prog 38 [.int .i32 0, .int .i32 0] [(0, 1), (1, 1)] := eG Tryz.underlying38 (by kernel_rfl) (by kernel_rfl) (by kernel_rfl)
theorem aTr : aT Tryz.prog 229 = true := by kernel_rfl
theorem aZt : aT Tryz.prog 216 = true := by kernel_rfl
theorem aLa : fJ Tryz.prog 4 = some [.bool false] := by kernel_rfl
theorem vY : fB Tryz.prog 226 1 1 = true := by kernel_rfl
theorem vV : fB Tryz.prog 226 0 0 = true := by kernel_rfl
theorem aUw : fJ Tryz.prog 224 = some [.slice none 0 0] := by kernel_rfl
theorem aZr : aT Tryz.prog 191 = true := by kernel_rfl
theorem aZn : aT Tryz.prog 217 = true := by kernel_rfl
theorem aHe : gH Tryz.prog 224 = true := by kernel_rfl
theorem aRo : eV Tryz.prog 224 226 2 8 = true := by kernel_rfl
theorem fL : (Tryz.prog.underlying 21).isSome = true := by kernel_rfl
theorem aRd : uI Tryz.prog 270 2 36 1 = true := by kernel_rfl
theorem qC : (Tryz.prog.underlying 36).isSome = true := by kernel_rfl
theorem bAm : aT Tryz.prog 206 = true := by kernel_rfl
theorem us2 : (Tryz.prog.underlying 2).isSome = true := by kernel_rfl
theorem aAg : (Tryz.prog.underlying 170).isSome = true := by kernel_rfl
theorem oD : aT Tryz.prog 179 = true := by kernel_rfl
theorem aJf : aT Tryz.prog 178 = true := by kernel_rfl
theorem aSs : aT Tryz.prog 180 = true := by kernel_rfl
theorem aCb : aT Tryz.prog 181 = true := by kernel_rfl
theorem aBx : aT Tryz.prog 207 = true := by kernel_rfl
theorem aTk : aT Tryz.prog 201 = true := by kernel_rfl
theorem aHv : aT Tryz.prog 173 = true := by kernel_rfl
theorem aZp : aT Tryz.prog 203 = true := by kernel_rfl
theorem fY : fJ Tryz.prog 38 = some [.int .i32 0, .int .i32 0] := by kernel_rfl
theorem aRj : aT Tryz.prog 175 = true := by kernel_rfl
theorem aPb : aT Tryz.prog 202 = true := by kernel_rfl
theorem yN : aT Tryz.prog 200 = true := by kernel_rfl
theorem lB : gH Tryz.prog 2 = true := by kernel_rfl
theorem aBn : aT Tryz.prog 141 = true := by kernel_rfl
theorem bBp : aT Tryz.prog 244 = true := by kernel_rfl
theorem wH : fJ Tryz.prog 2 = some [.int .i64 0] := by kernel_rfl
theorem aRb : aT Tryz.prog 245 = true := by kernel_rfl
theorem nT : gH Tryz.prog 170 = true := by kernel_rfl
theorem aVq : fJ Tryz.prog 170 = some [.int .u64 0] := by kernel_rfl
theorem sP : uI Tryz.prog 318 2 38 2 = true := by kernel_rfl
theorem aLd : fJ Tryz.prog 318 = some [.int .i32 0, .int .i32 0, .int .i32 0, .int .i32 0] := by kernel_rfl
theorem aCo : aT Tryz.prog 239 = true := by kernel_rfl
theorem aCq : aT Tryz.prog 238 = true := by kernel_rfl
theorem bAv : aT Tryz.prog 221 = true := by kernel_rfl
theorem sA : fJ Tryz.prog 239 = some [.int .u32 0, .int .i32 0, .int .i32 0, .int .i32 0, .int .i32 0, .int .i32 0, .int .i32 0, .int .i32 0, .int .i32 0, .int .i32 0, .int .i32 0, .int .i32 0, .int .i32 0, .int .i32 0] := by kernel_rfl
theorem bAd : aT Tryz.prog 220 = true := by kernel_rfl
theorem aNd : fV Tryz.prog 239 [.int .u32 0, .int .i32 0, .int .i32 0, .int .i32 0, .int .i32 0, .int .i32 0, .int .i32 0, .int .i32 0, .int .i32 0, .int .i32 0, .int .i32 0, .int .i32 0, .int .i32 0, .int .i32 0] [(0, 10), (10, 2), (12, 2)] := eG Tryz.underlying239 (by kernel_rfl) (by kernel_rfl) (by kernel_rfl)
theorem kF : gW Tryz.prog 239 = some 14 := by kernel_rfl
theorem aBs : aT Tryz.prog 198 = true := by kernel_rfl
theorem aFx : fB Tryz.prog 239 1 10 = true := by kernel_rfl
theorem aDr : fB Tryz.prog 239 2 12 = true := by kernel_rfl
theorem bAt : aT Tryz.prog 199 = true := by kernel_rfl
theorem rL : fB Tryz.prog 239 0 0 = true := by kernel_rfl
theorem rR : fJ Tryz.prog 121 = some [.int .u32 0, .int .u32 0, .int .i32 0, .int .i32 0, .int .i32 0] := by kernel_rfl
theorem bBw : aT Tryz.prog 171 = true := by kernel_rfl
theorem aZw : aT Tryz.prog 172 = true := by kernel_rfl
theorem aAm : fV Tryz.prog 121 [.int .u32 0, .int .u32 0, .int .i32 0, .int .i32 0, .int .i32 0] [(0, 2), (2, 2), (4, 1)] := eG Tryz.underlying121 (by kernel_rfl) (by kernel_rfl) (by kernel_rfl)
theorem fX : gW Tryz.prog 121 = some 5 := by kernel_rfl
theorem zX : fV Tryz.prog 119 [.int .u32 0, .int .u32 0] [(0, 1), (1, 1)] := eG Tryz.underlying119 (by kernel_rfl) (by kernel_rfl) (by kernel_rfl)
theorem pG : fJ Tryz.prog 119 = some [.int .u32 0, .int .u32 0] := by kernel_rfl
theorem aZf : aT Tryz.prog 174 = true := by kernel_rfl
theorem aFd : fB Tryz.prog 191 1 1024 = true := by kernel_rfl
theorem bAy : aT Tryz.prog 161 = true := by kernel_rfl
theorem aZb : aT Tryz.prog 162 = true := by kernel_rfl
theorem aRa : vJ Tryz.prog 223 3 4 .i64 = true := by kernel_rfl
theorem zv4 : jC Tryz.prog 4 = some (.bool false) := by kernel_rfl
theorem xL : fB Tryz.prog 191 0 0 = true := by kernel_rfl
theorem aGr : uI Tryz.prog 189 1024 188 1 = true := by kernel_rfl
theorem aCa : gH Tryz.prog 188 = true := by kernel_rfl
theorem aGa : eV Tryz.prog 188 36 1 4 = true := by kernel_rfl
theorem aTb : eV Tryz.prog 302 3 1 8 = true := by kernel_rfl
theorem mQ : fB Tryz.prog 119 0 0 = true := by kernel_rfl
theorem mR : fB Tryz.prog 119 1 1 = true := by kernel_rfl
theorem bBo : aT Tryz.prog 197 = true := by kernel_rfl
theorem bBq : gH Tryz.prog 230 = true := by kernel_rfl
theorem aZk : aT Tryz.prog 196 = true := by kernel_rfl
theorem aGy : gH Tryz.prog 159 = true := by kernel_rfl
theorem rW : eV Tryz.prog 159 119 2 8 = true := by kernel_rfl
theorem aZy : aT Tryz.prog 218 = true := by kernel_rfl
theorem aYu : aT Tryz.prog 194 = true := by kernel_rfl
theorem aYm : aT Tryz.prog 195 = true := by kernel_rfl
theorem aZu : gW Tryz.prog 189 = some 1024 := by kernel_rfl
theorem aZi : aT Tryz.prog 167 = true := by kernel_rfl
theorem aLs : fV Tryz.prog 231 [] [] := eG Tryz.underlying231 (by kernel_rfl) (by kernel_rfl) (by kernel_rfl)
theorem bBk : aT Tryz.prog 169 = true := by kernel_rfl
theorem bBr : aT Tryz.prog 168 = true := by kernel_rfl
theorem bAh : aT Tryz.prog 160 = true := by kernel_rfl
theorem aCt : vJ Tryz.prog 186 36 193 .u32 = true := by kernel_rfl
theorem bCm : fJ Tryz.prog 3 = some [.int .i64 0] := by kernel_rfl
theorem aTd : gH Tryz.prog 186 = true := by kernel_rfl
theorem aPl : jC Tryz.prog 193 = some (.agg [.int .i32 0, .int .i32 0, .int .i32 0, .int .i32 0].toArray) := by kernel_rfl
theorem aYp : aT Tryz.prog 164 = true := by kernel_rfl
theorem aOs : aT Tryz.prog 163 = true := by kernel_rfl
theorem bAb : aT Tryz.prog 166 = true := by kernel_rfl
theorem bBh : aT Tryz.prog 132 = true := by kernel_rfl
theorem bBx : aT Tryz.prog 133 = true := by kernel_rfl
theorem aYo : aT Tryz.prog 134 = true := by kernel_rfl
theorem aZh : aT Tryz.prog 136 = true := by kernel_rfl
theorem bBj : aT Tryz.prog 135 = true := by kernel_rfl
theorem aYx : aT Tryz.prog 165 = true := by kernel_rfl
theorem vZ : fB Tryz.prog 158 0 0 = true := by kernel_rfl
theorem yF : gH Tryz.prog 156 = true := by kernel_rfl
theorem wB : vJ Tryz.prog 156 36 40 .u32 = true := by kernel_rfl
theorem aVk : jC Tryz.prog 40 = some (.agg [.int .u32 0, .int .i32 0, .int .i32 0, .int .i32 0, .int .i32 0, .int .i32 0, .int .i32 0, .int .i32 0, .int .i32 0, .int .i32 0].toArray) := by kernel_rfl
theorem aTm : aT Tryz.prog 137 = true := by kernel_rfl
theorem oF : fB Tryz.prog 158 1 1 = true := by kernel_rfl
theorem oH : gH Tryz.prog 82 = true := by kernel_rfl
theorem aNw : eV Tryz.prog 82 121 5 20 = true := by kernel_rfl
theorem aYt : aT Tryz.prog 107 = true := by kernel_rfl
theorem aLt : fV Tryz.prog 158 [.map none, .slice none 0 0] [(0, 1), (1, 1)] := eG Tryz.underlying158 (by kernel_rfl) (by kernel_rfl) (by kernel_rfl)
theorem bAz : aT Tryz.prog 105 = true := by kernel_rfl
theorem aZe : aT Tryz.prog 106 = true := by kernel_rfl
end Go.Proofs.YtlmcphcgiclanaaGreatDoor

namespace Go.Proofs.YtlmcphcgiclanaaGreatDoor
open Go.Bil
open Go.Proofs
end Go.Proofs.YtlmcphcgiclanaaGreatDoor

namespace Go.Proofs.YtlmcphcgiclanaaGreatDoor
open Go.Bil
open Go.Proofs
end Go.Proofs.YtlmcphcgiclanaaGreatDoor

namespace Go.Proofs.YtlmcphcgiclanaaGreatDoor
open Go.Bil
open Go.Proofs
theorem aZm : aT Tryz.prog 246 = true := by kernel_rfl
theorem aZl : aT Tryz.prog 240 = true := by kernel_rfl
theorem mH : fB Tryz.prog 121 1 2 = true := by kernel_rfl
theorem bBi : aT Tryz.prog 222 = true := by kernel_rfl
theorem aZx : aT Tryz.prog 223 = true := by kernel_rfl
theorem aSl : aT Tryz.prog 224 = true := by kernel_rfl
theorem aOu : aT Tryz.prog 225 = true := by kernel_rfl
theorem mM : fB Tryz.prog 246 0 0 = true := by kernel_rfl
theorem qV : fB Tryz.prog 121 0 0 = true := by kernel_rfl
theorem aCd : aT Tryz.prog 109 = true := by kernel_rfl
theorem bAe : aT Tryz.prog 204 = true := by kernel_rfl
theorem aQa : aT Tryz.prog 205 = true := by kernel_rfl
theorem mJ : fB Tryz.prog 246 1 1 = true := by kernel_rfl
theorem kB : gH Tryz.prog 200 = true := by kernel_rfl
theorem mI : fB Tryz.prog 246 2 2 = true := by kernel_rfl
theorem lS : eV Tryz.prog 200 2 1 8 = true := by kernel_rfl
theorem aYn : aT Tryz.prog 177 = true := by kernel_rfl
theorem aBj : fV Tryz.prog 246 [.slice none 0 0, .slice none 0 0, .slice none 0 0] [(0, 1), (1, 1), (2, 1)] := eG Tryz.underlying246 (by kernel_rfl) (by kernel_rfl) (by kernel_rfl)
theorem aRp : aT Tryz.prog 176 = true := by kernel_rfl
theorem aYs : aT Tryz.prog 138 = true := by kernel_rfl
theorem aIf : aT Tryz.prog 118 = true := by kernel_rfl
theorem bBc : aT Tryz.prog 108 = true := by kernel_rfl
theorem aSu : fB Tryz.prog 121 2 4 = true := by kernel_rfl
theorem aTl : aT Tryz.prog 142 = true := by kernel_rfl
theorem zR : gH Tryz.prog 97 = true := by kernel_rfl
theorem aIx : eV Tryz.prog 97 135 2 16 = true := by kernel_rfl
theorem wU : fB Tryz.prog 135 0 0 = true := by kernel_rfl
theorem yA : fB Tryz.prog 135 1 1 = true := by kernel_rfl
theorem aVv : fJ Tryz.prog 135 = some [.int .i64 0, .int .i64 0] := by kernel_rfl
theorem aYw : fJ Tryz.prog 97 = some [.slice none 0 0] := by kernel_rfl
theorem aTs : aT Tryz.prog 111 = true := by kernel_rfl
theorem aQw : aT Tryz.prog 110 = true := by kernel_rfl
theorem zN : eV Tryz.prog 175 133 1 8 = true := by kernel_rfl
theorem aZg : gH Tryz.prog 133 = true := by kernel_rfl
theorem bCu : aT Tryz.prog 84 = true := by kernel_rfl
theorem aEx : aT Tryz.prog 85 = true := by kernel_rfl
theorem bCr : aT Tryz.prog 83 = true := by kernel_rfl
theorem aXq : aT Tryz.prog 82 = true := by kernel_rfl
theorem bDn : aT Tryz.prog 86 = true := by kernel_rfl
theorem bCv : aT Tryz.prog 53 = true := by kernel_rfl
theorem bCj : aT Tryz.prog 54 = true := by kernel_rfl
theorem uT : fB Tryz.prog 84 1 1 = true := by kernel_rfl
theorem oZ : fB Tryz.prog 84 3 3 = true := by kernel_rfl
theorem uV : fB Tryz.prog 27 2 2 = true := by kernel_rfl
theorem aCy : fB Tryz.prog 84 0 0 = true := by kernel_rfl
theorem bDe : aT Tryz.prog 71 = true := by kernel_rfl
theorem uR : fB Tryz.prog 84 2 2 = true := by kernel_rfl
theorem aWz : fB Tryz.prog 27 0 0 = true := by kernel_rfl
theorem aKu : fB Tryz.prog 27 1 1 = true := by kernel_rfl
theorem aTe : aT Tryz.prog 72 = true := by kernel_rfl
theorem bCn : aT Tryz.prog 73 = true := by kernel_rfl
theorem bDo : aT Tryz.prog 74 = true := by kernel_rfl
theorem aBr : fJ Tryz.prog 27 = some [.int .i64 0, .int .i64 0, .bool false] := by kernel_rfl
theorem aPs : fV Tryz.prog 84 [.slice none 0 0, .slice none 0 0, .slice none 0 0, .int .i64 0, .int .i64 0, .bool false] [(0, 1), (1, 1), (2, 1), (3, 3)] := eG Tryz.underlying84 (by kernel_rfl) (by kernel_rfl) (by kernel_rfl)
theorem aEa : uI Tryz.prog 86 4 85 1 = true := by kernel_rfl
theorem bBt : fJ Tryz.prog 86 = some [.nilFunc, .nilFunc, .nilFunc, .nilFunc] := by kernel_rfl
theorem aJx : gH Tryz.prog 85 = true := by kernel_rfl
theorem bCt : aT Tryz.prog 40 = true := by kernel_rfl
theorem bDr : aT Tryz.prog 41 = true := by kernel_rfl
theorem bCi : aT Tryz.prog 42 = true := by kernel_rfl
theorem bEc : aT Tryz.prog 43 = true := by kernel_rfl
theorem tS : gW Tryz.prog 27 = some 3 := by kernel_rfl
theorem bDw : aT Tryz.prog 16 = true := by kernel_rfl
end Go.Proofs.YtlmcphcgiclanaaGreatDoor

namespace Go.Proofs.YtlmcphcgiclanaaGreatDoor
open Go.Bil
open Go.Proofs
theorem aXh : ∀ (x0 x1 y0 y1 : Int), EqA Tryz.prog 38 [.int .i32 x0, .int .i32 x1] [.int .i32 y0, .int .i32 y1] (decide (x0 = y0 ∧ x1 = y1)) := fun x0 x1 y0 y1 => ⟨by kernel_rfl, fun w => aLc 9998 w x0 x1 y0 y1⟩
end Go.Proofs.YtlmcphcgiclanaaGreatDoor

namespace Go.Proofs.YtlmcphcgiclanaaGreatDoor
open Go.Bil
open Go.Proofs
theorem aXs : aT Tryz.prog 18 = true := by kernel_rfl
theorem aQl : nR Tryz.prog 4 40 = some [.u32, .i32, .i32, .i32, .i32, .i32, .i32, .i32, .i32, .i32] := by kernel_rfl
theorem us5 : (Tryz.prog.underlying 5).isSome = true := by kernel_rfl
end Go.Proofs.YtlmcphcgiclanaaGreatDoor

namespace Go.Proofs.YtlmcphcgiclanaaGreatDoor
open Go.Bil
open Go.Proofs
theorem lN : eV Tryz.prog 57 5 1 1 = true := by kernel_rfl
theorem aCn : fJ Tryz.prog 150 = some [.int .u32 0, .int .u32 0, .int .u32 0, .int .u32 0, .int .u32 0, .int .u32 0, .int .u32 0, .int .u32 0, .int .u32 0, .int .u32 0] := by kernel_rfl
theorem fE : uI Tryz.prog 150 10 36 1 = true := by kernel_rfl
theorem nG : aT Tryz.prog 130 = true := by kernel_rfl
theorem aHy : gW Tryz.prog 150 = some 10 := by kernel_rfl
theorem aLi : gH Tryz.prog 5 = true := by kernel_rfl
theorem aHg : aT Tryz.prog 131 = true := by kernel_rfl
theorem aYk : aT Tryz.prog 99 = true := by kernel_rfl
theorem aRq : aT Tryz.prog 100 = true := by kernel_rfl
theorem bAi : aT Tryz.prog 101 = true := by kernel_rfl
theorem kN : aT Tryz.prog 102 = true := by kernel_rfl
theorem kT : aT Tryz.prog 103 = true := by kernel_rfl
theorem bAo : aT Tryz.prog 104 = true := by kernel_rfl
end Go.Proofs.YtlmcphcgiclanaaGreatDoor

namespace Go.Proofs.YtlmcphcgiclanaaGreatDoor
open Go.Bil
open Go.Proofs
theorem rD : fB Tryz.prog 56 0 0 = true := by kernel_rfl
theorem aKg : aT Tryz.prog 65 = true := by kernel_rfl
theorem pC : fB Tryz.prog 54 0 0 = true := by kernel_rfl
theorem aYe : aT Tryz.prog 66 = true := by kernel_rfl
theorem bDm : aT Tryz.prog 89 = true := by kernel_rfl
theorem bCw : aT Tryz.prog 70 = true := by kernel_rfl
theorem bDt : aT Tryz.prog 64 = true := by kernel_rfl
theorem wV : aT Tryz.prog 31 = true := by kernel_rfl
theorem bDi : aT Tryz.prog 67 = true := by kernel_rfl
theorem aYf : aT Tryz.prog 37 = true := by kernel_rfl
theorem bCy : aT Tryz.prog 87 = true := by kernel_rfl
theorem bCp : aT Tryz.prog 88 = true := by kernel_rfl
theorem aSg : fV Tryz.prog 54 [.slice none 0 0, .map none] [(0, 2)] := eG Tryz.underlying54 (by kernel_rfl) (by kernel_rfl) (by kernel_rfl)
theorem bEg : gW Tryz.prog 54 = some 2 := by kernel_rfl
theorem aXk : aT Tryz.prog 69 = true := by kernel_rfl
theorem bCx : aT Tryz.prog 68 = true := by kernel_rfl
theorem aKj : aT Tryz.prog 32 = true := by kernel_rfl
theorem bCh : aT Tryz.prog 58 = true := by kernel_rfl
theorem bDs : aT Tryz.prog 56 = true := by kernel_rfl
theorem bDa : aT Tryz.prog 57 = true := by kernel_rfl
theorem aXl : aT Tryz.prog 34 = true := by kernel_rfl
theorem aYj : aT Tryz.prog 35 = true := by kernel_rfl
theorem aGz : fJ Tryz.prog 56 = some [.slice none 0 0, .map none] := by kernel_rfl
theorem aXr : aT Tryz.prog 25 = true := by kernel_rfl
end Go.Proofs.YtlmcphcgiclanaaGreatDoor

namespace Go.Proofs.YtlmcphcgiclanaaGreatDoor
open Go.Bil
open Go.RowKit (Below)
open Go.Proofs
set_option maxHeartbeats 4000000 in
theorem mE (w : World) (n l : Int) (h0 : 0 ≤ l) (h1 : l ≤ 2147483647) :
    Calls Tryz.prog 55 #[.int .i32 n, .int .i32 l] w (fun ex w' => ∃ v, ex = .returned v ∧ (fun v w' => v = .bool (decide (qF n l)) ∧ Below w.heap.size w w') v w') := by
  have hneg : IntKind.i32.wrap (-l) = -l := kY _ (by omega) (by omega)
  refine aJ #[.tmp 4] 14 Tryz.func55 rfl Tryz.results55 Tryz.ntmps55 rfl ?_
  have M0 := Mem.refl w
  refine aG (aB ?_)
  refine aA (aE (.bool false) rfl) rfl rfl ?_
  refine aC (aF (aG (aB ?_)))
  refine aA (aD (.int _ _) rfl) rfl rfl ?_
  refine aA (aD (.int _ _) rfl) rfl rfl ?_
  refine aA (wX rfl) rfl rfl ?_
  refine aM 7 (.int .i32 (-l)) (iE hneg) ?_
  refine aA (aP (.bool (decide _)) rfl rfl rfl) rfl rfl ?_
  refine aA (aD (.bool (decide _)) rfl) rfl rfl ?_
  refine cY 9 rfl (fun g9 => ?_) (fun g9 => ?_)
  · refine aA (aD (.int _ _) rfl) rfl rfl ?_
    refine aA (aD (.int _ _) rfl) rfl rfl ?_
    refine aA (aP (.bool (decide _)) rfl rfl rfl) rfl rfl ?_
    refine aA (bN true (.bool (decide _)) rfl rfl) rfl rfl ?_
    refine aA (aE (.bool (decide _)) rfl) rfl rfl ?_
    refine aC (aF (aR ?_))
    refine bY (.bool (decide _)) rfl ?_
    exact ⟨by unfold qF; first | exact bF (by omega) | exact bD (by omega), M0.below⟩
  · refine aS rfl rfl ?_
    refine aS rfl rfl ?_
    refine aS rfl rfl ?_
    refine aA (bN false (.bool false) rfl rfl) rfl rfl ?_
    refine aA (aE (.bool false) rfl) rfl rfl ?_
    refine aC (aF (aR ?_))
    refine bY (.bool false) rfl ?_
    exact ⟨by unfold qF; first | exact bF (by omega) | exact bD (by omega), M0.below⟩
set_option maxHeartbeats 4000000 in
theorem aDo (w : World) (b : Body) :
    Calls Tryz.prog 24 #[(.agg (aI b).toArray)] w (fun ex w' => ∃ v, ex = .returned v ∧ (fun v w' => v = .int .i64 (check b) ∧ Below w.heap.size w w') v w') := by
  refine aJ #[.tmp 2] 63 Tryz.func24 rfl Tryz.results24 Tryz.ntmps24 rfl ?_
  have M0 := Mem.refl w
  refine aG (aB ?_)
  refine bL (.agg (List.toArray _)) M0 rfl rfl rfl (fun b1 w1 M1 => ?_)
  refine aA (aE (.int _ _) rfl) rfl rfl ?_
  refine aC (aF (aG (aG (aB ?_))))
  refine aA (aH 1 jM rfl) rfl rfl ?_
  refine aA (aQ 0 (.int _ _) aX M1 rfl rfl rfl) rfl rfl ?_
  refine aA (aP (.bool (decide _)) rfl rfl rfl) rfl rfl ?_
  refine aA (aD (.bool (decide _)) rfl) rfl rfl ?_
  refine cY 6 rfl (fun g6 => ?_) (fun g6 => ?_)
  · refine aS rfl rfl ?_
    refine aS rfl rfl ?_
    refine aS rfl rfl ?_
    refine aA (bN true (.bool true) rfl rfl) rfl rfl ?_
    refine aC (aF ?_)
    refine cK rfl ?_
    refine aG (aB ?_)
    refine aA (aE (.int _ _) rfl) rfl rfl ?_
    refine aC (aF (aR (cC ?_)))
    refine bY (.int _ _) rfl ?_
    exact ⟨iE (by unfold check; unfold qF at *; (repeat' split) <;> omega), M1.below⟩
  · refine aA (aH 1 jM rfl) rfl rfl ?_
    refine aA (aQ 0 (.int _ _) aX M1 rfl rfl rfl) rfl rfl ?_
    refine aA (aP (.bool (decide _)) rfl rfl rfl) rfl rfl ?_
    refine aA (bN false (.bool (decide _)) rfl rfl) rfl rfl ?_
    refine aC (aF ?_)
    refine aZ rfl (fun h10 => ?_) (fun h10 => ?_)
    · refine aG (aB ?_)
      refine aA (aE (.int _ _) rfl) rfl rfl ?_
      refine aC (aF (aR (cC ?_)))
      refine bY (.int _ _) rfl ?_
      exact ⟨iE (by unfold check; unfold qF at *; (repeat' split) <;> omega), M1.below⟩
    · refine aN (aF (aG (aG (aB ?_))))
      refine aA (aH 2 iU rfl) rfl rfl ?_
      refine aA (aH 0 dG rfl) rfl rfl ?_
      refine aA (aQ 0 (.int _ _) aX M1 rfl rfl rfl) rfl rfl ?_
      refine aK zT rfl rfl rfl ?_
      refine (mE _ _ _ (by omega) (by omega)).mono ?_
      rintro _ w2 ⟨v2, rfl, ⟨rfl, hb2⟩⟩
      refine ⟨_, rfl, ?_⟩
      have M2 := M1.callB hb2
      refine aA (lC rfl) rfl rfl ?_
      refine aA (aD (.bool (decide _)) rfl) rfl rfl ?_
      refine cY 16 rfl (fun g16 => ?_) (fun g16 => ?_)
      · refine aS rfl rfl ?_
        refine aS rfl rfl ?_
        refine aS rfl rfl ?_
        refine aS rfl rfl ?_
        refine aS rfl rfl ?_
        refine aA (bN true (.bool true) rfl rfl) rfl rfl ?_
        refine aC (aF ?_)
        refine cK rfl ?_
        refine aG (aB ?_)
        refine aA (aE (.int _ _) rfl) rfl rfl ?_
        refine aC (aF (aR (cC ?_)))
        refine bY (.int _ _) rfl ?_
        exact ⟨iE (by unfold check; unfold qF at *; (repeat' split) <;> omega), M2.below⟩
      · refine aA (aH 2 iU rfl) rfl rfl ?_
        refine aA (aH 1 dC rfl) rfl rfl ?_
        refine aA (aQ 0 (.int _ _) aX M2 rfl rfl rfl) rfl rfl ?_
        refine aK zT rfl rfl rfl ?_
        refine (mE _ _ _ (by omega) (by omega)).mono ?_
        rintro _ w3 ⟨v3, rfl, ⟨rfl, hb3⟩⟩
        refine ⟨_, rfl, ?_⟩
        have M3 := M2.callB hb3
        refine aA (lC rfl) rfl rfl ?_
        refine aA (bN false (.bool (decide _)) rfl rfl) rfl rfl ?_
        refine aC (aF ?_)
        refine aZ rfl (fun h22 => ?_) (fun h22 => ?_)
        · refine aG (aB ?_)
          refine aA (aE (.int _ _) rfl) rfl rfl ?_
          refine aC (aF (aR (cC ?_)))
          refine bY (.int _ _) rfl ?_
          exact ⟨iE (by unfold check; unfold qF at *; (repeat' split) <;> omega), M3.below⟩
        · refine aN (aF (aG (aG (aB ?_))))
          refine aA (aH 4 eM rfl) rfl rfl ?_
          refine aA (aQ 0 (.int _ _) aX M3 rfl rfl rfl) rfl rfl ?_
          refine aA (aP (.bool (decide _)) rfl rfl rfl) rfl rfl ?_
          refine aA (aD (.bool (decide _)) rfl) rfl rfl ?_
          refine cY 26 rfl (fun g26 => ?_) (fun g26 => ?_)
          · refine aS rfl rfl ?_
            refine aS rfl rfl ?_
            refine aS rfl rfl ?_
            refine aA (bN true (.bool true) rfl rfl) rfl rfl ?_
            refine aC (aF ?_)
            refine cK rfl ?_
            refine aG (aB ?_)
            refine aA (aE (.int _ _) rfl) rfl rfl ?_
            refine aC (aF (aR (cC ?_)))
            refine bY (.int _ _) rfl ?_
            exact ⟨iE (by unfold check; unfold qF at *; (repeat' split) <;> omega), M3.below⟩
          · refine aA (aH 4 eM rfl) rfl rfl ?_
            refine aA (aQ 0 (.int _ _) aX M3 rfl rfl rfl) rfl rfl ?_
            refine aA (aP (.bool (decide _)) rfl rfl rfl) rfl rfl ?_
            refine aA (bN false (.bool (decide _)) rfl rfl) rfl rfl ?_
            refine aC (aF ?_)
            refine aZ rfl (fun h30 => ?_) (fun h30 => ?_)
            · refine aG (aB ?_)
              refine aA (aE (.int _ _) rfl) rfl rfl ?_
              refine aC (aF (aR (cC ?_)))
              refine bY (.int _ _) rfl ?_
              exact ⟨iE (by unfold check; unfold qF at *; (repeat' split) <;> omega), M3.below⟩
            · refine aN (aF (aG (aG (aB ?_))))
              refine aA (aH 5 nC rfl) rfl rfl ?_
              refine aA (aQ 0 (.int _ _) aX M3 rfl rfl rfl) rfl rfl ?_
              refine aA (aP (.bool (decide _)) rfl rfl rfl) rfl rfl ?_
              refine aA (aD (.bool (decide _)) rfl) rfl rfl ?_
              refine cY 34 rfl (fun g34 => ?_) (fun g34 => ?_)
              · refine aS rfl rfl ?_
                refine aS rfl rfl ?_
                refine aS rfl rfl ?_
                refine aA (bN true (.bool true) rfl rfl) rfl rfl ?_
                refine aC (aF ?_)
                refine cK rfl ?_
                refine aG (aB ?_)
                refine aA (aE (.int _ _) rfl) rfl rfl ?_
                refine aC (aF (aR (cC ?_)))
                refine bY (.int _ _) rfl ?_
                exact ⟨iE (by unfold check; unfold qF at *; (repeat' split) <;> omega), M3.below⟩
              · refine aA (aH 5 nC rfl) rfl rfl ?_
                refine aA (aQ 0 (.int _ _) aX M3 rfl rfl rfl) rfl rfl ?_
                refine aA (aP (.bool (decide _)) rfl rfl rfl) rfl rfl ?_
                refine aA (bN false (.bool (decide _)) rfl rfl) rfl rfl ?_
                refine aC (aF ?_)
                refine aZ rfl (fun h38 => ?_) (fun h38 => ?_)
                · refine aG (aB ?_)
                  refine aA (aE (.int _ _) rfl) rfl rfl ?_
                  refine aC (aF (aR (cC ?_)))
                  refine bY (.int _ _) rfl ?_
                  exact ⟨iE (by unfold check; unfold qF at *; (repeat' split) <;> omega), M3.below⟩
                · refine aN (aF (aG (aG (aB ?_))))
                  refine aA (aH 6 fG rfl) rfl rfl ?_
                  refine aA (aH 0 dG rfl) rfl rfl ?_
                  refine aA (aQ 0 (.int _ _) aX M3 rfl rfl rfl) rfl rfl ?_
                  refine aK zT rfl rfl rfl ?_
                  refine (mE _ _ _ (by omega) (by omega)).mono ?_
                  rintro _ w4 ⟨v4, rfl, ⟨rfl, hb4⟩⟩
                  refine ⟨_, rfl, ?_⟩
                  have M4 := M3.callB hb4
                  refine aA (lC rfl) rfl rfl ?_
                  refine aA (aD (.bool (decide _)) rfl) rfl rfl ?_
                  refine cY 44 rfl (fun g44 => ?_) (fun g44 => ?_)
                  · refine aS rfl rfl ?_
                    refine aS rfl rfl ?_
                    refine aS rfl rfl ?_
                    refine aS rfl rfl ?_
                    refine aS rfl rfl ?_
                    refine aA (bN true (.bool true) rfl rfl) rfl rfl ?_
                    refine aC (aF ?_)
                    refine cK rfl ?_
                    refine aG (aB ?_)
                    refine aA (aE (.int _ _) rfl) rfl rfl ?_
                    refine aC (aF (aR (cC ?_)))
                    refine bY (.int _ _) rfl ?_
                    exact ⟨iE (by unfold check; unfold qF at *; (repeat' split) <;> omega), M4.below⟩
                  · refine aA (aH 6 fG rfl) rfl rfl ?_
                    refine aA (aH 1 dC rfl) rfl rfl ?_
                    refine aA (aQ 0 (.int _ _) aX M4 rfl rfl rfl) rfl rfl ?_
                    refine aK zT rfl rfl rfl ?_
                    refine (mE _ _ _ (by omega) (by omega)).mono ?_
                    rintro _ w5 ⟨v5, rfl, ⟨rfl, hb5⟩⟩
                    refine ⟨_, rfl, ?_⟩
                    have M5 := M4.callB hb5
                    refine aA (lC rfl) rfl rfl ?_
                    refine aA (bN false (.bool (decide _)) rfl rfl) rfl rfl ?_
                    refine aC (aF ?_)
                    refine aZ rfl (fun h50 => ?_) (fun h50 => ?_)
                    · refine aG (aB ?_)
                      refine aA (aE (.int _ _) rfl) rfl rfl ?_
                      refine aC (aF (aR (cC ?_)))
                      refine bY (.int _ _) rfl ?_
                      exact ⟨iE (by unfold check; unfold qF at *; (repeat' split) <;> omega), M5.below⟩
                    · refine aN (aF (aG (aG (aB ?_))))
                      refine aA (aH 8 eN rfl) rfl rfl ?_
                      refine aA (aH 0 dG rfl) rfl rfl ?_
                      refine aA (aQ 0 (.int _ _) aX M5 rfl rfl rfl) rfl rfl ?_
                      refine aK zT rfl rfl rfl ?_
                      refine (mE _ _ _ (by omega) (by omega)).mono ?_
                      rintro _ w6 ⟨v6, rfl, ⟨rfl, hb6⟩⟩
                      refine ⟨_, rfl, ?_⟩
                      have M6 := M5.callB hb6
                      refine aA (lC rfl) rfl rfl ?_
                      refine aA (aD (.bool (decide _)) rfl) rfl rfl ?_
                      refine cY 56 rfl (fun g56 => ?_) (fun g56 => ?_)
                      · refine aS rfl rfl ?_
                        refine aS rfl rfl ?_
                        refine aS rfl rfl ?_
                        refine aS rfl rfl ?_
                        refine aS rfl rfl ?_
                        refine aA (bN true (.bool true) rfl rfl) rfl rfl ?_
                        refine aC (aF ?_)
                        refine cK rfl ?_
                        refine aG (aB ?_)
                        refine aA (aE (.int _ _) rfl) rfl rfl ?_
                        refine aC (aF (aR (cC ?_)))
                        refine bY (.int _ _) rfl ?_
                        exact ⟨iE (by unfold check; unfold qF at *; (repeat' split) <;> omega), M6.below⟩
                      · refine aA (aH 8 eN rfl) rfl rfl ?_
                        refine aA (aH 1 dC rfl) rfl rfl ?_
                        refine aA (aQ 0 (.int _ _) aX M6 rfl rfl rfl) rfl rfl ?_
                        refine aK zT rfl rfl rfl ?_
                        refine (mE _ _ _ (by omega) (by omega)).mono ?_
                        rintro _ w7 ⟨v7, rfl, ⟨rfl, hb7⟩⟩
                        refine ⟨_, rfl, ?_⟩
                        have M7 := M6.callB hb7
                        refine aA (lC rfl) rfl rfl ?_
                        refine aA (bN false (.bool (decide _)) rfl rfl) rfl rfl ?_
                        refine aC (aF ?_)
                        refine aZ rfl (fun h62 => ?_) (fun h62 => ?_)
                        · refine aG (aB ?_)
                          refine aA (aE (.int _ _) rfl) rfl rfl ?_
                          refine aC (aF (aR (cC ?_)))
                          refine bY (.int _ _) rfl ?_
                          exact ⟨iE (by unfold check; unfold qF at *; (repeat' split) <;> omega), M7.below⟩
                        · refine aN (aF (aG (aB ?_)))
                          refine aA (aE (.int _ _) rfl) rfl rfl ?_
                          refine aC (aF (aR ?_))
                          refine bY (.int _ _) rfl ?_
                          exact ⟨iE (by unfold check; unfold qF at *; (repeat' split) <;> omega), M7.below⟩
end Go.Proofs.YtlmcphcgiclanaaGreatDoor

namespace Go.Proofs.YtlmcphcgiclanaaGreatDoor
open Go.Bil
open Go.RowKit (Below)
open Go.Proofs
theorem bAw (a b : Body) : EqA Tryz.prog 40 (aI a) (aI b) (decide (a = b)) := by
  have h := bEb a.key a.radius a.ax a.ay a.mass a.bounce a.px a.py a.vx a.vy b.key b.radius b.ax b.ay b.mass b.bounce b.px b.py b.vx b.vy
  rw [decide_eq_decide.2 (aPq (a := a) (b := b))]
  exact h
set_option maxHeartbeats 4000000 in
theorem aIs (w : World) (key : Int) (A : Option Addr) (n c : Nat) (xs : List Body) (R : Rd w 10 A n (xs.map aI)) :
    Calls Tryz.prog 38 #[.slice A n c, .int .u32 key] w (fun ex w' => ∃ v, ex = .returned v ∧ (fun v w' => v = .int .i64 (cE key xs) ∧ Below w.heap.size w w') v w') := by
  have hlen : xs.length = n := by simpa using R.len
  have hbd := R.bound
  refine aJ #[.tmp 4] 20 Tryz.func38 rfl Tryz.results38 Tryz.ntmps38 rfl ?_
  have M0 := Mem.refl w
  refine aG (aB ?_)
  refine aA (aE (.int _ _) rfl) rfl rfl ?_
  refine aC (aF (aG (aG (aB ?_))))
  refine aA (aE (.int _ _) rfl) rfl rfl ?_
  refine aC (aF (aV ?_))
  refine dK (σ := Nat) [0, 1] (fun k => [(5, .int .i64 (k : Int))]) (fun k w' => (k ≤ n ∧ ∀ (j : Nat) (c : Body), j < k → xs[j]? = some c → c.key ≠ key) ∧ Mem w [] [] w') (fun k => n - k) 0 (bK rfl eO) (⟨⟨by omega, fun j c hj => by omega⟩, M0⟩) ?_
  rintro k ρ1 w1 ⟨⟨hk, hne⟩, hM1⟩
  refine aG (aG (aB ?_))
  refine aA (aD (.int _ _) rfl) rfl rfl ?_
  refine aA (aD (.slice _ _ _) rfl) rfl rfl ?_
  refine aA (cT Tryz.underlying22 rfl) rfl rfl ?_
  refine aA (aP (.bool (decide _)) rfl rfl rfl) rfl rfl ?_
  refine aC (aF ?_)
  refine aZ rfl (fun h9 => ?_) (fun h9 => ?_)
  · obtain ⟨xb, hxb⟩ := cL (k := k) hlen (by omega)
    refine aN (aF (aG (aV (aG (aB ?_)))))
    refine aA (aD (.slice _ _ _) rfl) rfl rfl ?_
    refine aA (aD (.int _ _) rfl) rfl rfl ?_
    refine aA (bU (k) dO rfl rfl rfl ((R.mem hM1).below_len (aL aI hxb)) ((R.mem hM1).someK (aL aI hxb))) rfl rfl ?_
    refine aA (bP 0 dJ (R.mem hM1) (Nat.lt_of_le_of_lt (Nat.zero_le _) ((R.mem hM1).below_len (aL aI hxb))) rfl) rfl rfl ?_
    refine aA (eH (o := 0) (.int _ _) bR (R.mem hM1) (aL aI hxb) rfl rfl) rfl rfl ?_
    refine aA (aD (.int _ _) rfl) rfl rfl ?_
    refine aA (aP (.bool (decide _)) rfl rfl rfl) rfl rfl ?_
    refine aC (aF ?_)
    refine aZ rfl (fun h18 => ?_) (fun h18 => ?_)
    · refine aG (aB ?_)
      refine aA (aD (.int _ _) rfl) rfl rfl ?_
      refine aA (aE (.int _ _) rfl) rfl rfl ?_
      refine aC (aF (aR ?_))
      refine jW ?_
      refine cC ?_
      refine yD ?_
      refine jW ?_
      refine cC ?_
      refine bY (.int _ _) rfl ?_
      exact ⟨iE (rQ hxb h18 hne).symm, hM1.below⟩
    · refine aN ?_
      refine dB ?_
      refine aF (aB ?_)
      refine aA (aD (.int _ _) rfl) rfl rfl ?_
      refine aA (bM rfl rfl (by omega) (by omega)) rfl rfl ?_
      refine aA (aE (.int _ _) rfl) rfl rfl ?_
      refine aC ?_
      refine cO (k + 1) (bK rfl eO) (cS rfl (cS rfl jB)) ?_ ?_
      · exact ⟨⟨by omega, uY hne hxb h18⟩, hM1⟩
      · omega
  · refine cP ?_
    refine dA ?_
    refine cZ ?_
    refine eQ ?_
    refine aF (aG (aB ?_))
    refine aA (aE (.int _ _) rfl) rfl rfl ?_
    refine aC (aF (aR ?_))
    refine bY (.int _ _) rfl ?_
    have hkn : k = n := by omega
    exact ⟨iE (aAy (fun j b hj => hne j b (by have := (List.getElem?_eq_some_iff.1 hj).1; omega) hj)).symm, hM1.below⟩
set_option maxHeartbeats 4000000 in
theorem vP (w : World) (A : Option Addr) (n c : Nat) (xs : List Body) (R : Rd w 10 A n (xs.map aI)) (B : Option Addr) (m c' : Nat) (ys : List Body) (R' : Rd w 10 B m (ys.map aI)) :
    Calls Tryz.prog 18 #[.slice A n c, .slice B m c'] w (fun ex w' => ∃ v, ex = .returned v ∧ (fun v w' => v = .bool (decide (xs = ys)) ∧ Below w.heap.size w w') v w') := by
  have hlen : xs.length = n := by simpa using R.len
  have hbd := R.bound
  have hlen' : ys.length = m := by simpa using R'.len
  have hbd' := R'.bound
  refine aJ #[.tmp 4] 26 Tryz.func18 rfl Tryz.results18 Tryz.ntmps18 rfl ?_
  have M0 := Mem.refl w
  refine aG (aB ?_)
  refine aA (aE (.bool false) rfl) rfl rfl ?_
  refine aC (aF (aG (aG (aB ?_))))
  refine aA (aD (.slice _ _ _) rfl) rfl rfl ?_
  refine aA (cT Tryz.underlying22 rfl) rfl rfl ?_
  refine aA (aD (.slice _ _ _) rfl) rfl rfl ?_
  refine aA (cT Tryz.underlying22 rfl) rfl rfl ?_
  refine aA (aP (.bool (decide _)) rfl rfl rfl) rfl rfl ?_
  refine aC (aF ?_)
  refine aZ rfl (fun h10 => ?_) (fun h10 => ?_)
  · refine aG (aB ?_)
    refine aA (aE (.bool false) rfl) rfl rfl ?_
    refine aC (aF (aR (cC ?_)))
    refine bY (.bool false) rfl ?_
    exact ⟨bF (fun e => h10 (by rw [← hlen, ← hlen', e])), M0.below⟩
  · have hnm : n = m := by omega
    refine aN (aF (aG (aG (aB ?_))))
    refine aA (aE (.int _ _) rfl) rfl rfl ?_
    refine aC (aF (aV ?_))
    refine dK (σ := Nat) [0, 1] (fun k => [(5, .int .i64 (k : Int))]) (fun k w' => (k ≤ n ∧ ∀ (j : Nat) (x : Body), j < k → xs[j]? = some x → ys[j]? = some x) ∧ Mem w [] [] w') (fun k => n - k) 0 (bK rfl eO) (⟨⟨by omega, fun j c hj => by omega⟩, M0⟩) ?_
    rintro k ρ1 w1 ⟨⟨hk, hne⟩, hM1⟩
    refine aG (aG (aB ?_))
    refine aA (aD (.int _ _) rfl) rfl rfl ?_
    refine aA (aD (.slice _ _ _) rfl) rfl rfl ?_
    refine aA (cT Tryz.underlying22 rfl) rfl rfl ?_
    refine aA (aP (.bool (decide _)) rfl rfl rfl) rfl rfl ?_
    refine aC (aF ?_)
    refine aZ rfl (fun h14 => ?_) (fun h14 => ?_)
    · obtain ⟨xb, hxb⟩ := cL (k := k) hlen (by omega)
      obtain ⟨yb, hyb⟩ := cL (k := k) hlen' (by omega)
      refine aN (aF (aG (aV (aG ?_))))
      refine bS [(0, 0), (1, 0), (2, 1), (3, 1), (4, 0), (5, 0), (6, 1), (7, 1), (8, 0)] mixed rfl (by kernel_rfl) (fun w2 hb2 hh2 => ?_)
      have M2 := hM1.drew hb2 hh2
      refine aU rfl rfl rfl (fun _ => aD (.slice _ _ _) rfl) ?_
      refine aU rfl rfl rfl (fun _ => aD (.int _ _) rfl) ?_
      refine cB rfl rfl rfl (bU (k) dO rfl rfl rfl ((R.mem M2).below_len (aL aI hxb)) ((R.mem M2).someK (aL aI hxb))) ?_
      refine cB rfl rfl rfl (dS _ bO (R.mem M2) (aL aI hxb) rfl) ?_
      refine aU rfl rfl rfl (fun _ => aD (.slice _ _ _) rfl) ?_
      refine aU rfl rfl rfl (fun _ => aD (.int _ _) rfl) ?_
      refine cB rfl rfl rfl (bU (k) dO rfl rfl rfl ((R'.mem M2).below_len (aL aI hyb)) ((R'.mem M2).someK (aL aI hyb))) ?_
      refine cB rfl rfl rfl (dS _ bO (R'.mem M2) (aL aI hyb) rfl) ?_
      refine aU rfl rfl rfl (fun _ => bDy (bAw xb yb) rfl rfl) ?_
      refine cF ?_
      refine aF ?_
      refine aZ rfl (fun h25 => ?_) (fun h25 => ?_)
      · refine aG (aB ?_)
        refine aA (aE (.bool false) rfl) rfl rfl ?_
        refine aC (aF (aR ?_))
        refine jW ?_
        refine cC ?_
        refine yD ?_
        refine jW ?_
        refine cC ?_
        refine bY (.bool false) rfl ?_
        exact ⟨bF (fun e => h25 (by rw [e] at hxb; rw [hxb] at hyb; injection hyb)), M2.below⟩
      · refine aN ?_
        refine dB ?_
        refine aF (aB ?_)
        refine aA (aD (.int _ _) rfl) rfl rfl ?_
        refine aA (bM rfl rfl (by omega) (by omega)) rfl rfl ?_
        refine aA (aE (.int _ _) rfl) rfl rfl ?_
        refine aC ?_
        refine cO (k + 1) (bK rfl eO) (cS rfl (cS rfl jB)) ?_ ?_
        · exact ⟨⟨by omega, uY (p := fun j x => ys[j]? = some x) hne hxb (by rw [hyb, Decidable.not_not.1 h25])⟩, M2⟩
        · omega
    · refine cP ?_
      refine dA ?_
      refine cZ ?_
      refine eQ ?_
      refine aF (aG (aB ?_))
      refine aA (aE (.bool true) rfl) rfl rfl ?_
      refine aC (aF (aR ?_))
      refine bY (.bool true) rfl ?_
      exact ⟨bT (List.ext_getElem? fun j => by
      by_cases hj : j < xs.length
      · obtain ⟨x, hx⟩ := cL (k := j) rfl hj
        rw [hx, hne j x (by omega) hx]
      · rw [List.getElem?_eq_none (by omega), List.getElem?_eq_none (by omega)]), hM1.below⟩
set_option maxHeartbeats 4000000 in
theorem aMu (w : World) (b : Body) (gone : Bool) (A : Option Addr) (n c : Nat) (xs : List Body) (R : Rd w 10 A n (xs.map aI)) (hn : n ≤ 1048576) :
    Calls Tryz.prog 90 #[.slice A n c, (.agg (aI b).toArray), .bool gone] w (fun ex w' => ∃ v, ex = .returned v ∧ (fun v w' => ∃ A' n' c' e, v = .slice A' n' c' ∧ bA 40 10 A' n' c' ((rT xs b gone).map aI) e ∧ Mem w [] [e] w') v w') := by
  have hlen : xs.length = n := by simpa using R.len
  have hbd := R.bound
  refine aJ #[.tmp 6] 55 Tryz.func90 rfl Tryz.results90 Tryz.ntmps90 rfl ?_
  have M0 := Mem.refl w
  refine aG (aB ?_)
  refine bL (.agg (List.toArray _)) M0 rfl rfl rfl (fun b1 w1 M1 => ?_)
  refine aA (aE (.slice _ _ _) rfl) rfl rfl ?_
  refine aC (aF (aG (aB ?_)))
  refine aA (aE (.slice _ _ _) rfl) rfl rfl ?_
  have M2 := M1.dummy default
  refine aC (aF (aG (aB ?_)))
  refine aA (aD (.bool _) rfl) rfl rfl ?_
  refine aA (aE (.bool _) rfl) rfl rfl ?_
  refine aC (aF (aG (aG (aB ?_))))
  refine aA (aE (.int _ _) rfl) rfl rfl ?_
  refine aC (aF (aV ?_))
  refine dK (σ := Nat × List Body × Bool × Row) [0, 4, 6] (fun (k, acc, done, r) => [(7, .slice r.A r.n r.c), (8, .bool done), (9, .int .i64 (k : Int))]) (fun (k, acc, done, r) w' => (k ≤ n ∧ fW b gone (xs.take k) = (acc, done) ∧ bA 40 10 r.A r.n r.c (acc.map aI) r.e) ∧ Mem w [] [(some b1, bc (aI b) 40), r.e] w') (fun (k, acc, done, r) => n - k) (0, [], gone, ⟨none, 0, 0, (none, default)⟩) (bK rfl (bK rfl (bK rfl eO))) (⟨⟨by omega, rfl, bA.nil _ _ _⟩, M2⟩) ?_
  rintro ⟨k, acc, done, r⟩ ρ3 w3 ⟨⟨hk, heq, hr⟩, hM3⟩
  have hra : acc.length = r.n := by simpa using hr.1
  have hrl : acc.length ≤ k + 1 := by have h := aGw b gone xs k; rw [heq] at h; exact h
  refine aG (aG (aB ?_))
  refine aA (aD (.int _ _) rfl) rfl rfl ?_
  refine aA (aD (.slice _ _ _) rfl) rfl rfl ?_
  refine aA (cT Tryz.underlying22 rfl) rfl rfl ?_
  refine aA (aP (.bool (decide _)) rfl rfl rfl) rfl rfl ?_
  refine aC (aF ?_)
  refine aZ rfl (fun h14 => ?_) (fun h14 => ?_)
  · obtain ⟨xb, hxb⟩ := cL (k := k) hlen (by omega)
    refine aN (aF (aG (aV (aG (aG ?_)))))
    refine bS [(0, 0), (1, 0), (2, 0), (3, 0), (4, 0), (5, 1), (6, 1), (7, 1), (8, 0), (9, 1), (10, 0), (11, 0)] mixed rfl (by kernel_rfl) (fun w4 hb4 hh4 => ?_)
    have M4 := hM3.drew hb4 hh4
    refine aU rfl rfl rfl (fun _ => aD (.bool _) rfl) ?_
    refine aU rfl rfl rfl (fun _ => iZ _ rfl rfl) ?_
    refine aU rfl rfl rfl (fun _ => aD (.bool _) rfl) ?_
    refine aUr 19 _ rfl (fun g19 => ?_) (fun g19 => ?_)
    · have hd : done = false := by simpa using g19
      refine aU rfl rfl rfl (fun _ => aD (.slice _ _ _) rfl) ?_
      refine aU rfl rfl rfl (fun _ => aD (.int _ _) rfl) ?_
      refine cB rfl rfl rfl (bU (k) dO rfl rfl rfl ((R.mem M4).below_len (aL aI hxb)) ((R.mem M4).someK (aL aI hxb))) ?_
      refine cB rfl rfl rfl (bP 0 dJ (R.mem M4) (Nat.lt_of_le_of_lt (Nat.zero_le _) ((R.mem M4).below_len (aL aI hxb))) rfl) ?_
      refine cB rfl rfl rfl (eH (o := 0) (.int _ _) bR (R.mem M4) (aL aI hxb) rfl rfl) ?_
      refine aU rfl rfl rfl (fun _ => aH 0 dJ rfl) ?_
      refine cB rfl rfl rfl (aQ 0 (.int _ _) bR M4 rfl rfl rfl) ?_
      refine aU rfl rfl rfl (fun _ => aP (.bool (decide _)) rfl rfl rfl) ?_
      refine aU rfl rfl rfl (fun _ => bN true (.bool (decide _)) rfl rfl) ?_
      refine cF ?_
      refine aF ?_
      refine aZ rfl (fun h28 => ?_) (fun h28 => ?_)
      · refine aG (aB ?_)
        refine aA (aE (.bool true) rfl) rfl rfl ?_
        refine aC (aF (aB ?_))
        refine aA (aD (.slice _ _ _) rfl) rfl rfl ?_
        refine aA (bE 0 bO M4 rfl rfl rfl) rfl rfl ?_
        refine cR [.agg (List.toArray _)] _ rfl dO M4 rfl rfl rfl rfl (cW rfl) (by decide) (fun b5 w5 M5 => ?_)
        refine dL 1 [aI b] dO M5 rfl rfl rfl rfl rfl hr rfl (by simpa using ⟨fA b, eZ b⟩) (cX.ofMem 2 M5 rfl) (by omega) (fun A6 c6 e6 w6 M6 hR6 => ?_)
        refine aA (aE (.slice _ _ _) rfl) rfl rfl ?_
        refine aC (aF (aG ?_))
        refine bS [(0, 0), (1, 0), (2, 1), (3, 1), (4, 1), (5, 0), (6, 1), (7, 0)] mixed rfl (by kernel_rfl) (fun w7 hb7 hh7 => ?_)
        have M7 := M6.drew hb7 hh7
        refine aU rfl rfl rfl (fun _ => aD (.slice _ _ _) rfl) ?_
        refine aU rfl rfl rfl (fun _ => aD (.int _ _) rfl) ?_
        refine cB rfl rfl rfl (bU (k) dO rfl rfl rfl ((R.mem M7).below_len (aL aI hxb)) ((R.mem M7).someK (aL aI hxb))) ?_
        refine cB rfl rfl rfl (bP 0 dJ (R.mem M7) (Nat.lt_of_le_of_lt (Nat.zero_le _) ((R.mem M7).below_len (aL aI hxb))) rfl) ?_
        refine cB rfl rfl rfl (eH (o := 0) (.int _ _) bR (R.mem M7) (aL aI hxb) rfl rfl) ?_
        refine aU rfl rfl rfl (fun _ => aH 0 dJ rfl) ?_
        refine cB rfl rfl rfl (aQ 0 (.int _ _) bR M7 rfl rfl rfl) ?_
        refine aU rfl rfl rfl (fun _ => aP (.bool (decide _)) rfl rfl rfl) ?_
        refine cF ?_
        refine aF ?_
        refine aZ rfl (fun h40 => ?_) (fun h40 => ?_)
        · refine aB ?_
          refine aA (aD (.slice _ _ _) rfl) rfl rfl ?_
          refine aA (aD (.slice _ _ _) rfl) rfl rfl ?_
          refine aA (aD (.int _ _) rfl) rfl rfl ?_
          refine aA (bU (k) dO rfl rfl rfl ((R.mem M7).below_len (aL aI hxb)) ((R.mem M7).someK (aL aI hxb))) rfl rfl ?_
          refine aA (dS _ bO (R.mem M7) (aL aI hxb) rfl) rfl rfl ?_
          refine cR [.agg (List.toArray _)] _ rfl dO M7 rfl rfl rfl rfl (cW rfl) (by decide) (fun b8 w8 M8 => ?_)
          refine dL 1 [aI xb] dO M8 rfl rfl rfl rfl rfl hR6 rfl (by simpa using ⟨fA xb, eZ xb⟩) (cX.ofMem 3 M8 rfl) (by omega) (fun A9 c9 e9 w9 M9 hR9 => ?_)
          refine aA (aE (.slice _ _ _) rfl) rfl rfl ?_
          refine aC ?_
          refine dB ?_
          refine aF (aB ?_)
          refine aA (aD (.int _ _) rfl) rfl rfl ?_
          refine aA (bM rfl rfl (by omega) (by omega)) rfl rfl ?_
          refine aA (aE (.int _ _) rfl) rfl rfl ?_
          refine aC ?_
          refine cO (k + 1, (fW b gone (xs.take (k + 1))).1, (fW b gone (xs.take (k + 1))).2, ⟨A9, r.n + 1 + 1, c9, e9⟩) (bK rfl (bK (bv rfl (by rw [eD b gone hxb, heq]; simp [dW, *])) (bK rfl eO))) (cS rfl (cS rfl (cS rfl jB))) ?_ ?_
          · exact ⟨⟨by omega, rfl, by rw [eD b gone hxb, heq]; simpa [dW, *] using hR9⟩, M9.keep [true, true, false, false]⟩
          · (show n - (k + 1) < n - k; omega)
        · refine aN ?_
          refine dB ?_
          refine aF (aB ?_)
          refine aA (aD (.int _ _) rfl) rfl rfl ?_
          refine aA (bM rfl rfl (by omega) (by omega)) rfl rfl ?_
          refine aA (aE (.int _ _) rfl) rfl rfl ?_
          refine aC ?_
          refine cO (k + 1, (fW b gone (xs.take (k + 1))).1, (fW b gone (xs.take (k + 1))).2, ⟨A6, r.n + 1, c6, e6⟩) (bK rfl (bK (bv rfl (by rw [eD b gone hxb, heq]; simp [dW, *])) (bK rfl eO))) (cS rfl (cS rfl (cS rfl jB))) ?_ ?_
          · exact ⟨⟨by omega, rfl, by rw [eD b gone hxb, heq]; simpa [dW, *] using hR6⟩, M7.keep [true, true, false]⟩
          · (show n - (k + 1) < n - k; omega)
      · refine aN (aF (aG ?_))
        refine bS [(0, 0), (1, 0), (2, 1), (3, 1), (4, 1), (5, 0), (6, 1), (7, 0)] mixed rfl (by kernel_rfl) (fun w10 hb10 hh10 => ?_)
        have M10 := M4.drew hb10 hh10
        refine aU rfl rfl rfl (fun _ => aD (.slice _ _ _) rfl) ?_
        refine aU rfl rfl rfl (fun _ => aD (.int _ _) rfl) ?_
        refine cB rfl rfl rfl (bU (k) dO rfl rfl rfl ((R.mem M10).below_len (aL aI hxb)) ((R.mem M10).someK (aL aI hxb))) ?_
        refine cB rfl rfl rfl (bP 0 dJ (R.mem M10) (Nat.lt_of_le_of_lt (Nat.zero_le _) ((R.mem M10).below_len (aL aI hxb))) rfl) ?_
        refine cB rfl rfl rfl (eH (o := 0) (.int _ _) bR (R.mem M10) (aL aI hxb) rfl rfl) ?_
        refine aU rfl rfl rfl (fun _ => aH 0 dJ rfl) ?_
        refine cB rfl rfl rfl (aQ 0 (.int _ _) bR M10 rfl rfl rfl) ?_
        refine aU rfl rfl rfl (fun _ => aP (.bool (decide _)) rfl rfl rfl) ?_
        refine cF ?_
        refine aF ?_
        refine aZ rfl (fun h40 => ?_) (fun h40 => ?_)
        · refine aB ?_
          refine aA (aD (.slice _ _ _) rfl) rfl rfl ?_
          refine aA (aD (.slice _ _ _) rfl) rfl rfl ?_
          refine aA (aD (.int _ _) rfl) rfl rfl ?_
          refine aA (bU (k) dO rfl rfl rfl ((R.mem M10).below_len (aL aI hxb)) ((R.mem M10).someK (aL aI hxb))) rfl rfl ?_
          refine aA (dS _ bO (R.mem M10) (aL aI hxb) rfl) rfl rfl ?_
          refine cR [.agg (List.toArray _)] _ rfl dO M10 rfl rfl rfl rfl (cW rfl) (by decide) (fun b11 w11 M11 => ?_)
          refine dL 1 [aI xb] dO M11 rfl rfl rfl rfl rfl hr rfl (by simpa using ⟨fA xb, eZ xb⟩) (cX.ofMem 2 M11 rfl) (by omega) (fun A12 c12 e12 w12 M12 hR12 => ?_)
          refine aA (aE (.slice _ _ _) rfl) rfl rfl ?_
          refine aC ?_
          refine dB ?_
          refine aF (aB ?_)
          refine aA (aD (.int _ _) rfl) rfl rfl ?_
          refine aA (bM rfl rfl (by omega) (by omega)) rfl rfl ?_
          refine aA (aE (.int _ _) rfl) rfl rfl ?_
          refine aC ?_
          refine cO (k + 1, (fW b gone (xs.take (k + 1))).1, (fW b gone (xs.take (k + 1))).2, ⟨A12, r.n + 1, c12, e12⟩) (bK rfl (bK (bv rfl (by rw [eD b gone hxb, heq]; simp [dW, *])) (bK rfl eO))) (cS rfl (cS rfl (cS rfl jB))) ?_ ?_
          · exact ⟨⟨by omega, rfl, by rw [eD b gone hxb, heq]; simpa [dW, *] using hR12⟩, M12.keep [true, true, false]⟩
          · (show n - (k + 1) < n - k; omega)
        · refine aN ?_
          refine dB ?_
          refine aF (aB ?_)
          refine aA (aD (.int _ _) rfl) rfl rfl ?_
          refine aA (bM rfl rfl (by omega) (by omega)) rfl rfl ?_
          refine aA (aE (.int _ _) rfl) rfl rfl ?_
          refine aC ?_
          refine cO (k + 1, (fW b gone (xs.take (k + 1))).1, (fW b gone (xs.take (k + 1))).2, r) (bK rfl (bK (bv rfl (by rw [eD b gone hxb, heq]; simp [dW, *])) (bK rfl eO))) (cS rfl (cS rfl (cS rfl jB))) ?_ ?_
          · exact ⟨⟨by omega, rfl, by rw [eD b gone hxb, heq]; simpa [dW, *] using hr⟩, M10.keep [true, true]⟩
          · (show n - (k + 1) < n - k; omega)
    · have hd : done = true := by simpa using g19
      refine D_s rfl rfl rfl ?_
      refine D_s rfl rfl rfl ?_
      refine aUj rfl rfl rfl ?_
      refine aUj rfl rfl rfl ?_
      refine aUj rfl rfl rfl ?_
      refine D_s rfl rfl rfl ?_
      refine aUj rfl rfl rfl ?_
      refine D_s rfl rfl rfl ?_
      refine aU rfl rfl rfl (fun _ => bN false (.bool false) rfl rfl) ?_
      refine cF ?_
      refine aF ?_
      refine cH rfl ?_
      refine aN (aF (aG ?_))
      refine bS [(0, 0), (1, 0), (2, 1), (3, 1), (4, 1), (5, 0), (6, 1), (7, 0)] mixed rfl (by kernel_rfl) (fun w13 hb13 hh13 => ?_)
      have M13 := M4.drew hb13 hh13
      refine aU rfl rfl rfl (fun _ => aD (.slice _ _ _) rfl) ?_
      refine aU rfl rfl rfl (fun _ => aD (.int _ _) rfl) ?_
      refine cB rfl rfl rfl (bU (k) dO rfl rfl rfl ((R.mem M13).below_len (aL aI hxb)) ((R.mem M13).someK (aL aI hxb))) ?_
      refine cB rfl rfl rfl (bP 0 dJ (R.mem M13) (Nat.lt_of_le_of_lt (Nat.zero_le _) ((R.mem M13).below_len (aL aI hxb))) rfl) ?_
      refine cB rfl rfl rfl (eH (o := 0) (.int _ _) bR (R.mem M13) (aL aI hxb) rfl rfl) ?_
      refine aU rfl rfl rfl (fun _ => aH 0 dJ rfl) ?_
      refine cB rfl rfl rfl (aQ 0 (.int _ _) bR M13 rfl rfl rfl) ?_
      refine aU rfl rfl rfl (fun _ => aP (.bool (decide _)) rfl rfl rfl) ?_
      refine cF ?_
      refine aF ?_
      refine aZ rfl (fun h40 => ?_) (fun h40 => ?_)
      · refine aB ?_
        refine aA (aD (.slice _ _ _) rfl) rfl rfl ?_
        refine aA (aD (.slice _ _ _) rfl) rfl rfl ?_
        refine aA (aD (.int _ _) rfl) rfl rfl ?_
        refine aA (bU (k) dO rfl rfl rfl ((R.mem M13).below_len (aL aI hxb)) ((R.mem M13).someK (aL aI hxb))) rfl rfl ?_
        refine aA (dS _ bO (R.mem M13) (aL aI hxb) rfl) rfl rfl ?_
        refine cR [.agg (List.toArray _)] _ rfl dO M13 rfl rfl rfl rfl (cW rfl) (by decide) (fun b14 w14 M14 => ?_)
        refine dL 1 [aI xb] dO M14 rfl rfl rfl rfl rfl hr rfl (by simpa using ⟨fA xb, eZ xb⟩) (cX.ofMem 2 M14 rfl) (by omega) (fun A15 c15 e15 w15 M15 hR15 => ?_)
        refine aA (aE (.slice _ _ _) rfl) rfl rfl ?_
        refine aC ?_
        refine dB ?_
        refine aF (aB ?_)
        refine aA (aD (.int _ _) rfl) rfl rfl ?_
        refine aA (bM rfl rfl (by omega) (by omega)) rfl rfl ?_
        refine aA (aE (.int _ _) rfl) rfl rfl ?_
        refine aC ?_
        refine cO (k + 1, (fW b gone (xs.take (k + 1))).1, (fW b gone (xs.take (k + 1))).2, ⟨A15, r.n + 1, c15, e15⟩) (bK rfl (bK (bv rfl (by rw [eD b gone hxb, heq]; simp [dW, *])) (bK rfl eO))) (cS rfl (cS rfl (cS rfl jB))) ?_ ?_
        · exact ⟨⟨by omega, rfl, by rw [eD b gone hxb, heq]; simpa [dW, *] using hR15⟩, M15.keep [true, true, false]⟩
        · (show n - (k + 1) < n - k; omega)
      · refine aN ?_
        refine dB ?_
        refine aF (aB ?_)
        refine aA (aD (.int _ _) rfl) rfl rfl ?_
        refine aA (bM rfl rfl (by omega) (by omega)) rfl rfl ?_
        refine aA (aE (.int _ _) rfl) rfl rfl ?_
        refine aC ?_
        refine cO (k + 1, (fW b gone (xs.take (k + 1))).1, (fW b gone (xs.take (k + 1))).2, r) (bK rfl (bK (bv rfl (by rw [eD b gone hxb, heq]; simp [dW, *])) (bK rfl eO))) (cS rfl (cS rfl (cS rfl jB))) ?_ ?_
        · exact ⟨⟨by omega, rfl, by rw [eD b gone hxb, heq]; simpa [dW, *] using hr⟩, M13.keep [true, true]⟩
        · (show n - (k + 1) < n - k; omega)
  · have hkn : k = n := by omega
    subst hkn
    rw [List.take_of_length_le (by omega)] at heq
    refine cP ?_
    refine dA ?_
    refine cZ ?_
    refine eQ ?_
    refine aF (aG (aG (aB ?_)))
    refine aA (aD (.bool _) rfl) rfl rfl ?_
    refine aA (iZ _ rfl rfl) rfl rfl ?_
    refine aC (aF ?_)
    refine gK _ rfl (fun h49 => ?_) (fun h49 => ?_)
    · have hd : done = false := by simpa using h49
      refine aB ?_
      refine aA (aD (.slice _ _ _) rfl) rfl rfl ?_
      refine aA (bE 0 bO hM3 rfl rfl rfl) rfl rfl ?_
      refine cR [.agg (List.toArray _)] _ rfl dO hM3 rfl rfl rfl rfl (cW rfl) (by decide) (fun b16 w16 M16 => ?_)
      refine dL 1 [aI b] dO M16 rfl rfl rfl rfl rfl hr rfl (by simpa using ⟨fA b, eZ b⟩) (cX.ofMem 2 M16 rfl) (by omega) (fun A17 c17 e17 w17 M17 hR17 => ?_)
      refine aA (aE (.slice _ _ _) rfl) rfl rfl ?_
      refine aC (aF (aG (aB ?_)))
      refine aA (aD (.slice _ _ _) rfl) rfl rfl ?_
      refine aA (aE (.slice _ _ _) rfl) rfl rfl ?_
      refine aC (aF (aR ?_))
      refine bY (.slice _ _ _) rfl ?_
      exact ⟨_, _, _, _, rfl, by unfold rT; rw [heq]; simpa [*] using hR17, M17.keep [false, true, false]⟩
    · have hd : done = true := by simpa using h49
      refine aN (aF (aG (aB ?_)))
      refine aA (aD (.slice _ _ _) rfl) rfl rfl ?_
      refine aA (aE (.slice _ _ _) rfl) rfl rfl ?_
      refine aC (aF (aR ?_))
      refine bY (.slice _ _ _) rfl ?_
      exact ⟨_, _, _, _, rfl, by unfold rT; rw [heq]; simpa [*] using hr, hM3.keep [false, true]⟩
end Go.Proofs.YtlmcphcgiclanaaGreatDoor

namespace Go.Proofs.YtlmcphcgiclanaaGreatDoor
open Go.Bil
open Go.RowKit (Below)
open Go.Proofs
set_option maxHeartbeats 4000000 in
theorem oT (w : World) (x y l : Int) (h0 : 0 ≤ l) (h1 : l ≤ 2147483647) :
    Calls Tryz.prog 124 #[.agg [.int .i32 x, .int .i32 y].toArray, .int .i32 l] w (fun ex w' => ∃ v, ex = .returned v ∧ (fun v w' => v = .bool (decide (-l ≤ x ∧ x ≤ l ∧ -l ≤ y ∧ y ≤ l)) ∧ Below w.heap.size w w') v w') := by
  have hneg : IntKind.i32.wrap (-l) = -l := kY _ (by omega) (by omega)
  refine aJ #[.tmp 4] 29 Tryz.func124 rfl Tryz.results124 Tryz.ntmps124 rfl ?_
  have M0 := Mem.refl w
  refine aG (aB ?_)
  refine bL (.agg (List.toArray _)) M0 rfl rfl rfl (fun b1 w1 M1 => ?_)
  refine aA (aE (.bool false) rfl) rfl rfl ?_
  refine aC (aF (aG (aB ?_)))
  refine aA (aD (.int _ _) rfl) rfl rfl ?_
  refine aA (wX rfl) rfl rfl ?_
  refine aM 6 (.int .i32 (-l)) (iE hneg) ?_
  refine aA (aH 0 dG rfl) rfl rfl ?_
  refine aA (aQ 0 (.int _ _) aX M1 rfl rfl rfl) rfl rfl ?_
  refine aA (aP (.bool (decide _)) rfl rfl rfl) rfl rfl ?_
  refine aA (aD (.bool (decide _)) rfl) rfl rfl ?_
  refine cY 10 rfl (fun g10 => ?_) (fun g10 => ?_)
  · refine aA (aH 0 dG rfl) rfl rfl ?_
    refine aA (aQ 0 (.int _ _) aX M1 rfl rfl rfl) rfl rfl ?_
    refine aA (aD (.int _ _) rfl) rfl rfl ?_
    refine aA (aP (.bool (decide _)) rfl rfl rfl) rfl rfl ?_
    refine aA (bN true (.bool (decide _)) rfl rfl) rfl rfl ?_
    refine aA (aD (.bool (decide _)) rfl) rfl rfl ?_
    refine cY 16 rfl (fun g16 => ?_) (fun g16 => ?_)
    · refine aA (aD (.int _ _) rfl) rfl rfl ?_
      refine aA (wX rfl) rfl rfl ?_
      refine aM 18 (.int .i32 (-l)) (iE hneg) ?_
      refine aA (aH 1 dC rfl) rfl rfl ?_
      refine aA (aQ 0 (.int _ _) aX M1 rfl rfl rfl) rfl rfl ?_
      refine aA (aP (.bool (decide _)) rfl rfl rfl) rfl rfl ?_
      refine aA (bN true (.bool (decide _)) rfl rfl) rfl rfl ?_
      refine aA (aD (.bool (decide _)) rfl) rfl rfl ?_
      refine cY 23 rfl (fun g23 => ?_) (fun g23 => ?_)
      · refine aA (aH 1 dC rfl) rfl rfl ?_
        refine aA (aQ 0 (.int _ _) aX M1 rfl rfl rfl) rfl rfl ?_
        refine aA (aD (.int _ _) rfl) rfl rfl ?_
        refine aA (aP (.bool (decide _)) rfl rfl rfl) rfl rfl ?_
        refine aA (bN true (.bool (decide _)) rfl rfl) rfl rfl ?_
        refine aA (aE (.bool (decide _)) rfl) rfl rfl ?_
        refine aC (aF (aR ?_))
        refine bY (.bool (decide _)) rfl ?_
        exact ⟨by first | exact bF (by omega) | exact bT (by omega) | exact bD (by omega), M1.below⟩
      · refine aS rfl rfl ?_
        refine aS rfl rfl ?_
        refine aS rfl rfl ?_
        refine aS rfl rfl ?_
        refine aA (bN false (.bool false) rfl rfl) rfl rfl ?_
        refine aA (aE (.bool false) rfl) rfl rfl ?_
        refine aC (aF (aR ?_))
        refine bY (.bool false) rfl ?_
        exact ⟨by first | exact bF (by omega) | exact bT (by omega) | exact bD (by omega), M1.below⟩
    · refine aS rfl rfl ?_
      refine aS rfl rfl ?_
      refine aS rfl rfl ?_
      refine aS rfl rfl ?_
      refine aS rfl rfl ?_
      refine aA (bN false (.bool false) rfl rfl) rfl rfl ?_
      refine aA (aD (.bool false) rfl) rfl rfl ?_
      refine aS rfl rfl ?_
      refine aS rfl rfl ?_
      refine aS rfl rfl ?_
      refine aS rfl rfl ?_
      refine aA (bN false (.bool false) rfl rfl) rfl rfl ?_
      refine aA (aE (.bool false) rfl) rfl rfl ?_
      refine aC (aF (aR ?_))
      refine bY (.bool false) rfl ?_
      exact ⟨by first | exact bF (by omega) | exact bT (by omega) | exact bD (by omega), M1.below⟩
  · refine aS rfl rfl ?_
    refine aS rfl rfl ?_
    refine aS rfl rfl ?_
    refine aS rfl rfl ?_
    refine aA (bN false (.bool false) rfl rfl) rfl rfl ?_
    refine aA (aD (.bool false) rfl) rfl rfl ?_
    refine aS rfl rfl ?_
    refine aS rfl rfl ?_
    refine aS rfl rfl ?_
    refine aS rfl rfl ?_
    refine aS rfl rfl ?_
    refine aA (bN false (.bool false) rfl rfl) rfl rfl ?_
    refine aA (aD (.bool false) rfl) rfl rfl ?_
    refine aS rfl rfl ?_
    refine aS rfl rfl ?_
    refine aS rfl rfl ?_
    refine aS rfl rfl ?_
    refine aA (bN false (.bool false) rfl rfl) rfl rfl ?_
    refine aA (aE (.bool false) rfl) rfl rfl ?_
    refine aC (aF (aR ?_))
    refine bY (.bool false) rfl ?_
    exact ⟨by first | exact bF (by omega) | exact bT (by omega) | exact bD (by omega), M1.below⟩
set_option maxHeartbeats 4000000 in
theorem aEm (w : World) (b : Body) (p : Nat) (R : Rd w 10 (some ⟨p, 0, none⟩) 1 [aI b]) :
    Calls Tryz.prog 122 #[.pointer (some ⟨p, 0, none⟩)] w (fun ex w' => ∃ v, ex = .returned v ∧ (fun v w' => v = .bool (decide (4096 ≤ b.radius ∧ b.radius ≤ 4194304)) ∧ Below w.heap.size w w') v w') := by
  rw [← eK p]
  refine aJ #[.tmp 1] 10 Tryz.func122 rfl Tryz.results122 Tryz.ntmps122 rfl ?_
  have M0 := Mem.refl w
  refine aG (aB ?_)
  refine aA (aE (.bool false) rfl) rfl rfl ?_
  refine aC (aF (aG (aB ?_)))
  refine aA (bP 1 jM R (Nat.lt_of_le_of_lt (Nat.zero_le _) (R.below_len (show [aI b][0]? = some (aI b) from rfl))) rfl) rfl rfl ?_
  refine aA (eH (o := 1) (.int _ _) aX R (show [aI b][0]? = some (aI b) from rfl) rfl rfl) rfl rfl ?_
  refine aA (aP (.bool (decide _)) rfl rfl rfl) rfl rfl ?_
  refine aA (aD (.bool (decide _)) rfl) rfl rfl ?_
  refine cY 5 rfl (fun g5 => ?_) (fun g5 => ?_)
  · refine aA (bP 1 jM R (Nat.lt_of_le_of_lt (Nat.zero_le _) (R.below_len (show [aI b][0]? = some (aI b) from rfl))) rfl) rfl rfl ?_
    refine aA (eH (o := 1) (.int _ _) aX R (show [aI b][0]? = some (aI b) from rfl) rfl rfl) rfl rfl ?_
    refine aA (aP (.bool (decide _)) rfl rfl rfl) rfl rfl ?_
    refine aA (bN true (.bool (decide _)) rfl rfl) rfl rfl ?_
    refine aA (aE (.bool (decide _)) rfl) rfl rfl ?_
    refine aC (aF (aR ?_))
    refine bY (.bool (decide _)) rfl ?_
    exact ⟨by first | exact bF (by omega) | exact bT (by omega) | exact bD (by omega), M0.below⟩
  · refine aS rfl rfl ?_
    refine aS rfl rfl ?_
    refine aS rfl rfl ?_
    refine aA (bN false (.bool false) rfl rfl) rfl rfl ?_
    refine aA (aE (.bool false) rfl) rfl rfl ?_
    refine aC (aF (aR ?_))
    refine bY (.bool false) rfl ?_
    exact ⟨by first | exact bF (by omega) | exact bT (by omega) | exact bD (by omega), M0.below⟩
set_option maxHeartbeats 4000000 in
theorem aFa (w : World) (b : Body) (p : Nat) (R : Rd w 10 (some ⟨p, 0, none⟩) 1 [aI b]) :
    Calls Tryz.prog 123 #[.pointer (some ⟨p, 0, none⟩)] w (fun ex w' => ∃ v, ex = .returned v ∧ (fun v w' => v = .bool (decide (-4194304 ≤ b.ax ∧ b.ax ≤ 4194304 ∧ -4194304 ≤ b.ay ∧ b.ay ≤ 4194304)) ∧ Below w.heap.size w w') v w') := by
  rw [← eK p]
  refine aJ #[.tmp 1] 5 Tryz.func123 rfl Tryz.results123 Tryz.ntmps123 rfl ?_
  have M0 := Mem.refl w
  refine aG (aB ?_)
  refine aA (aE (.bool false) rfl) rfl rfl ?_
  refine aC (aF (aG (aB ?_)))
  refine aA (bP 2 iU R (Nat.lt_of_le_of_lt (Nat.zero_le _) (R.below_len (show [aI b][0]? = some (aI b) from rfl))) rfl) rfl rfl ?_
  refine aA (vR (o := 2) _ bJ R (show [aI b][0]? = some (aI b) from rfl) rfl rfl rfl) rfl rfl ?_
  refine aK aHq rfl rfl rfl ?_
  refine (oT _ _ _ _ (by omega) (by omega)).mono ?_
  rintro _ w1 ⟨v1, rfl, ⟨rfl, hb1⟩⟩
  refine ⟨_, rfl, ?_⟩
  have M1 := M0.callB hb1
  refine aA (aE (.bool (decide _)) rfl) rfl rfl ?_
  refine aC (aF (aR ?_))
  refine bY (.bool (decide _)) rfl ?_
  exact ⟨by first | exact bF (by omega) | exact bT (by omega) | exact bD (by omega), M1.below⟩
set_option maxHeartbeats 4000000 in
theorem aDu (w : World) (b : Body) (p : Nat) (R : Rd w 10 (some ⟨p, 0, none⟩) 1 [aI b]) :
    Calls Tryz.prog 125 #[.pointer (some ⟨p, 0, none⟩)] w (fun ex w' => ∃ v, ex = .returned v ∧ (fun v w' => v = .bool (decide (0 ≤ b.mass ∧ b.mass ≤ 1048576)) ∧ Below w.heap.size w w') v w') := by
  rw [← eK p]
  refine aJ #[.tmp 1] 10 Tryz.func125 rfl Tryz.results125 Tryz.ntmps125 rfl ?_
  have M0 := Mem.refl w
  refine aG (aB ?_)
  refine aA (aE (.bool false) rfl) rfl rfl ?_
  refine aC (aF (aG (aB ?_)))
  refine aA (bP 4 eM R (Nat.lt_of_le_of_lt (Nat.zero_le _) (R.below_len (show [aI b][0]? = some (aI b) from rfl))) rfl) rfl rfl ?_
  refine aA (eH (o := 4) (.int _ _) aX R (show [aI b][0]? = some (aI b) from rfl) rfl rfl) rfl rfl ?_
  refine aA (aP (.bool (decide _)) rfl rfl rfl) rfl rfl ?_
  refine aA (aD (.bool (decide _)) rfl) rfl rfl ?_
  refine cY 5 rfl (fun g5 => ?_) (fun g5 => ?_)
  · refine aA (bP 4 eM R (Nat.lt_of_le_of_lt (Nat.zero_le _) (R.below_len (show [aI b][0]? = some (aI b) from rfl))) rfl) rfl rfl ?_
    refine aA (eH (o := 4) (.int _ _) aX R (show [aI b][0]? = some (aI b) from rfl) rfl rfl) rfl rfl ?_
    refine aA (aP (.bool (decide _)) rfl rfl rfl) rfl rfl ?_
    refine aA (bN true (.bool (decide _)) rfl rfl) rfl rfl ?_
    refine aA (aE (.bool (decide _)) rfl) rfl rfl ?_
    refine aC (aF (aR ?_))
    refine bY (.bool (decide _)) rfl ?_
    exact ⟨by first | exact bF (by omega) | exact bT (by omega) | exact bD (by omega), M0.below⟩
  · refine aS rfl rfl ?_
    refine aS rfl rfl ?_
    refine aS rfl rfl ?_
    refine aA (bN false (.bool false) rfl rfl) rfl rfl ?_
    refine aA (aE (.bool false) rfl) rfl rfl ?_
    refine aC (aF (aR ?_))
    refine bY (.bool false) rfl ?_
    exact ⟨by first | exact bF (by omega) | exact bT (by omega) | exact bD (by omega), M0.below⟩
set_option maxHeartbeats 4000000 in
theorem aEw (w : World) (b : Body) (p : Nat) (R : Rd w 10 (some ⟨p, 0, none⟩) 1 [aI b]) :
    Calls Tryz.prog 126 #[.pointer (some ⟨p, 0, none⟩)] w (fun ex w' => ∃ v, ex = .returned v ∧ (fun v w' => v = .bool (decide (0 ≤ b.bounce ∧ b.bounce ≤ 65536)) ∧ Below w.heap.size w w') v w') := by
  rw [← eK p]
  refine aJ #[.tmp 1] 10 Tryz.func126 rfl Tryz.results126 Tryz.ntmps126 rfl ?_
  have M0 := Mem.refl w
  refine aG (aB ?_)
  refine aA (aE (.bool false) rfl) rfl rfl ?_
  refine aC (aF (aG (aB ?_)))
  refine aA (bP 5 nC R (Nat.lt_of_le_of_lt (Nat.zero_le _) (R.below_len (show [aI b][0]? = some (aI b) from rfl))) rfl) rfl rfl ?_
  refine aA (eH (o := 5) (.int _ _) aX R (show [aI b][0]? = some (aI b) from rfl) rfl rfl) rfl rfl ?_
  refine aA (aP (.bool (decide _)) rfl rfl rfl) rfl rfl ?_
  refine aA (aD (.bool (decide _)) rfl) rfl rfl ?_
  refine cY 5 rfl (fun g5 => ?_) (fun g5 => ?_)
  · refine aA (bP 5 nC R (Nat.lt_of_le_of_lt (Nat.zero_le _) (R.below_len (show [aI b][0]? = some (aI b) from rfl))) rfl) rfl rfl ?_
    refine aA (eH (o := 5) (.int _ _) aX R (show [aI b][0]? = some (aI b) from rfl) rfl rfl) rfl rfl ?_
    refine aA (aP (.bool (decide _)) rfl rfl rfl) rfl rfl ?_
    refine aA (bN true (.bool (decide _)) rfl rfl) rfl rfl ?_
    refine aA (aE (.bool (decide _)) rfl) rfl rfl ?_
    refine aC (aF (aR ?_))
    refine bY (.bool (decide _)) rfl ?_
    exact ⟨by first | exact bF (by omega) | exact bT (by omega) | exact bD (by omega), M0.below⟩
  · refine aS rfl rfl ?_
    refine aS rfl rfl ?_
    refine aS rfl rfl ?_
    refine aA (bN false (.bool false) rfl rfl) rfl rfl ?_
    refine aA (aE (.bool false) rfl) rfl rfl ?_
    refine aC (aF (aR ?_))
    refine bY (.bool false) rfl ?_
    exact ⟨by first | exact bF (by omega) | exact bT (by omega) | exact bD (by omega), M0.below⟩
set_option maxHeartbeats 4000000 in
theorem aGi (w : World) (b : Body) (p : Nat) (R : Rd w 10 (some ⟨p, 0, none⟩) 1 [aI b]) :
    Calls Tryz.prog 127 #[.pointer (some ⟨p, 0, none⟩)] w (fun ex w' => ∃ v, ex = .returned v ∧ (fun v w' => v = .bool (decide (-1073741824 ≤ b.px ∧ b.px ≤ 1073741824 ∧ -1073741824 ≤ b.py ∧ b.py ≤ 1073741824)) ∧ Below w.heap.size w w') v w') := by
  rw [← eK p]
  refine aJ #[.tmp 1] 5 Tryz.func127 rfl Tryz.results127 Tryz.ntmps127 rfl ?_
  have M0 := Mem.refl w
  refine aG (aB ?_)
  refine aA (aE (.bool false) rfl) rfl rfl ?_
  refine aC (aF (aG (aB ?_)))
  refine aA (bP 6 fG R (Nat.lt_of_le_of_lt (Nat.zero_le _) (R.below_len (show [aI b][0]? = some (aI b) from rfl))) rfl) rfl rfl ?_
  refine aA (vR (o := 6) _ bJ R (show [aI b][0]? = some (aI b) from rfl) rfl rfl rfl) rfl rfl ?_
  refine aK aHq rfl rfl rfl ?_
  refine (oT _ _ _ _ (by omega) (by omega)).mono ?_
  rintro _ w1 ⟨v1, rfl, ⟨rfl, hb1⟩⟩
  refine ⟨_, rfl, ?_⟩
  have M1 := M0.callB hb1
  refine aA (aE (.bool (decide _)) rfl) rfl rfl ?_
  refine aC (aF (aR ?_))
  refine bY (.bool (decide _)) rfl ?_
  exact ⟨by first | exact bF (by omega) | exact bT (by omega) | exact bD (by omega), M1.below⟩
set_option maxHeartbeats 4000000 in
theorem aEq (w : World) (b : Body) (p : Nat) (R : Rd w 10 (some ⟨p, 0, none⟩) 1 [aI b]) :
    Calls Tryz.prog 128 #[.pointer (some ⟨p, 0, none⟩)] w (fun ex w' => ∃ v, ex = .returned v ∧ (fun v w' => v = .bool (decide (-16777216 ≤ b.vx ∧ b.vx ≤ 16777216 ∧ -16777216 ≤ b.vy ∧ b.vy ≤ 16777216)) ∧ Below w.heap.size w w') v w') := by
  rw [← eK p]
  refine aJ #[.tmp 1] 5 Tryz.func128 rfl Tryz.results128 Tryz.ntmps128 rfl ?_
  have M0 := Mem.refl w
  refine aG (aB ?_)
  refine aA (aE (.bool false) rfl) rfl rfl ?_
  refine aC (aF (aG (aB ?_)))
  refine aA (bP 8 eN R (Nat.lt_of_le_of_lt (Nat.zero_le _) (R.below_len (show [aI b][0]? = some (aI b) from rfl))) rfl) rfl rfl ?_
  refine aA (vR (o := 8) _ bJ R (show [aI b][0]? = some (aI b) from rfl) rfl rfl rfl) rfl rfl ?_
  refine aK aHq rfl rfl rfl ?_
  refine (oT _ _ _ _ (by omega) (by omega)).mono ?_
  rintro _ w1 ⟨v1, rfl, ⟨rfl, hb1⟩⟩
  refine ⟨_, rfl, ?_⟩
  have M1 := M0.callB hb1
  refine aA (aE (.bool (decide _)) rfl) rfl rfl ?_
  refine aC (aF (aR ?_))
  refine bY (.bool (decide _)) rfl ?_
  exact ⟨by first | exact bF (by omega) | exact bT (by omega) | exact bD (by omega), M1.below⟩
set_option maxHeartbeats 4000000 in
theorem qK (w : World) (b : Body) :
    Calls Tryz.prog 98 #[(.agg (aI b).toArray)] w (fun ex w' => ∃ v, ex = .returned v ∧ (fun v w' => v = .int .i64 (check b) ∧ Below w.heap.size w w') v w') := by
  refine aJ #[.tmp 2] 28 Tryz.func98 rfl Tryz.results98 Tryz.ntmps98 rfl ?_
  have M0 := Mem.refl w
  refine aG (aB ?_)
  refine bL (.agg (List.toArray _)) M0 rfl rfl rfl (fun b1 w1 M1 => ?_)
  refine aA (aE (.int _ _) rfl) rfl rfl ?_
  refine aC (aF (aG (aG (aB ?_))))
  refine aA (cQ [] [.pointer _] rfl rfl) rfl rfl ?_
  refine aA (cN [(0, .func _ _ _), (1, .int _ _)] _ kL rfl rfl) rfl rfl ?_
  refine aA (cQ [] [.pointer _] rfl rfl) rfl rfl ?_
  refine aA (cN [(0, .func _ _ _), (1, .int _ _)] _ kL rfl rfl) rfl rfl ?_
  refine aA (cQ [] [.pointer _] rfl rfl) rfl rfl ?_
  refine aA (cN [(0, .func _ _ _), (1, .int _ _)] _ kL rfl rfl) rfl rfl ?_
  refine aA (cQ [] [.pointer _] rfl rfl) rfl rfl ?_
  refine aA (cN [(0, .func _ _ _), (1, .int _ _)] _ kL rfl rfl) rfl rfl ?_
  refine aA (cQ [] [.pointer _] rfl rfl) rfl rfl ?_
  refine aA (cN [(0, .func _ _ _), (1, .int _ _)] _ kL rfl rfl) rfl rfl ?_
  refine aA (cQ [] [.pointer _] rfl rfl) rfl rfl ?_
  refine aA (cN [(0, .func _ _ _), (1, .int _ _)] _ kL rfl rfl) rfl rfl ?_
  refine aA (oK [.agg (List.toArray _), .agg (List.toArray _), .agg (List.toArray _), .agg (List.toArray _), .agg (List.toArray _), .agg (List.toArray _)] qE aUf rfl rfl (cW rfl)) rfl rfl ?_
  refine aA (aD (.int _ _) rfl) rfl rfl ?_
  refine aC (aF (aV ?_))
  refine lA 7 (gJ ?_)
  refine aG (aB ?_)
  refine aA (aP (.bool (decide _)) rfl rfl rfl) rfl rfl ?_
  refine aM 19 (.bool true) (bT (by first | decide | omega)).symm ?_
  refine aC (aF (aG ?_))
  refine cK rfl ?_
  refine aN (aF (aG (aV (aG (aB ?_)))))
  refine aA (mA 0 _ qE kG rfl rfl (by decide) (by decide) rfl rfl) rfl rfl ?_
  refine aW pL M1 rfl rfl (fun b2 w2 M2 => ?_)
  refine bH 1 _ kG M2 rfl rfl rfl rfl rfl (aY rfl) rfl (fun w3 M3 => ?_)
  refine aC (aF (aG (aB ?_)))
  refine aA (aH 0 mP rfl) rfl rfl ?_
  refine aA (aQ 1 (.func _ _ _) aAo M3 rfl rfl rfl) rfl rfl ?_
  refine aK bBv rfl rfl rfl ?_
  refine (aEm _ b _ (lL 0 M3 rfl rfl)).mono ?_
  rintro _ w4 ⟨v4, rfl, ⟨rfl, hb4⟩⟩
  refine ⟨_, rfl, ?_⟩
  have M4 := M3.callB hb4
  refine aA (lC rfl) rfl rfl ?_
  refine aC (aF ?_)
  refine aZ rfl (fun h24 => ?_) (fun h24 => ?_)
  · refine aG (aB ?_)
    refine aA (aH 1 mN rfl) rfl rfl ?_
    refine aA (aQ 1 (.int _ _) zZ M4 rfl rfl rfl) rfl rfl ?_
    refine aA (aE (.int _ _) rfl) rfl rfl ?_
    refine aC (aF (aR ?_))
    refine jW ?_
    refine cC (cC ?_)
    refine jW ?_
    refine cC ?_
    refine bY (.int _ _) rfl ?_
    exact ⟨iE (aKa b (by omega)).symm, M4.below⟩
  · refine aN ?_
    refine dB ?_
    refine aF (aB ?_)
    refine aA (bM rfl rfl (by first | decide | omega) (by first | decide | omega)) rfl rfl ?_
    refine aM 27 (.int .i64 1) (iE (by first | decide | omega)) ?_
    refine aA (aD (.int _ _) rfl) rfl rfl ?_
    refine aC ?_
    refine aF (gJ ?_)
    refine aG (aB ?_)
    refine aA (aP (.bool (decide _)) rfl rfl rfl) rfl rfl ?_
    refine aM 19 (.bool true) (bT (by first | decide | omega)).symm ?_
    refine aC (aF (aG ?_))
    refine cK rfl ?_
    refine aN (aF (aG (aV (aG (aB ?_)))))
    refine aA (mA 1 _ qE kG rfl rfl (by decide) (by decide) rfl rfl) rfl rfl ?_
    refine aW pL M4 rfl rfl (fun b5 w5 M5 => ?_)
    refine bH 2 _ kG M5 rfl rfl rfl rfl rfl (aY rfl) rfl (fun w6 M6 => ?_)
    refine aC (aF (aG (aB ?_)))
    refine aA (aH 0 mP rfl) rfl rfl ?_
    refine aA (aQ 2 (.func _ _ _) aAo M6 rfl rfl rfl) rfl rfl ?_
    refine aK aZd rfl rfl rfl ?_
    refine (aFa _ b _ (lL 0 M6 rfl rfl)).mono ?_
    rintro _ w7 ⟨v7, rfl, ⟨rfl, hb7⟩⟩
    refine ⟨_, rfl, ?_⟩
    have M7 := M6.callB hb7
    refine aA (lC rfl) rfl rfl ?_
    refine aC (aF ?_)
    refine aZ rfl (fun h24 => ?_) (fun h24 => ?_)
    · refine aG (aB ?_)
      refine aA (aH 1 mN rfl) rfl rfl ?_
      refine aA (aQ 2 (.int _ _) zZ M7 rfl rfl rfl) rfl rfl ?_
      refine aA (aE (.int _ _) rfl) rfl rfl ?_
      refine aC (aF (aR ?_))
      refine jW ?_
      refine cC (cC ?_)
      refine jW ?_
      refine cC ?_
      refine bY (.int _ _) rfl ?_
      exact ⟨iE (aKf b (by omega) (by omega)).symm, M7.below⟩
    · refine aN ?_
      refine dB ?_
      refine aF (aB ?_)
      refine aA (bM rfl rfl (by first | decide | omega) (by first | decide | omega)) rfl rfl ?_
      refine aM 27 (.int .i64 2) (iE (by first | decide | omega)) ?_
      refine aA (aD (.int _ _) rfl) rfl rfl ?_
      refine aC ?_
      refine aF (gJ ?_)
      refine aG (aB ?_)
      refine aA (aP (.bool (decide _)) rfl rfl rfl) rfl rfl ?_
      refine aM 19 (.bool true) (bT (by first | decide | omega)).symm ?_
      refine aC (aF (aG ?_))
      refine cK rfl ?_
      refine aN (aF (aG (aV (aG (aB ?_)))))
      refine aA (mA 2 _ qE kG rfl rfl (by decide) (by decide) rfl rfl) rfl rfl ?_
      refine aW pL M7 rfl rfl (fun b8 w8 M8 => ?_)
      refine bH 3 _ kG M8 rfl rfl rfl rfl rfl (aY rfl) rfl (fun w9 M9 => ?_)
      refine aC (aF (aG (aB ?_)))
      refine aA (aH 0 mP rfl) rfl rfl ?_
      refine aA (aQ 3 (.func _ _ _) aAo M9 rfl rfl rfl) rfl rfl ?_
      refine aK bAj rfl rfl rfl ?_
      refine (aDu _ b _ (lL 0 M9 rfl rfl)).mono ?_
      rintro _ w10 ⟨v10, rfl, ⟨rfl, hb10⟩⟩
      refine ⟨_, rfl, ?_⟩
      have M10 := M9.callB hb10
      refine aA (lC rfl) rfl rfl ?_
      refine aC (aF ?_)
      refine aZ rfl (fun h24 => ?_) (fun h24 => ?_)
      · refine aG (aB ?_)
        refine aA (aH 1 mN rfl) rfl rfl ?_
        refine aA (aQ 3 (.int _ _) zZ M10 rfl rfl rfl) rfl rfl ?_
        refine aA (aE (.int _ _) rfl) rfl rfl ?_
        refine aC (aF (aR ?_))
        refine jW ?_
        refine cC (cC ?_)
        refine jW ?_
        refine cC ?_
        refine bY (.int _ _) rfl ?_
        exact ⟨iE (aKh b (by omega) (by omega) (by omega)).symm, M10.below⟩
      · refine aN ?_
        refine dB ?_
        refine aF (aB ?_)
        refine aA (bM rfl rfl (by first | decide | omega) (by first | decide | omega)) rfl rfl ?_
        refine aM 27 (.int .i64 3) (iE (by first | decide | omega)) ?_
        refine aA (aD (.int _ _) rfl) rfl rfl ?_
        refine aC ?_
        refine aF (gJ ?_)
        refine aG (aB ?_)
        refine aA (aP (.bool (decide _)) rfl rfl rfl) rfl rfl ?_
        refine aM 19 (.bool true) (bT (by first | decide | omega)).symm ?_
        refine aC (aF (aG ?_))
        refine cK rfl ?_
        refine aN (aF (aG (aV (aG (aB ?_)))))
        refine aA (mA 3 _ qE kG rfl rfl (by decide) (by decide) rfl rfl) rfl rfl ?_
        refine aW pL M10 rfl rfl (fun b11 w11 M11 => ?_)
        refine bH 4 _ kG M11 rfl rfl rfl rfl rfl (aY rfl) rfl (fun w12 M12 => ?_)
        refine aC (aF (aG (aB ?_)))
        refine aA (aH 0 mP rfl) rfl rfl ?_
        refine aA (aQ 4 (.func _ _ _) aAo M12 rfl rfl rfl) rfl rfl ?_
        refine aK bBy rfl rfl rfl ?_
        refine (aEw _ b _ (lL 0 M12 rfl rfl)).mono ?_
        rintro _ w13 ⟨v13, rfl, ⟨rfl, hb13⟩⟩
        refine ⟨_, rfl, ?_⟩
        have M13 := M12.callB hb13
        refine aA (lC rfl) rfl rfl ?_
        refine aC (aF ?_)
        refine aZ rfl (fun h24 => ?_) (fun h24 => ?_)
        · refine aG (aB ?_)
          refine aA (aH 1 mN rfl) rfl rfl ?_
          refine aA (aQ 4 (.int _ _) zZ M13 rfl rfl rfl) rfl rfl ?_
          refine aA (aE (.int _ _) rfl) rfl rfl ?_
          refine aC (aF (aR ?_))
          refine jW ?_
          refine cC (cC ?_)
          refine jW ?_
          refine cC ?_
          refine bY (.int _ _) rfl ?_
          exact ⟨iE (aKq b (by omega) (by omega) (by omega) (by omega)).symm, M13.below⟩
        · refine aN ?_
          refine dB ?_
          refine aF (aB ?_)
          refine aA (bM rfl rfl (by first | decide | omega) (by first | decide | omega)) rfl rfl ?_
          refine aM 27 (.int .i64 4) (iE (by first | decide | omega)) ?_
          refine aA (aD (.int _ _) rfl) rfl rfl ?_
          refine aC ?_
          refine aF (gJ ?_)
          refine aG (aB ?_)
          refine aA (aP (.bool (decide _)) rfl rfl rfl) rfl rfl ?_
          refine aM 19 (.bool true) (bT (by first | decide | omega)).symm ?_
          refine aC (aF (aG ?_))
          refine cK rfl ?_
          refine aN (aF (aG (aV (aG (aB ?_)))))
          refine aA (mA 4 _ qE kG rfl rfl (by decide) (by decide) rfl rfl) rfl rfl ?_
          refine aW pL M13 rfl rfl (fun b14 w14 M14 => ?_)
          refine bH 5 _ kG M14 rfl rfl rfl rfl rfl (aY rfl) rfl (fun w15 M15 => ?_)
          refine aC (aF (aG (aB ?_)))
          refine aA (aH 0 mP rfl) rfl rfl ?_
          refine aA (aQ 5 (.func _ _ _) aAo M15 rfl rfl rfl) rfl rfl ?_
          refine aK bBd rfl rfl rfl ?_
          refine (aGi _ b _ (lL 0 M15 rfl rfl)).mono ?_
          rintro _ w16 ⟨v16, rfl, ⟨rfl, hb16⟩⟩
          refine ⟨_, rfl, ?_⟩
          have M16 := M15.callB hb16
          refine aA (lC rfl) rfl rfl ?_
          refine aC (aF ?_)
          refine aZ rfl (fun h24 => ?_) (fun h24 => ?_)
          · refine aG (aB ?_)
            refine aA (aH 1 mN rfl) rfl rfl ?_
            refine aA (aQ 5 (.int _ _) zZ M16 rfl rfl rfl) rfl rfl ?_
            refine aA (aE (.int _ _) rfl) rfl rfl ?_
            refine aC (aF (aR ?_))
            refine jW ?_
            refine cC (cC ?_)
            refine jW ?_
            refine cC ?_
            refine bY (.int _ _) rfl ?_
            exact ⟨iE (aKw b (by omega) (by omega) (by omega) (by omega) (by omega)).symm, M16.below⟩
          · refine aN ?_
            refine dB ?_
            refine aF (aB ?_)
            refine aA (bM rfl rfl (by first | decide | omega) (by first | decide | omega)) rfl rfl ?_
            refine aM 27 (.int .i64 5) (iE (by first | decide | omega)) ?_
            refine aA (aD (.int _ _) rfl) rfl rfl ?_
            refine aC ?_
            refine aF (gJ ?_)
            refine aG (aB ?_)
            refine aA (aP (.bool (decide _)) rfl rfl rfl) rfl rfl ?_
            refine aM 19 (.bool true) (bT (by first | decide | omega)).symm ?_
            refine aC (aF (aG ?_))
            refine cK rfl ?_
            refine aN (aF (aG (aV (aG (aB ?_)))))
            refine aA (mA 5 _ qE kG rfl rfl (by decide) (by decide) rfl rfl) rfl rfl ?_
            refine aW pL M16 rfl rfl (fun b17 w17 M17 => ?_)
            refine bH 6 _ kG M17 rfl rfl rfl rfl rfl (aY rfl) rfl (fun w18 M18 => ?_)
            refine aC (aF (aG (aB ?_)))
            refine aA (aH 0 mP rfl) rfl rfl ?_
            refine aA (aQ 6 (.func _ _ _) aAo M18 rfl rfl rfl) rfl rfl ?_
            refine aK bAl rfl rfl rfl ?_
            refine (aEq _ b _ (lL 0 M18 rfl rfl)).mono ?_
            rintro _ w19 ⟨v19, rfl, ⟨rfl, hb19⟩⟩
            refine ⟨_, rfl, ?_⟩
            have M19 := M18.callB hb19
            refine aA (lC rfl) rfl rfl ?_
            refine aC (aF ?_)
            refine aZ rfl (fun h24 => ?_) (fun h24 => ?_)
            · refine aG (aB ?_)
              refine aA (aH 1 mN rfl) rfl rfl ?_
              refine aA (aQ 6 (.int _ _) zZ M19 rfl rfl rfl) rfl rfl ?_
              refine aA (aE (.int _ _) rfl) rfl rfl ?_
              refine aC (aF (aR ?_))
              refine jW ?_
              refine cC (cC ?_)
              refine jW ?_
              refine cC ?_
              refine bY (.int _ _) rfl ?_
              exact ⟨iE (aKc b (by omega) (by omega) (by omega) (by omega) (by omega) (by omega)).symm, M19.below⟩
            · refine aN ?_
              refine dB ?_
              refine aF (aB ?_)
              refine aA (bM rfl rfl (by first | decide | omega) (by first | decide | omega)) rfl rfl ?_
              refine aM 27 (.int .i64 6) (iE (by first | decide | omega)) ?_
              refine aA (aD (.int _ _) rfl) rfl rfl ?_
              refine aC ?_
              refine aF (gJ ?_)
              refine aG (aB ?_)
              refine aA (aP (.bool (decide _)) rfl rfl rfl) rfl rfl ?_
              refine aM 19 (.bool false) (bF (by first | decide | omega)).symm ?_
              refine aC (aF (aG ?_))
              refine cH rfl ?_
              refine cP ?_
              refine dA (dA ?_)
              refine eQ ?_
              refine aF (aG (aB ?_))
              refine aA (aE (.int _ _) rfl) rfl rfl ?_
              refine aC (aF (aR ?_))
              refine bY (.int _ _) rfl ?_
              exact ⟨iE (aWu b (by omega) (by omega) (by omega) (by omega) (by omega) (by omega)).symm, M19.below⟩
end Go.Proofs.YtlmcphcgiclanaaGreatDoor

namespace Go.Proofs.YtlmcphcgiclanaaGreatDoor
open Go.Bil
open Go.RowKit (Below)
open Go.Proofs
set_option maxHeartbeats 4000000 in
theorem tV (w : World) (x : Int) :
    Calls Tryz.prog 121 #[.int .u32 x] w (fun ex w' => ∃ v, ex = .returned v ∧ (fun v w' => v = .bool false ∧ w' = w) v w') := by
  refine aJ #[.tmp 2] 6 Tryz.func121 rfl Tryz.results121 Tryz.ntmps121 rfl ?_
  have M0 := Mem.refl w
  refine aG (aB ?_)
  refine aA (aE (.bool false) rfl) rfl rfl ?_
  refine aC (aF (aG (aB ?_)))
  refine aA (aD (.int _ _) rfl) rfl rfl ?_
  refine aA (aD (.int _ _) rfl) rfl rfl ?_
  refine aA (aP (.bool (decide _)) rfl rfl rfl) rfl rfl ?_
  refine aA (aE (.bool (decide _)) rfl) rfl rfl ?_
  refine aC (aF (aR ?_))
  refine bY (.bool (decide _)) rfl ?_
  exact ⟨(bF (by omega)).symm, rfl⟩
set_option maxHeartbeats 4000000 in
theorem jQ (w : World) (x y : Int) :
    Calls Tryz.prog 97 #[.int .u32 x, .int .u32 y] w (fun ex w' => ∃ v, ex = .returned v ∧ (fun v w' => v = .int .i64 (kW x y) ∧ w' = w) v w') := by
  refine aJ #[.tmp 4] 20 Tryz.func97 rfl Tryz.results97 Tryz.ntmps97 rfl ?_
  have M0 := Mem.refl w
  refine aG (aB ?_)
  refine aA (aE (.int _ _) rfl) rfl rfl ?_
  refine aC (aF (aG (aB ?_)))
  refine aA (aD (.int _ _) rfl) rfl rfl ?_
  refine aK aPe rfl rfl rfl ?_
  refine (tV _ _).mono ?_
  rintro _ w1 ⟨v1, rfl, ⟨rfl, rfl⟩⟩
  refine ⟨_, rfl, ?_⟩
  have M1 : Mem _ _ [] _ := M0
  refine aA (aE (.bool false) rfl) rfl rfl ?_
  refine aC (aF (aG (aB ?_)))
  refine aA (aD (.int _ _) rfl) rfl rfl ?_
  refine aK aPe rfl rfl rfl ?_
  refine (tV _ _).mono ?_
  rintro _ w2 ⟨v2, rfl, ⟨rfl, rfl⟩⟩
  refine ⟨_, rfl, ?_⟩
  have M2 : Mem _ _ [] _ := M1
  refine aA (aE (.bool false) rfl) rfl rfl ?_
  refine aC (aF (aG (aG (aB ?_))))
  refine aA (aD (.bool false) rfl) rfl rfl ?_
  refine aC (aF ?_)
  refine cH rfl ?_
  refine aN (aF (aG (aG (aB ?_))))
  refine aA (aD (.bool false) rfl) rfl rfl ?_
  refine aC (aF ?_)
  refine cH rfl ?_
  refine aN (aF (aG (aG (aB ?_))))
  refine aA (aD (.int _ _) rfl) rfl rfl ?_
  refine aA (aD (.int _ _) rfl) rfl rfl ?_
  refine aA (aP (.bool (decide _)) rfl rfl rfl) rfl rfl ?_
  refine aC (aF ?_)
  refine aZ rfl (fun h16 => ?_) (fun h16 => ?_)
  · refine aG (aB ?_)
    refine aA (aE (.int _ _) rfl) rfl rfl ?_
    refine aC (aF (aR (cC ?_)))
    refine bY (.int _ _) rfl ?_
    exact ⟨iE (by unfold kW; (repeat' split) <;> omega), rfl⟩
  · refine aN (aF (aG (aG (aB ?_))))
    refine aA (aD (.int _ _) rfl) rfl rfl ?_
    refine aA (aD (.int _ _) rfl) rfl rfl ?_
    refine aA (aP (.bool (decide _)) rfl rfl rfl) rfl rfl ?_
    refine aC (aF ?_)
    refine aZ rfl (fun h19 => ?_) (fun h19 => ?_)
    · refine aG (aB ?_)
      refine aA (aE (.int _ _) rfl) rfl rfl ?_
      refine aC (aF (aR (cC ?_)))
      refine bY (.int _ _) rfl ?_
      exact ⟨iE (by unfold kW; (repeat' split) <;> omega), rfl⟩
    · refine aN (aF (aG (aB ?_)))
      refine aA (aE (.int _ _) rfl) rfl rfl ?_
      refine aC (aF (aR ?_))
      refine bY (.int _ _) rfl ?_
      exact ⟨iE (by unfold kW; (repeat' split) <;> omega), rfl⟩
set_option maxHeartbeats 4000000 in
theorem zE (a b : Body) (w : World) :
    Calls Tryz.prog 96 #[(.agg (aI a).toArray), (.agg (aI b).toArray)] w (fun ex w' => ∃ v, ex = .returned v ∧ (fun v w' => v = .int .i64 (kW a.key b.key) ∧ ∃ q os, w' = Go.Sort.grow (w.drewN q) os) v w') := by
  refine aJ #[.tmp 4] 10 Tryz.func96 rfl Tryz.results96 Tryz.ntmps96 rfl ?_
  have M0 := Mem.refl w
  refine aG (aB ?_)
  refine uZ (.agg (List.toArray _)) M0 rfl rfl rfl (fun M1 => ?_)
  refine uZ (.agg (List.toArray _)) M1 rfl rfl rfl (fun M2 => ?_)
  refine aA (aE (.int _ _) rfl) rfl rfl ?_
  refine aC (aF (aG (aB ?_)))
  refine aA (aH 0 dJ rfl) rfl rfl ?_
  refine aA (aQ 0 (.int _ _) bR M2 rfl rfl rfl) rfl rfl ?_
  refine aA (aH 0 dJ rfl) rfl rfl ?_
  refine aA (aQ 1 (.int _ _) bR M2 rfl rfl rfl) rfl rfl ?_
  refine aK aKt rfl rfl rfl ?_
  refine (jQ _ _ _).mono ?_
  rintro _ w3 ⟨v3, rfl, ⟨rfl, rfl⟩⟩
  refine ⟨_, rfl, ?_⟩
  have M3 : Mem _ _ [_, _] _ := M2
  refine aA (aE (.int _ _) rfl) rfl rfl ?_
  refine aC (aF (aR ?_))
  refine bY (.int _ _) rfl ?_
  exact ⟨rfl, bCg _ _ _⟩
set_option maxHeartbeats 4000000 in
theorem yS (w : World) (A : Option Addr) (n c : Nat) (ls : List (List Value)) (R : Rd w 10 A n ls) (h1 : ∀ y ∈ ls, ∀ u ∈ y, one u = true) (hn : n ≤ 1048576) :
    Calls Tryz.prog 49 #[.slice A n c] w (fun ex w' => ∃ v, ex = .returned v ∧ (fun v w' => ∃ A' n' c' e, v = .slice A' n' c' ∧ bA 40 10 A' n' c' ls e ∧ Mem w [] [e] w' ∧ A'.isSome = A.isSome) v w') := by
  refine aJ #[.tmp 2] 8 Tryz.func49 rfl Tryz.results49 Tryz.ntmps49 rfl ?_
  have M0 := Mem.refl w
  refine aG (aB ?_)
  refine aA (aE (.slice _ _ _) rfl) rfl rfl ?_
  refine aC (aF (aG (aG (aB ?_))))
  refine aA (aD (.slice _ _ _) rfl) rfl rfl ?_
  refine aA (aDb _ Tryz.underlying22 rfl rfl) rfl rfl ?_
  refine aC (aF ?_)
  refine gK _ rfl (fun h4 => ?_) (fun h4 => ?_)
  · refine aG (aB ?_)
    refine aA (aE (.slice _ _ _) rfl) rfl rfl ?_
    refine aC (aF (aR (cC ?_)))
    refine bY (.slice _ _ _) rfl ?_
    have hA : A = none := by cases A <;> simp_all
    have hl : ls = [] := by
      rcases Nat.eq_zero_or_pos n with h | h
      · subst h; exact List.eq_nil_of_length_eq_zero R.len
      · have := R.some h; rw [hA] at this; cases this
    subst hA; subst hl
    exact ⟨_, _, _, _, rfl, bA.nil 40 10 default, M0.dummy default, rfl⟩
  · refine aN (aF (aG (aB ?_)))
    refine cR [] [] rfl dO M0 rfl rfl rfl rfl (cW rfl) (by decide) (fun b1 w1 M1 => ?_)
    refine aA (aD (.slice _ _ _) rfl) rfl rfl ?_
    refine aGu 0 ls dO M1 rfl rfl rfl rfl rfl (bA.empty b1) (R.mem M1) h1 (by omega) (fun A2 c2 e2 w2 M2 hR2 hA2 => ?_)
    have hAA := hA2
    refine aA (aE (.slice _ _ _) rfl) rfl rfl ?_
    refine aC (aF (aR ?_))
    refine bY (.slice _ _ _) rfl ?_
    refine ⟨_, _, _, _, rfl, by simpa using hR2, M2, ?_⟩
    rw [hAA rfl]; cases A <;> simp_all
end Go.Proofs.YtlmcphcgiclanaaGreatDoor

namespace Go.Proofs.YtlmcphcgiclanaaGreatDoor
open Go.Bil
open Go.RowKit (Below)
open Go.Proofs
end Go.Proofs.YtlmcphcgiclanaaGreatDoor
