/- Part of the proof of the laws of this seat: Ty, T26, T25, T20, T20r, T20l, R5, R6, Bd, Lib, St. No conditions. -/
import Derived.Test.YtlmcphcgiclanaaGreatDoorProg
import Derived.Test.YtlmcphcgiclanaaGreatDoorK2
import Derived.Test.YtlmcphcgiclanaaGreatDoorK3
import Derived.Test.YtlmcphcgiclanaaGreatDoorK4
import Derived.KernelRfl
set_option linter.unusedVariables false
set_option linter.unusedSimpArgs false
set_option linter.unnecessarySimpa false
namespace Go.Proofs.YtlmcphcgiclanaaGreatDoor
open Go.Bil
open Go.Proofs
theorem cO : jE Tryz.prog 36 = true := by kernel_rfl
theorem aW : jE Tryz.prog 21 = true := by kernel_rfl
theorem aJo : ∀ (d : Nat) (w : World) (x0 x1 y0 y1 : Int), (Op.equalIn (d + 2) 38 (.agg [.int .i32 x0, .int .i32 x1].toArray) (.agg [.int .i32 y0, .int .i32 y1].toArray)).run Tryz.prog w = .ok (decide (x0 = y0 ∧ x1 = y1)) w := fun d w x0 x1 y0 y1 => by
    have h := pK (P := Tryz.prog) (T := 38) (dd := d + 1) (xs := [.int .i32 x0, .int .i32 x1]) (ys := [.int .i32 y0, .int .i32 y1]) (w := w) Tryz.underlying38 (by kernel_rfl) (fV rfl (gW aW rfl) (gW aW rfl) (mO (dd := d + 0) Tryz.underlying21) (fV rfl (gW aW rfl) (gW aW rfl) (mO (dd := d + 0) Tryz.underlying21) (vN)))
    refine h.trans (congrArg (fun r => Result.ok r w) ?_)
    simp only [Bool.decide_and, Bool.and_true, Bool.and_assoc]
theorem bE : iS Tryz.prog 38 = some 2 := by kernel_rfl
theorem bCd : ∀ (d : Nat) (w : World) (x0 x1 x2 x3 x4 x5 x6 x7 x8 x9 y0 y1 y2 y3 y4 y5 y6 y7 y8 y9 : Int), (Op.equalIn (d + 3) 40 (.agg [.int .u32 x0, .int .i32 x1, .int .i32 x2, .int .i32 x3, .int .i32 x4, .int .i32 x5, .int .i32 x6, .int .i32 x7, .int .i32 x8, .int .i32 x9].toArray) (.agg [.int .u32 y0, .int .i32 y1, .int .i32 y2, .int .i32 y3, .int .i32 y4, .int .i32 y5, .int .i32 y6, .int .i32 y7, .int .i32 y8, .int .i32 y9].toArray)).run Tryz.prog w = .ok (decide (x0 = y0 ∧ x1 = y1 ∧ x2 = y2 ∧ x3 = y3 ∧ x4 = y4 ∧ x5 = y5 ∧ x6 = y6 ∧ x7 = y7 ∧ x8 = y8 ∧ x9 = y9)) w := fun d w x0 x1 x2 x3 x4 x5 x6 x7 x8 x9 y0 y1 y2 y3 y4 y5 y6 y7 y8 y9 => by
    have h := pK (P := Tryz.prog) (T := 40) (dd := d + 2) (xs := [.int .u32 x0, .int .i32 x1, .int .i32 x2, .int .i32 x3, .int .i32 x4, .int .i32 x5, .int .i32 x6, .int .i32 x7, .int .i32 x8, .int .i32 x9]) (ys := [.int .u32 y0, .int .i32 y1, .int .i32 y2, .int .i32 y3, .int .i32 y4, .int .i32 y5, .int .i32 y6, .int .i32 y7, .int .i32 y8, .int .i32 y9]) (w := w) Tryz.underlying40 (by kernel_rfl) (fV rfl (gW cO rfl) (gW cO rfl) (mO (dd := d + 1) Tryz.underlying36) (fV rfl (gW aW rfl) (gW aW rfl) (mO (dd := d + 1) Tryz.underlying21) (fV rfl (yD bE rfl) (yD bE rfl) (aJo (d + 0) w x2 x3 y2 y3) (fV rfl (gW aW rfl) (gW aW rfl) (mO (dd := d + 1) Tryz.underlying21) (fV rfl (gW aW rfl) (gW aW rfl) (mO (dd := d + 1) Tryz.underlying21) (fV rfl (yD bE rfl) (yD bE rfl) (aJo (d + 0) w x6 x7 y6 y7) (fV rfl (yD bE rfl) (yD bE rfl) (aJo (d + 0) w x8 x9 y8 y9) (vN))))))))
    refine h.trans (congrArg (fun r => Result.ok r w) ?_)
    simp only [Bool.decide_and, Bool.and_true, Bool.and_assoc]
theorem bBp : ∀ (x0 x1 x2 x3 x4 x5 x6 x7 x8 x9 y0 y1 y2 y3 y4 y5 y6 y7 y8 y9 : Int), EqA Tryz.prog 40 [.int .u32 x0, .int .i32 x1, .int .i32 x2, .int .i32 x3, .int .i32 x4, .int .i32 x5, .int .i32 x6, .int .i32 x7, .int .i32 x8, .int .i32 x9] [.int .u32 y0, .int .i32 y1, .int .i32 y2, .int .i32 y3, .int .i32 y4, .int .i32 y5, .int .i32 y6, .int .i32 y7, .int .i32 y8, .int .i32 y9] (decide (x0 = y0 ∧ x1 = y1 ∧ x2 = y2 ∧ x3 = y3 ∧ x4 = y4 ∧ x5 = y5 ∧ x6 = y6 ∧ x7 = y7 ∧ x8 = y8 ∧ x9 = y9)) := fun x0 x1 x2 x3 x4 x5 x6 x7 x8 x9 y0 y1 y2 y3 y4 y5 y6 y7 y8 y9 => ⟨by kernel_rfl, fun w => bCd 9997 w x0 x1 x2 x3 x4 x5 x6 x7 x8 x9 y0 y1 y2 y3 y4 y5 y6 y7 y8 y9⟩
theorem bP : iS Tryz.prog 40 = some 10 := by kernel_rfl
theorem aYd : ∀ (d : Nat) (w : World) (x0 x1 y0 y1 : Int), (Op.equalIn (d + 2) 119 (.agg [.int .u32 x0, .int .u32 x1].toArray) (.agg [.int .u32 y0, .int .u32 y1].toArray)).run Tryz.prog w = .ok (decide (x0 = y0 ∧ x1 = y1)) w := fun d w x0 x1 y0 y1 => by
    have h := pK (P := Tryz.prog) (T := 119) (dd := d + 1) (xs := [.int .u32 x0, .int .u32 x1]) (ys := [.int .u32 y0, .int .u32 y1]) (w := w) Tryz.underlying119 (by kernel_rfl) (fV rfl (gW cO rfl) (gW cO rfl) (mO (dd := d + 0) Tryz.underlying36) (fV rfl (gW cO rfl) (gW cO rfl) (mO (dd := d + 0) Tryz.underlying36) (vN)))
    refine h.trans (congrArg (fun r => Result.ok r w) ?_)
    simp only [Bool.decide_and, Bool.and_true, Bool.and_assoc]
theorem bAr : ∀ (x0 x1 y0 y1 : Int), EqA Tryz.prog 119 [.int .u32 x0, .int .u32 x1] [.int .u32 y0, .int .u32 y1] (decide (x0 = y0 ∧ x1 = y1)) := fun x0 x1 y0 y1 => ⟨by kernel_rfl, fun w => aYd 9998 w x0 x1 y0 y1⟩
theorem gI : iS Tryz.prog 119 = some 2 := by kernel_rfl
theorem bAg : aY Tryz.prog 170 = true := by kernel_rfl
theorem bCb : lA Tryz.prog 119 = some (.agg [.int .u32 0, .int .u32 0].toArray) := by kernel_rfl
theorem lM : jE Tryz.prog 3 = true := by kernel_rfl
theorem nE : jE Tryz.prog 4 = true := by kernel_rfl
theorem mB : fQ Tryz.prog 40 1 1 = true := by kernel_rfl
theorem jA : fQ Tryz.prog 40 2 2 = true := by kernel_rfl
theorem cN : fQ Tryz.prog 38 0 0 = true := by kernel_rfl
theorem aBb : aY Tryz.prog 55 = true := by kernel_rfl
theorem cJ : fQ Tryz.prog 38 1 1 = true := by kernel_rfl
theorem eB : fQ Tryz.prog 40 3 4 = true := by kernel_rfl
theorem pZ : fQ Tryz.prog 40 4 5 = true := by kernel_rfl
theorem eO : fQ Tryz.prog 40 5 6 = true := by kernel_rfl
theorem dN : fQ Tryz.prog 40 6 8 = true := by kernel_rfl
theorem cW : fK Tryz.prog 22 40 10 40 = true := by kernel_rfl
theorem dL : fQ Tryz.prog 40 0 0 = true := by kernel_rfl
theorem mixed : Tryz.prog.follows .mixedOrders = true := by kernel_rfl
theorem mC : jE Tryz.prog 22 = true := by kernel_rfl
theorem gG : gD Tryz.prog 40 = some [.int .u32 0, .int .i32 0, .int .i32 0, .int .i32 0, .int .i32 0, .int .i32 0, .int .i32 0, .int .i32 0, .int .i32 0, .int .i32 0] := by kernel_rfl
theorem nI : gQ Tryz.prog 40 [.int .u32 0, .int .i32 0, .int .i32 0, .int .i32 0, .int .i32 0, .int .i32 0, .int .i32 0, .int .i32 0, .int .i32 0, .int .i32 0] [(0, 1), (1, 1), (2, 2), (4, 1), (5, 1), (6, 2), (8, 2)] := fB Tryz.underlying40 (by kernel_rfl) (by kernel_rfl) (by kernel_rfl)
theorem aRm : aY Tryz.prog 121 = true := by kernel_rfl
theorem aOj : aY Tryz.prog 97 = true := by kernel_rfl
theorem bAz : aY Tryz.prog 49 = true := by kernel_rfl
theorem aWs : aY Tryz.prog 24 = true := by kernel_rfl
theorem rP : aY Tryz.prog 38 = true := by kernel_rfl
theorem bCp : aY Tryz.prog 90 = true := by kernel_rfl
theorem bBi : aY Tryz.prog 59 = true := by kernel_rfl
theorem bBr : aY Tryz.prog 50 = true := by kernel_rfl
theorem bCa : aY Tryz.prog 36 = true := by kernel_rfl
theorem us3 : (Tryz.prog.underlying 3).isSome = true := by kernel_rfl
theorem bCg : (Tryz.prog.underlying 136).isSome = true := by kernel_rfl
theorem aQh : aY Tryz.prog 140 = true := by kernel_rfl
theorem bAq : aY Tryz.prog 139 = true := by kernel_rfl
theorem aSj : aY Tryz.prog 215 = true := by kernel_rfl
theorem aBl : gD Tryz.prog 193 = some [.int .i32 0, .int .i32 0, .int .i32 0, .int .i32 0] := by kernel_rfl
theorem bAm : aY Tryz.prog 190 = true := by kernel_rfl
theorem aAl : gQ Tryz.prog 193 [.int .i32 0, .int .i32 0, .int .i32 0, .int .i32 0] [(0, 1), (1, 1), (2, 1), (3, 1)] := fB Tryz.underlying193 (by kernel_rfl) (by kernel_rfl) (by kernel_rfl)
theorem iT : iS Tryz.prog 193 = some 4 := by kernel_rfl
theorem sG : fQ Tryz.prog 193 0 0 = true := by kernel_rfl
theorem sI : fQ Tryz.prog 193 2 2 = true := by kernel_rfl
theorem rT : fQ Tryz.prog 193 1 1 = true := by kernel_rfl
theorem rN : fQ Tryz.prog 193 3 3 = true := by kernel_rfl
theorem aIn : aY Tryz.prog 192 = true := by kernel_rfl
theorem aZh : aY Tryz.prog 193 = true := by kernel_rfl
theorem oE : gD Tryz.prog 226 = some [.int .i32 0, .int .i32 0] := by kernel_rfl
theorem aBc : gQ Tryz.prog 226 [.int .i32 0, .int .i32 0] [(0, 1), (1, 1)] := fB Tryz.underlying226 (by kernel_rfl) (by kernel_rfl) (by kernel_rfl)
theorem iB : iS Tryz.prog 226 = some 2 := by kernel_rfl
theorem dW : gQ Tryz.prog 38 [.int .i32 0, .int .i32 0] [(0, 1), (1, 1)] := fB Tryz.underlying38 (by kernel_rfl) (by kernel_rfl) (by kernel_rfl)
theorem aSm : aY Tryz.prog 229 = true := by kernel_rfl
theorem aXe : aY Tryz.prog 216 = true := by kernel_rfl
theorem aPg : gD Tryz.prog 4 = some [.bool false] := by kernel_rfl
theorem yA : fQ Tryz.prog 226 1 1 = true := by kernel_rfl
theorem xU : fQ Tryz.prog 226 0 0 = true := by kernel_rfl
theorem aUm : gD Tryz.prog 224 = some [.slice none 0 0] := by kernel_rfl
theorem aYe : aY Tryz.prog 191 = true := by kernel_rfl
theorem aZn : aY Tryz.prog 217 = true := by kernel_rfl
theorem aJd : jE Tryz.prog 224 = true := by kernel_rfl
theorem aPw : fK Tryz.prog 224 226 2 8 = true := by kernel_rfl
theorem dJ : (Tryz.prog.underlying 21).isSome = true := by kernel_rfl
theorem aPi : wY Tryz.prog 270 2 36 1 = true := by kernel_rfl
theorem bCy : (Tryz.prog.underlying 36).isSome = true := by kernel_rfl
theorem aXk : aY Tryz.prog 206 = true := by kernel_rfl
theorem lD : (Tryz.prog.underlying 2).isSome = true := by kernel_rfl
theorem qT : (Tryz.prog.underlying 170).isSome = true := by kernel_rfl
theorem oS : aY Tryz.prog 179 = true := by kernel_rfl
theorem aIu : aY Tryz.prog 178 = true := by kernel_rfl
theorem aPa : aY Tryz.prog 180 = true := by kernel_rfl
theorem aCy : aY Tryz.prog 181 = true := by kernel_rfl
theorem aCm : aY Tryz.prog 207 = true := by kernel_rfl
theorem aQw : aY Tryz.prog 201 = true := by kernel_rfl
theorem aHg : aY Tryz.prog 173 = true := by kernel_rfl
theorem aYu : aY Tryz.prog 203 = true := by kernel_rfl
theorem gE : gD Tryz.prog 38 = some [.int .i32 0, .int .i32 0] := by kernel_rfl
theorem aSt : aY Tryz.prog 175 = true := by kernel_rfl
theorem aOc : aY Tryz.prog 202 = true := by kernel_rfl
theorem xT : aY Tryz.prog 200 = true := by kernel_rfl
theorem gA : jE Tryz.prog 2 = true := by kernel_rfl
theorem aBg : aY Tryz.prog 141 = true := by kernel_rfl
theorem aYi : aY Tryz.prog 244 = true := by kernel_rfl
theorem wB : gD Tryz.prog 2 = some [.int .i64 0] := by kernel_rfl
theorem aQm : aY Tryz.prog 245 = true := by kernel_rfl
theorem bZ : jE Tryz.prog 170 = true := by kernel_rfl
theorem aUq : gD Tryz.prog 170 = some [.int .u64 0] := by kernel_rfl
theorem tS : wY Tryz.prog 318 2 38 2 = true := by kernel_rfl
theorem aJh : gD Tryz.prog 318 = some [.int .i32 0, .int .i32 0, .int .i32 0, .int .i32 0] := by kernel_rfl
theorem aCj : aY Tryz.prog 239 = true := by kernel_rfl
theorem aDa : aY Tryz.prog 238 = true := by kernel_rfl
theorem aXh : aY Tryz.prog 221 = true := by kernel_rfl
theorem sJ : gD Tryz.prog 239 = some [.int .u32 0, .int .i32 0, .int .i32 0, .int .i32 0, .int .i32 0, .int .i32 0, .int .i32 0, .int .i32 0, .int .i32 0, .int .i32 0, .int .i32 0, .int .i32 0, .int .i32 0, .int .i32 0] := by kernel_rfl
theorem aZp : aY Tryz.prog 220 = true := by kernel_rfl
theorem aLy : gQ Tryz.prog 239 [.int .u32 0, .int .i32 0, .int .i32 0, .int .i32 0, .int .i32 0, .int .i32 0, .int .i32 0, .int .i32 0, .int .i32 0, .int .i32 0, .int .i32 0, .int .i32 0, .int .i32 0, .int .i32 0] [(0, 10), (10, 2), (12, 2)] := fB Tryz.underlying239 (by kernel_rfl) (by kernel_rfl) (by kernel_rfl)
theorem kT : iS Tryz.prog 239 = some 14 := by kernel_rfl
theorem aDb : aY Tryz.prog 198 = true := by kernel_rfl
theorem aGe : fQ Tryz.prog 239 1 10 = true := by kernel_rfl
theorem aFd : fQ Tryz.prog 239 2 12 = true := by kernel_rfl
theorem bAs : aY Tryz.prog 199 = true := by kernel_rfl
theorem rY : fQ Tryz.prog 239 0 0 = true := by kernel_rfl
theorem kB : gD Tryz.prog 121 = some [.int .u32 0, .int .u32 0, .int .i32 0, .int .i32 0, .int .i32 0] := by kernel_rfl
theorem aYt : aY Tryz.prog 171 = true := by kernel_rfl
theorem aXs : aY Tryz.prog 172 = true := by kernel_rfl
theorem pV : gQ Tryz.prog 121 [.int .u32 0, .int .u32 0, .int .i32 0, .int .i32 0, .int .i32 0] [(0, 2), (2, 2), (4, 1)] := fB Tryz.underlying121 (by kernel_rfl) (by kernel_rfl) (by kernel_rfl)
theorem dP : iS Tryz.prog 121 = some 5 := by kernel_rfl
theorem uB : gQ Tryz.prog 119 [.int .u32 0, .int .u32 0] [(0, 1), (1, 1)] := fB Tryz.underlying119 (by kernel_rfl) (by kernel_rfl) (by kernel_rfl)
theorem pM : gD Tryz.prog 119 = some [.int .u32 0, .int .u32 0] := by kernel_rfl
theorem aXy : aY Tryz.prog 174 = true := by kernel_rfl
theorem aFi : fQ Tryz.prog 191 1 1024 = true := by kernel_rfl
theorem aYy : aY Tryz.prog 161 = true := by kernel_rfl
theorem aZu : aY Tryz.prog 162 = true := by kernel_rfl
theorem aRo : aDh Tryz.prog 223 3 4 .i64 = true := by kernel_rfl
theorem zv4 : lA Tryz.prog 4 = some (.bool false) := by kernel_rfl
theorem wN : fQ Tryz.prog 191 0 0 = true := by kernel_rfl
theorem aGo : wY Tryz.prog 189 1024 188 1 = true := by kernel_rfl
theorem aBs : jE Tryz.prog 188 = true := by kernel_rfl
theorem aEg : fK Tryz.prog 188 36 1 4 = true := by kernel_rfl
theorem aOq : fK Tryz.prog 302 3 1 8 = true := by kernel_rfl
theorem eZ : fQ Tryz.prog 119 0 0 = true := by kernel_rfl
theorem gU : fQ Tryz.prog 119 1 1 = true := by kernel_rfl
theorem aYm : aY Tryz.prog 197 = true := by kernel_rfl
theorem bAe : jE Tryz.prog 230 = true := by kernel_rfl
theorem aYh : aY Tryz.prog 196 = true := by kernel_rfl
theorem aHi : jE Tryz.prog 159 = true := by kernel_rfl
theorem rS : fK Tryz.prog 159 119 2 8 = true := by kernel_rfl
theorem aYg : aY Tryz.prog 218 = true := by kernel_rfl
theorem aXl : aY Tryz.prog 194 = true := by kernel_rfl
theorem aYo : aY Tryz.prog 195 = true := by kernel_rfl
theorem aZe : iS Tryz.prog 189 = some 1024 := by kernel_rfl
theorem aZl : aY Tryz.prog 167 = true := by kernel_rfl
theorem aNs : gQ Tryz.prog 231 [] [] := fB Tryz.underlying231 (by kernel_rfl) (by kernel_rfl) (by kernel_rfl)
theorem aZq : aY Tryz.prog 169 = true := by kernel_rfl
theorem aZd : aY Tryz.prog 168 = true := by kernel_rfl
theorem aXj : aY Tryz.prog 160 = true := by kernel_rfl
theorem aBm : aDh Tryz.prog 186 36 193 .u32 = true := by kernel_rfl
theorem bCr : gD Tryz.prog 3 = some [.int .i64 0] := by kernel_rfl
theorem aPq : jE Tryz.prog 186 = true := by kernel_rfl
theorem aSl : lA Tryz.prog 193 = some (.agg [.int .i32 0, .int .i32 0, .int .i32 0, .int .i32 0].toArray) := by kernel_rfl
theorem aYk : aY Tryz.prog 164 = true := by kernel_rfl
theorem aRp : aY Tryz.prog 163 = true := by kernel_rfl
theorem aXu : aY Tryz.prog 166 = true := by kernel_rfl
theorem aYx : aY Tryz.prog 132 = true := by kernel_rfl
theorem aXr : aY Tryz.prog 133 = true := by kernel_rfl
theorem bAa : aY Tryz.prog 134 = true := by kernel_rfl
theorem bAn : aY Tryz.prog 136 = true := by kernel_rfl
theorem aZa : aY Tryz.prog 135 = true := by kernel_rfl
theorem bAf : aY Tryz.prog 165 = true := by kernel_rfl
theorem bCe : aY Tryz.prog 39 = true := by kernel_rfl
theorem yO : fQ Tryz.prog 158 0 0 = true := by kernel_rfl
theorem wZ : jE Tryz.prog 156 = true := by kernel_rfl
theorem wD : aDh Tryz.prog 156 36 40 .u32 = true := by kernel_rfl
theorem aUp : lA Tryz.prog 40 = some (.agg [.int .u32 0, .int .i32 0, .int .i32 0, .int .i32 0, .int .i32 0, .int .i32 0, .int .i32 0, .int .i32 0, .int .i32 0, .int .i32 0].toArray) := by kernel_rfl
theorem aSs : aY Tryz.prog 137 = true := by kernel_rfl
theorem oZ : fQ Tryz.prog 158 1 1 = true := by kernel_rfl
theorem oP : jE Tryz.prog 82 = true := by kernel_rfl
theorem vH : fK Tryz.prog 82 121 5 20 = true := by kernel_rfl
theorem bAc : aY Tryz.prog 107 = true := by kernel_rfl
theorem aNo : gQ Tryz.prog 158 [.map none, .slice none 0 0] [(0, 1), (1, 1)] := fB Tryz.underlying158 (by kernel_rfl) (by kernel_rfl) (by kernel_rfl)
theorem aXf : aY Tryz.prog 105 = true := by kernel_rfl
theorem aYl : aY Tryz.prog 106 = true := by kernel_rfl
theorem pU : gD Tryz.prog 291 = some [.int .u64 0, .int .u64 0, .int .u64 0, .int .u64 0, .int .u64 0, .int .u64 0, .int .u64 0, .int .u64 0] := by kernel_rfl
theorem bJ : fQ Tryz.prog 291 0 0 = true := by kernel_rfl
theorem cH : wY Tryz.prog 289 8 170 1 = true := by kernel_rfl
theorem kU : iS Tryz.prog 291 = some 8 := by kernel_rfl
theorem aRd : aY Tryz.prog 228 = true := by kernel_rfl
theorem aXq : aY Tryz.prog 227 = true := by kernel_rfl
theorem aQt : aY Tryz.prog 212 = true := by kernel_rfl
theorem aNw : aY Tryz.prog 211 = true := by kernel_rfl
theorem aSo : aY Tryz.prog 213 = true := by kernel_rfl
theorem aPf : aY Tryz.prog 146 = true := by kernel_rfl
theorem aXt : aY Tryz.prog 147 = true := by kernel_rfl
theorem aHx : aY Tryz.prog 115 = true := by kernel_rfl
theorem mK : aY Tryz.prog 78 = true := by kernel_rfl
theorem aSp : aY Tryz.prog 208 = true := by kernel_rfl
theorem aXz : aY Tryz.prog 226 = true := by kernel_rfl
theorem aYb : aY Tryz.prog 209 = true := by kernel_rfl
theorem aOo : aY Tryz.prog 210 = true := by kernel_rfl
theorem rQ : fQ Tryz.prog 168 1 2 = true := by kernel_rfl
theorem sV : fQ Tryz.prog 168 0 0 = true := by kernel_rfl
theorem vY : gD Tryz.prog 168 = some [.int .i32 0, .int .i32 0, .int .i32 0, .int .i32 0] := by kernel_rfl
theorem pI : gQ Tryz.prog 168 [.int .i32 0, .int .i32 0, .int .i32 0, .int .i32 0] [(0, 2), (2, 2)] := fB Tryz.underlying168 (by kernel_rfl) (by kernel_rfl) (by kernel_rfl)
theorem aCa : aY Tryz.prog 182 = true := by kernel_rfl
theorem aKn : fK Tryz.prog 256 168 4 16 = true := by kernel_rfl
theorem jX : iS Tryz.prog 168 = some 4 := by kernel_rfl
theorem aIc : aY Tryz.prog 113 = true := by kernel_rfl
theorem aSb : aY Tryz.prog 144 = true := by kernel_rfl
theorem aOh : aY Tryz.prog 145 = true := by kernel_rfl
theorem aZb : aY Tryz.prog 143 = true := by kernel_rfl
theorem aZi : aY Tryz.prog 112 = true := by kernel_rfl
theorem aZk : aY Tryz.prog 114 = true := by kernel_rfl
theorem aPu : aY Tryz.prog 75 = true := by kernel_rfl
end Go.Proofs.YtlmcphcgiclanaaGreatDoor

namespace Go.Proofs.YtlmcphcgiclanaaGreatDoor
open Go.Bil
open Go.Proofs
end Go.Proofs.YtlmcphcgiclanaaGreatDoor

namespace Go.Proofs.YtlmcphcgiclanaaGreatDoor
open Go.Bil
open Go.Proofs
end Go.Proofs.YtlmcphcgiclanaaGreatDoor

namespace Go.Proofs.YtlmcphcgiclanaaGreatDoor
open Go.Bil
open Go.Proofs
theorem aXp : aY Tryz.prog 246 = true := by kernel_rfl
theorem bAv : aY Tryz.prog 240 = true := by kernel_rfl
theorem fN : fQ Tryz.prog 121 1 2 = true := by kernel_rfl
theorem aXv : aY Tryz.prog 222 = true := by kernel_rfl
theorem aZv : aY Tryz.prog 223 = true := by kernel_rfl
theorem aPn : aY Tryz.prog 224 = true := by kernel_rfl
theorem aOr : aY Tryz.prog 225 = true := by kernel_rfl
theorem nG : fQ Tryz.prog 246 0 0 = true := by kernel_rfl
theorem eF : fQ Tryz.prog 121 0 0 = true := by kernel_rfl
theorem aCn : aY Tryz.prog 109 = true := by kernel_rfl
theorem aXg : aY Tryz.prog 204 = true := by kernel_rfl
theorem aOw : aY Tryz.prog 205 = true := by kernel_rfl
theorem nC : fQ Tryz.prog 246 1 1 = true := by kernel_rfl
theorem kW : jE Tryz.prog 200 = true := by kernel_rfl
theorem nF : fQ Tryz.prog 246 2 2 = true := by kernel_rfl
theorem mF : fK Tryz.prog 200 2 1 8 = true := by kernel_rfl
theorem bAp : aY Tryz.prog 177 = true := by kernel_rfl
theorem aAg : gQ Tryz.prog 246 [.slice none 0 0, .slice none 0 0, .slice none 0 0] [(0, 1), (1, 1), (2, 1)] := fB Tryz.underlying246 (by kernel_rfl) (by kernel_rfl) (by kernel_rfl)
theorem aPy : aY Tryz.prog 176 = true := by kernel_rfl
theorem aYv : aY Tryz.prog 138 = true := by kernel_rfl
theorem aIe : aY Tryz.prog 118 = true := by kernel_rfl
theorem aXx : aY Tryz.prog 108 = true := by kernel_rfl
theorem yJ : fQ Tryz.prog 121 2 4 = true := by kernel_rfl
theorem aRf : aY Tryz.prog 142 = true := by kernel_rfl
theorem aAr : jE Tryz.prog 97 = true := by kernel_rfl
theorem aEt : fK Tryz.prog 97 135 2 16 = true := by kernel_rfl
theorem yK : fQ Tryz.prog 135 0 0 = true := by kernel_rfl
theorem xN : fQ Tryz.prog 135 1 1 = true := by kernel_rfl
theorem aJg : gD Tryz.prog 135 = some [.int .i64 0, .int .i64 0] := by kernel_rfl
theorem bAd : gD Tryz.prog 97 = some [.slice none 0 0] := by kernel_rfl
theorem aOe : aY Tryz.prog 111 = true := by kernel_rfl
theorem aRr : aY Tryz.prog 110 = true := by kernel_rfl
theorem aJv : fK Tryz.prog 175 133 1 8 = true := by kernel_rfl
theorem aXi : jE Tryz.prog 133 = true := by kernel_rfl
theorem bCl : aY Tryz.prog 84 = true := by kernel_rfl
theorem aOm : aY Tryz.prog 85 = true := by kernel_rfl
theorem bBz : aY Tryz.prog 83 = true := by kernel_rfl
theorem aWx : aY Tryz.prog 82 = true := by kernel_rfl
theorem bBs : aY Tryz.prog 86 = true := by kernel_rfl
theorem aWa : aY Tryz.prog 53 = true := by kernel_rfl
theorem aWj : aY Tryz.prog 54 = true := by kernel_rfl
theorem vM : fQ Tryz.prog 84 1 1 = true := by kernel_rfl
theorem pW : fQ Tryz.prog 84 3 3 = true := by kernel_rfl
theorem mL : fQ Tryz.prog 27 2 2 = true := by kernel_rfl
theorem aBf : fQ Tryz.prog 84 0 0 = true := by kernel_rfl
theorem bBk : aY Tryz.prog 71 = true := by kernel_rfl
theorem vZ : fQ Tryz.prog 84 2 2 = true := by kernel_rfl
theorem qC : fQ Tryz.prog 27 0 0 = true := by kernel_rfl
theorem rV : fQ Tryz.prog 27 1 1 = true := by kernel_rfl
theorem aQs : aY Tryz.prog 72 = true := by kernel_rfl
theorem bBc : aY Tryz.prog 73 = true := by kernel_rfl
theorem bCc : aY Tryz.prog 74 = true := by kernel_rfl
theorem oY : gD Tryz.prog 27 = some [.int .i64 0, .int .i64 0, .bool false] := by kernel_rfl
theorem aQy : gQ Tryz.prog 84 [.slice none 0 0, .slice none 0 0, .slice none 0 0, .int .i64 0, .int .i64 0, .bool false] [(0, 1), (1, 1), (2, 1), (3, 3)] := fB Tryz.underlying84 (by kernel_rfl) (by kernel_rfl) (by kernel_rfl)
theorem aFy : wY Tryz.prog 86 4 85 1 = true := by kernel_rfl
theorem aZw : gD Tryz.prog 86 = some [.nilFunc, .nilFunc, .nilFunc, .nilFunc] := by kernel_rfl
theorem aKl : jE Tryz.prog 85 = true := by kernel_rfl
theorem bBa : aY Tryz.prog 40 = true := by kernel_rfl
theorem bCk : aY Tryz.prog 41 = true := by kernel_rfl
theorem bBq : aY Tryz.prog 42 = true := by kernel_rfl
theorem bBo : aY Tryz.prog 43 = true := by kernel_rfl
theorem nD : iS Tryz.prog 27 = some 3 := by kernel_rfl
theorem aJn : aY Tryz.prog 16 = true := by kernel_rfl
end Go.Proofs.YtlmcphcgiclanaaGreatDoor

namespace Go.Proofs.YtlmcphcgiclanaaGreatDoor
open Go.Bil
open Go.Proofs
theorem aZg : aY Tryz.prog 183 = true := by kernel_rfl
theorem aRl : aY Tryz.prog 184 = true := by kernel_rfl
theorem aQx : aY Tryz.prog 148 = true := by kernel_rfl
theorem aBr : aY Tryz.prog 149 = true := by kernel_rfl
theorem aRw : aY Tryz.prog 116 = true := by kernel_rfl
theorem aFo : aY Tryz.prog 76 = true := by kernel_rfl
theorem bBu : aY Tryz.prog 77 = true := by kernel_rfl
theorem aZx : aY Tryz.prog 117 = true := by kernel_rfl
theorem aUy : gD Tryz.prog 126 = some [.int .i64 0, .int .i64 0] := by kernel_rfl
theorem aWf : aY Tryz.prog 79 = true := by kernel_rfl
theorem iV : fQ Tryz.prog 126 0 0 = true := by kernel_rfl
theorem iX : fQ Tryz.prog 126 1 1 = true := by kernel_rfl
theorem aYz : iS Tryz.prog 126 = some 2 := by kernel_rfl
theorem aLa : fK Tryz.prog 90 126 2 16 = true := by kernel_rfl
theorem bCm : aY Tryz.prog 44 = true := by kernel_rfl
theorem bBl : aY Tryz.prog 45 = true := by kernel_rfl
theorem bCq : aY Tryz.prog 46 = true := by kernel_rfl
theorem bBh : aY Tryz.prog 48 = true := by kernel_rfl
theorem bBb : aY Tryz.prog 47 = true := by kernel_rfl
theorem bBe : aY Tryz.prog 19 = true := by kernel_rfl
theorem aGa : ∀ (x0 x1 y0 y1 : Int), EqA Tryz.prog 38 [.int .i32 x0, .int .i32 x1] [.int .i32 y0, .int .i32 y1] (decide (x0 = y0 ∧ x1 = y1)) := fun x0 x1 y0 y1 => ⟨by kernel_rfl, fun w => aJo 9998 w x0 x1 y0 y1⟩
theorem aEc : gQ Tryz.prog 27 [.int .i64 0, .int .i64 0, .bool false] [(0, 1), (1, 1), (2, 1)] := fB Tryz.underlying27 (by kernel_rfl) (by kernel_rfl) (by kernel_rfl)
theorem bBv : aY Tryz.prog 23 = true := by kernel_rfl
end Go.Proofs.YtlmcphcgiclanaaGreatDoor

namespace Go.Proofs.YtlmcphcgiclanaaGreatDoor
open Go.Bil
open Go.Proofs
theorem bCo : aY Tryz.prog 14 = true := by kernel_rfl
theorem aWu : aY Tryz.prog 15 = true := by kernel_rfl
theorem bCt : aY Tryz.prog 17 = true := by kernel_rfl
theorem bCs : aY Tryz.prog 18 = true := by kernel_rfl
theorem aQe : pD Tryz.prog 4 40 = some [.u32, .i32, .i32, .i32, .i32, .i32, .i32, .i32, .i32, .i32] := by kernel_rfl
end Go.Proofs.YtlmcphcgiclanaaGreatDoor

namespace Go.Proofs.YtlmcphcgiclanaaGreatDoor
open Go.Bil
open Go.RowKit (Below)
open Go.Proofs
set_option maxHeartbeats 4000000 in
theorem mY (w : World) (n l : Int) (h0 : 0 ≤ l) (h1 : l ≤ 2147483647) :
    Calls Tryz.prog 55 #[.int .i32 n, .int .i32 l] w (fun ex w' => ∃ v, ex = .returned v ∧ (fun v w' => v = .bool (decide (sE n l)) ∧ Below w.heap.size w w') v w') := by
  have hneg : IntKind.i32.wrap (-l) = -l := iF _ (by omega) (by omega)
  refine aL #[.tmp 4] 14 Tryz.func55 rfl Tryz.results55 Tryz.ntmps55 rfl ?_
  have M0 := Mem.refl w
  refine aH (aB ?_)
  refine aA (aD (.bool false) rfl) rfl rfl ?_
  refine aE (aF (aH (aB ?_)))
  refine aA (aC (.int _ _) rfl) rfl rfl ?_
  refine aA (aC (.int _ _) rfl) rfl rfl ?_
  refine aA (oN rfl) rfl rfl ?_
  refine aK 7 (.int .i32 (-l)) (iE hneg) ?_
  refine aA (aN (.bool (decide _)) rfl rfl rfl) rfl rfl ?_
  refine aA (aC (.bool (decide _)) rfl) rfl rfl ?_
  refine dT 9 rfl (fun g9 => ?_) (fun g9 => ?_)
  · refine aA (aC (.int _ _) rfl) rfl rfl ?_
    refine aA (aC (.int _ _) rfl) rfl rfl ?_
    refine aA (aN (.bool (decide _)) rfl rfl rfl) rfl rfl ?_
    refine aA (bQ true (.bool (decide _)) rfl rfl) rfl rfl ?_
    refine aA (aD (.bool (decide _)) rfl) rfl rfl ?_
    refine aE (aF (aU ?_))
    refine cU (.bool (decide _)) rfl ?_
    exact ⟨by unfold sE; first | exact bF (by omega) | exact bD (by omega), M0.below⟩
  · refine aS rfl rfl ?_
    refine aS rfl rfl ?_
    refine aS rfl rfl ?_
    refine aA (bQ false (.bool false) rfl rfl) rfl rfl ?_
    refine aA (aD (.bool false) rfl) rfl rfl ?_
    refine aE (aF (aU ?_))
    refine cU (.bool false) rfl ?_
    exact ⟨by unfold sE; first | exact bF (by omega) | exact bD (by omega), M0.below⟩
set_option maxHeartbeats 4000000 in
theorem uX (w : World) (b : Body) :
    Calls Tryz.prog 24 #[(.agg (aI b).toArray)] w (fun ex w' => ∃ v, ex = .returned v ∧ (fun v w' => v = .int .i64 (check b) ∧ Below w.heap.size w w') v w') := by
  refine aL #[.tmp 2] 63 Tryz.func24 rfl Tryz.results24 Tryz.ntmps24 rfl ?_
  have M0 := Mem.refl w
  refine aH (aB ?_)
  refine bM (.agg (List.toArray _)) M0 rfl rfl rfl (fun b1 w1 M1 => ?_)
  refine aA (aD (.int _ _) rfl) rfl rfl ?_
  refine aE (aF (aH (aH (aB ?_))))
  refine aA (aG 1 mB rfl) rfl rfl ?_
  refine aA (aQ 0 (.int _ _) aW M1 rfl rfl rfl) rfl rfl ?_
  refine aA (aN (.bool (decide _)) rfl rfl rfl) rfl rfl ?_
  refine aA (aC (.bool (decide _)) rfl) rfl rfl ?_
  refine dT 6 rfl (fun g6 => ?_) (fun g6 => ?_)
  · refine aS rfl rfl ?_
    refine aS rfl rfl ?_
    refine aS rfl rfl ?_
    refine aA (bQ true (.bool true) rfl rfl) rfl rfl ?_
    refine aE (aF ?_)
    refine cM rfl ?_
    refine aH (aB ?_)
    refine aA (aD (.int _ _) rfl) rfl rfl ?_
    refine aE (aF (aU (dC ?_)))
    refine cU (.int _ _) rfl ?_
    exact ⟨iE (by unfold check; unfold sE at *; (repeat' split) <;> omega), M1.below⟩
  · refine aA (aG 1 mB rfl) rfl rfl ?_
    refine aA (aQ 0 (.int _ _) aW M1 rfl rfl rfl) rfl rfl ?_
    refine aA (aN (.bool (decide _)) rfl rfl rfl) rfl rfl ?_
    refine aA (bQ false (.bool (decide _)) rfl rfl) rfl rfl ?_
    refine aE (aF ?_)
    refine aX rfl (fun h10 => ?_) (fun h10 => ?_)
    · refine aH (aB ?_)
      refine aA (aD (.int _ _) rfl) rfl rfl ?_
      refine aE (aF (aU (dC ?_)))
      refine cU (.int _ _) rfl ?_
      exact ⟨iE (by unfold check; unfold sE at *; (repeat' split) <;> omega), M1.below⟩
    · refine aO (aF (aH (aH (aB ?_))))
      refine aA (aG 2 jA rfl) rfl rfl ?_
      refine aA (aG 0 cN rfl) rfl rfl ?_
      refine aA (aQ 0 (.int _ _) aW M1 rfl rfl rfl) rfl rfl ?_
      refine aM aBb rfl rfl rfl ?_
      refine (mY _ _ _ (by omega) (by omega)).mono ?_
      rintro _ w2 ⟨v2, rfl, ⟨rfl, hb2⟩⟩
      refine ⟨_, rfl, ?_⟩
      have M2 := M1.callB hb2
      refine aA (qS rfl) rfl rfl ?_
      refine aA (aC (.bool (decide _)) rfl) rfl rfl ?_
      refine dT 16 rfl (fun g16 => ?_) (fun g16 => ?_)
      · refine aS rfl rfl ?_
        refine aS rfl rfl ?_
        refine aS rfl rfl ?_
        refine aS rfl rfl ?_
        refine aS rfl rfl ?_
        refine aA (bQ true (.bool true) rfl rfl) rfl rfl ?_
        refine aE (aF ?_)
        refine cM rfl ?_
        refine aH (aB ?_)
        refine aA (aD (.int _ _) rfl) rfl rfl ?_
        refine aE (aF (aU (dC ?_)))
        refine cU (.int _ _) rfl ?_
        exact ⟨iE (by unfold check; unfold sE at *; (repeat' split) <;> omega), M2.below⟩
      · refine aA (aG 2 jA rfl) rfl rfl ?_
        refine aA (aG 1 cJ rfl) rfl rfl ?_
        refine aA (aQ 0 (.int _ _) aW M2 rfl rfl rfl) rfl rfl ?_
        refine aM aBb rfl rfl rfl ?_
        refine (mY _ _ _ (by omega) (by omega)).mono ?_
        rintro _ w3 ⟨v3, rfl, ⟨rfl, hb3⟩⟩
        refine ⟨_, rfl, ?_⟩
        have M3 := M2.callB hb3
        refine aA (qS rfl) rfl rfl ?_
        refine aA (bQ false (.bool (decide _)) rfl rfl) rfl rfl ?_
        refine aE (aF ?_)
        refine aX rfl (fun h22 => ?_) (fun h22 => ?_)
        · refine aH (aB ?_)
          refine aA (aD (.int _ _) rfl) rfl rfl ?_
          refine aE (aF (aU (dC ?_)))
          refine cU (.int _ _) rfl ?_
          exact ⟨iE (by unfold check; unfold sE at *; (repeat' split) <;> omega), M3.below⟩
        · refine aO (aF (aH (aH (aB ?_))))
          refine aA (aG 4 eB rfl) rfl rfl ?_
          refine aA (aQ 0 (.int _ _) aW M3 rfl rfl rfl) rfl rfl ?_
          refine aA (aN (.bool (decide _)) rfl rfl rfl) rfl rfl ?_
          refine aA (aC (.bool (decide _)) rfl) rfl rfl ?_
          refine dT 26 rfl (fun g26 => ?_) (fun g26 => ?_)
          · refine aS rfl rfl ?_
            refine aS rfl rfl ?_
            refine aS rfl rfl ?_
            refine aA (bQ true (.bool true) rfl rfl) rfl rfl ?_
            refine aE (aF ?_)
            refine cM rfl ?_
            refine aH (aB ?_)
            refine aA (aD (.int _ _) rfl) rfl rfl ?_
            refine aE (aF (aU (dC ?_)))
            refine cU (.int _ _) rfl ?_
            exact ⟨iE (by unfold check; unfold sE at *; (repeat' split) <;> omega), M3.below⟩
          · refine aA (aG 4 eB rfl) rfl rfl ?_
            refine aA (aQ 0 (.int _ _) aW M3 rfl rfl rfl) rfl rfl ?_
            refine aA (aN (.bool (decide _)) rfl rfl rfl) rfl rfl ?_
            refine aA (bQ false (.bool (decide _)) rfl rfl) rfl rfl ?_
            refine aE (aF ?_)
            refine aX rfl (fun h30 => ?_) (fun h30 => ?_)
            · refine aH (aB ?_)
              refine aA (aD (.int _ _) rfl) rfl rfl ?_
              refine aE (aF (aU (dC ?_)))
              refine cU (.int _ _) rfl ?_
              exact ⟨iE (by unfold check; unfold sE at *; (repeat' split) <;> omega), M3.below⟩
            · refine aO (aF (aH (aH (aB ?_))))
              refine aA (aG 5 pZ rfl) rfl rfl ?_
              refine aA (aQ 0 (.int _ _) aW M3 rfl rfl rfl) rfl rfl ?_
              refine aA (aN (.bool (decide _)) rfl rfl rfl) rfl rfl ?_
              refine aA (aC (.bool (decide _)) rfl) rfl rfl ?_
              refine dT 34 rfl (fun g34 => ?_) (fun g34 => ?_)
              · refine aS rfl rfl ?_
                refine aS rfl rfl ?_
                refine aS rfl rfl ?_
                refine aA (bQ true (.bool true) rfl rfl) rfl rfl ?_
                refine aE (aF ?_)
                refine cM rfl ?_
                refine aH (aB ?_)
                refine aA (aD (.int _ _) rfl) rfl rfl ?_
                refine aE (aF (aU (dC ?_)))
                refine cU (.int _ _) rfl ?_
                exact ⟨iE (by unfold check; unfold sE at *; (repeat' split) <;> omega), M3.below⟩
              · refine aA (aG 5 pZ rfl) rfl rfl ?_
                refine aA (aQ 0 (.int _ _) aW M3 rfl rfl rfl) rfl rfl ?_
                refine aA (aN (.bool (decide _)) rfl rfl rfl) rfl rfl ?_
                refine aA (bQ false (.bool (decide _)) rfl rfl) rfl rfl ?_
                refine aE (aF ?_)
                refine aX rfl (fun h38 => ?_) (fun h38 => ?_)
                · refine aH (aB ?_)
                  refine aA (aD (.int _ _) rfl) rfl rfl ?_
                  refine aE (aF (aU (dC ?_)))
                  refine cU (.int _ _) rfl ?_
                  exact ⟨iE (by unfold check; unfold sE at *; (repeat' split) <;> omega), M3.below⟩
                · refine aO (aF (aH (aH (aB ?_))))
                  refine aA (aG 6 eO rfl) rfl rfl ?_
                  refine aA (aG 0 cN rfl) rfl rfl ?_
                  refine aA (aQ 0 (.int _ _) aW M3 rfl rfl rfl) rfl rfl ?_
                  refine aM aBb rfl rfl rfl ?_
                  refine (mY _ _ _ (by omega) (by omega)).mono ?_
                  rintro _ w4 ⟨v4, rfl, ⟨rfl, hb4⟩⟩
                  refine ⟨_, rfl, ?_⟩
                  have M4 := M3.callB hb4
                  refine aA (qS rfl) rfl rfl ?_
                  refine aA (aC (.bool (decide _)) rfl) rfl rfl ?_
                  refine dT 44 rfl (fun g44 => ?_) (fun g44 => ?_)
                  · refine aS rfl rfl ?_
                    refine aS rfl rfl ?_
                    refine aS rfl rfl ?_
                    refine aS rfl rfl ?_
                    refine aS rfl rfl ?_
                    refine aA (bQ true (.bool true) rfl rfl) rfl rfl ?_
                    refine aE (aF ?_)
                    refine cM rfl ?_
                    refine aH (aB ?_)
                    refine aA (aD (.int _ _) rfl) rfl rfl ?_
                    refine aE (aF (aU (dC ?_)))
                    refine cU (.int _ _) rfl ?_
                    exact ⟨iE (by unfold check; unfold sE at *; (repeat' split) <;> omega), M4.below⟩
                  · refine aA (aG 6 eO rfl) rfl rfl ?_
                    refine aA (aG 1 cJ rfl) rfl rfl ?_
                    refine aA (aQ 0 (.int _ _) aW M4 rfl rfl rfl) rfl rfl ?_
                    refine aM aBb rfl rfl rfl ?_
                    refine (mY _ _ _ (by omega) (by omega)).mono ?_
                    rintro _ w5 ⟨v5, rfl, ⟨rfl, hb5⟩⟩
                    refine ⟨_, rfl, ?_⟩
                    have M5 := M4.callB hb5
                    refine aA (qS rfl) rfl rfl ?_
                    refine aA (bQ false (.bool (decide _)) rfl rfl) rfl rfl ?_
                    refine aE (aF ?_)
                    refine aX rfl (fun h50 => ?_) (fun h50 => ?_)
                    · refine aH (aB ?_)
                      refine aA (aD (.int _ _) rfl) rfl rfl ?_
                      refine aE (aF (aU (dC ?_)))
                      refine cU (.int _ _) rfl ?_
                      exact ⟨iE (by unfold check; unfold sE at *; (repeat' split) <;> omega), M5.below⟩
                    · refine aO (aF (aH (aH (aB ?_))))
                      refine aA (aG 8 dN rfl) rfl rfl ?_
                      refine aA (aG 0 cN rfl) rfl rfl ?_
                      refine aA (aQ 0 (.int _ _) aW M5 rfl rfl rfl) rfl rfl ?_
                      refine aM aBb rfl rfl rfl ?_
                      refine (mY _ _ _ (by omega) (by omega)).mono ?_
                      rintro _ w6 ⟨v6, rfl, ⟨rfl, hb6⟩⟩
                      refine ⟨_, rfl, ?_⟩
                      have M6 := M5.callB hb6
                      refine aA (qS rfl) rfl rfl ?_
                      refine aA (aC (.bool (decide _)) rfl) rfl rfl ?_
                      refine dT 56 rfl (fun g56 => ?_) (fun g56 => ?_)
                      · refine aS rfl rfl ?_
                        refine aS rfl rfl ?_
                        refine aS rfl rfl ?_
                        refine aS rfl rfl ?_
                        refine aS rfl rfl ?_
                        refine aA (bQ true (.bool true) rfl rfl) rfl rfl ?_
                        refine aE (aF ?_)
                        refine cM rfl ?_
                        refine aH (aB ?_)
                        refine aA (aD (.int _ _) rfl) rfl rfl ?_
                        refine aE (aF (aU (dC ?_)))
                        refine cU (.int _ _) rfl ?_
                        exact ⟨iE (by unfold check; unfold sE at *; (repeat' split) <;> omega), M6.below⟩
                      · refine aA (aG 8 dN rfl) rfl rfl ?_
                        refine aA (aG 1 cJ rfl) rfl rfl ?_
                        refine aA (aQ 0 (.int _ _) aW M6 rfl rfl rfl) rfl rfl ?_
                        refine aM aBb rfl rfl rfl ?_
                        refine (mY _ _ _ (by omega) (by omega)).mono ?_
                        rintro _ w7 ⟨v7, rfl, ⟨rfl, hb7⟩⟩
                        refine ⟨_, rfl, ?_⟩
                        have M7 := M6.callB hb7
                        refine aA (qS rfl) rfl rfl ?_
                        refine aA (bQ false (.bool (decide _)) rfl rfl) rfl rfl ?_
                        refine aE (aF ?_)
                        refine aX rfl (fun h62 => ?_) (fun h62 => ?_)
                        · refine aH (aB ?_)
                          refine aA (aD (.int _ _) rfl) rfl rfl ?_
                          refine aE (aF (aU (dC ?_)))
                          refine cU (.int _ _) rfl ?_
                          exact ⟨iE (by unfold check; unfold sE at *; (repeat' split) <;> omega), M7.below⟩
                        · refine aO (aF (aH (aB ?_)))
                          refine aA (aD (.int _ _) rfl) rfl rfl ?_
                          refine aE (aF (aU ?_))
                          refine cU (.int _ _) rfl ?_
                          exact ⟨iE (by unfold check; unfold sE at *; (repeat' split) <;> omega), M7.below⟩
end Go.Proofs.YtlmcphcgiclanaaGreatDoor

namespace Go.Proofs.YtlmcphcgiclanaaGreatDoor
open Go.Bil
open Go.RowKit (Below)
open Go.Proofs
theorem aSe (a b : Body) : EqA Tryz.prog 40 (aI a) (aI b) (decide (a = b)) := by
  have h := bBp a.key a.radius a.ax a.ay a.mass a.bounce a.px a.py a.vx a.vy b.key b.radius b.ax b.ay b.mass b.bounce b.px b.py b.vx b.vy
  rw [decide_eq_decide.2 (aRs (a := a) (b := b))]
  exact h
set_option maxHeartbeats 4000000 in
theorem gR (w : World) (key : Int) (A : Option Addr) (n c : Nat) (xs : List Body) (R : Rd w 10 A n (xs.map aI)) :
    Calls Tryz.prog 38 #[.slice A n c, .int .u32 key] w (fun ex w' => ∃ v, ex = .returned v ∧ (fun v w' => v = .int .i64 (dK key xs) ∧ Below w.heap.size w w') v w') := by
  have hlen : xs.length = n := by simpa using R.len
  have hbd := R.bound
  refine aL #[.tmp 4] 20 Tryz.func38 rfl Tryz.results38 Tryz.ntmps38 rfl ?_
  have M0 := Mem.refl w
  refine aH (aB ?_)
  refine aA (aD (.int _ _) rfl) rfl rfl ?_
  refine aE (aF (aH (aH (aB ?_))))
  refine aA (aD (.int _ _) rfl) rfl rfl ?_
  refine aE (aF (aT ?_))
  refine dM (σ := Nat) [0, 1] (fun k => [(5, .int .i64 (k : Int))]) (fun k w' => (k ≤ n ∧ ∀ (j : Nat) (c : Body), j < k → xs[j]? = some c → c.key ≠ key) ∧ Mem w [] [] w') (fun k => n - k) 0 (bB rfl dO) (⟨⟨by omega, fun j c hj => by omega⟩, M0⟩) ?_
  rintro k ρ1 w1 ⟨⟨hk, hne⟩, hM1⟩
  refine aH (aH (aB ?_))
  refine aA (aC (.int _ _) rfl) rfl rfl ?_
  refine aA (aC (.slice _ _ _) rfl) rfl rfl ?_
  refine aA (dE Tryz.underlying22 rfl) rfl rfl ?_
  refine aA (aN (.bool (decide _)) rfl rfl rfl) rfl rfl ?_
  refine aE (aF ?_)
  refine aX rfl (fun h9 => ?_) (fun h9 => ?_)
  · obtain ⟨xb, hxb⟩ := dA (k := k) hlen (by omega)
    refine aO (aF (aH (aT (aH (aB ?_)))))
    refine aA (aC (.slice _ _ _) rfl) rfl rfl ?_
    refine aA (aC (.int _ _) rfl) rfl rfl ?_
    refine aA (bN (k) cW rfl rfl rfl ((R.mem hM1).below_len (aJ aI hxb)) ((R.mem hM1).someK (aJ aI hxb))) rfl rfl ?_
    refine aA (bG 0 dL (R.mem hM1) (Nat.lt_of_le_of_lt (Nat.zero_le _) ((R.mem hM1).below_len (aJ aI hxb))) rfl) rfl rfl ?_
    refine aA (dR (o := 0) (.int _ _) cO (R.mem hM1) (aJ aI hxb) rfl rfl) rfl rfl ?_
    refine aA (aC (.int _ _) rfl) rfl rfl ?_
    refine aA (aN (.bool (decide _)) rfl rfl rfl) rfl rfl ?_
    refine aE (aF ?_)
    refine aX rfl (fun h18 => ?_) (fun h18 => ?_)
    · refine aH (aB ?_)
      refine aA (aC (.int _ _) rfl) rfl rfl ?_
      refine aA (aD (.int _ _) rfl) rfl rfl ?_
      refine aE (aF (aU ?_))
      refine vE ?_
      refine dC ?_
      refine aCu ?_
      refine vE ?_
      refine dC ?_
      refine cU (.int _ _) rfl ?_
      exact ⟨iE (sP hxb h18 hne).symm, hM1.below⟩
    · refine aO ?_
      refine cS ?_
      refine aF (aB ?_)
      refine aA (aC (.int _ _) rfl) rfl rfl ?_
      refine aA (aZ rfl rfl (by omega) (by omega)) rfl rfl ?_
      refine aA (aD (.int _ _) rfl) rfl rfl ?_
      refine aE ?_
      refine cA (k + 1) (bB rfl dO) (cD rfl (cD rfl fS)) ?_ ?_
      · exact ⟨⟨by omega, vP hne hxb h18⟩, hM1⟩
      · omega
  · refine cQ ?_
    refine cX ?_
    refine dF ?_
    refine eJ ?_
    refine aF (aH (aB ?_))
    refine aA (aD (.int _ _) rfl) rfl rfl ?_
    refine aE (aF (aU ?_))
    refine cU (.int _ _) rfl ?_
    have hkn : k = n := by omega
    exact ⟨iE (aAh (fun j b hj => hne j b (by have := (List.getElem?_eq_some_iff.1 hj).1; omega) hj)).symm, hM1.below⟩
set_option maxHeartbeats 4000000 in
theorem aHh (w : World) (A : Option Addr) (n c : Nat) (xs : List Body) (R : Rd w 10 A n (xs.map aI)) (B : Option Addr) (m c' : Nat) (ys : List Body) (R' : Rd w 10 B m (ys.map aI)) :
    Calls Tryz.prog 18 #[.slice A n c, .slice B m c'] w (fun ex w' => ∃ v, ex = .returned v ∧ (fun v w' => v = .bool (decide (xs = ys)) ∧ Below w.heap.size w w') v w') := by
  have hlen : xs.length = n := by simpa using R.len
  have hbd := R.bound
  have hlen' : ys.length = m := by simpa using R'.len
  have hbd' := R'.bound
  refine aL #[.tmp 4] 26 Tryz.func18 rfl Tryz.results18 Tryz.ntmps18 rfl ?_
  have M0 := Mem.refl w
  refine aH (aB ?_)
  refine aA (aD (.bool false) rfl) rfl rfl ?_
  refine aE (aF (aH (aH (aB ?_))))
  refine aA (aC (.slice _ _ _) rfl) rfl rfl ?_
  refine aA (dE Tryz.underlying22 rfl) rfl rfl ?_
  refine aA (aC (.slice _ _ _) rfl) rfl rfl ?_
  refine aA (dE Tryz.underlying22 rfl) rfl rfl ?_
  refine aA (aN (.bool (decide _)) rfl rfl rfl) rfl rfl ?_
  refine aE (aF ?_)
  refine aX rfl (fun h10 => ?_) (fun h10 => ?_)
  · refine aH (aB ?_)
    refine aA (aD (.bool false) rfl) rfl rfl ?_
    refine aE (aF (aU (dC ?_)))
    refine cU (.bool false) rfl ?_
    exact ⟨bF (fun e => h10 (by rw [← hlen, ← hlen', e])), M0.below⟩
  · have hnm : n = m := by omega
    refine aO (aF (aH (aH (aB ?_))))
    refine aA (aD (.int _ _) rfl) rfl rfl ?_
    refine aE (aF (aT ?_))
    refine dM (σ := Nat) [0, 1] (fun k => [(5, .int .i64 (k : Int))]) (fun k w' => (k ≤ n ∧ ∀ (j : Nat) (x : Body), j < k → xs[j]? = some x → ys[j]? = some x) ∧ Mem w [] [] w') (fun k => n - k) 0 (bB rfl dO) (⟨⟨by omega, fun j c hj => by omega⟩, M0⟩) ?_
    rintro k ρ1 w1 ⟨⟨hk, hne⟩, hM1⟩
    refine aH (aH (aB ?_))
    refine aA (aC (.int _ _) rfl) rfl rfl ?_
    refine aA (aC (.slice _ _ _) rfl) rfl rfl ?_
    refine aA (dE Tryz.underlying22 rfl) rfl rfl ?_
    refine aA (aN (.bool (decide _)) rfl rfl rfl) rfl rfl ?_
    refine aE (aF ?_)
    refine aX rfl (fun h14 => ?_) (fun h14 => ?_)
    · obtain ⟨xb, hxb⟩ := dA (k := k) hlen (by omega)
      obtain ⟨yb, hyb⟩ := dA (k := k) hlen' (by omega)
      refine aO (aF (aH (aT (aH ?_))))
      refine bY [(0, 0), (1, 0), (2, 1), (3, 1), (4, 0), (5, 0), (6, 1), (7, 1), (8, 0)] mixed rfl (by kernel_rfl) (fun w2 hb2 hh2 => ?_)
      have M2 := hM1.drew hb2 hh2
      refine aP rfl rfl rfl (fun _ => aC (.slice _ _ _) rfl) ?_
      refine aP rfl rfl rfl (fun _ => aC (.int _ _) rfl) ?_
      refine cB rfl rfl rfl (bN (k) cW rfl rfl rfl ((R.mem M2).below_len (aJ aI hxb)) ((R.mem M2).someK (aJ aI hxb))) ?_
      refine cB rfl rfl rfl (dG _ bP (R.mem M2) (aJ aI hxb) rfl) ?_
      refine aP rfl rfl rfl (fun _ => aC (.slice _ _ _) rfl) ?_
      refine aP rfl rfl rfl (fun _ => aC (.int _ _) rfl) ?_
      refine cB rfl rfl rfl (bN (k) cW rfl rfl rfl ((R'.mem M2).below_len (aJ aI hyb)) ((R'.mem M2).someK (aJ aI hyb))) ?_
      refine cB rfl rfl rfl (dG _ bP (R'.mem M2) (aJ aI hyb) rfl) ?_
      refine aP rfl rfl rfl (fun _ => bCi (aSe xb yb) rfl rfl) ?_
      refine cI ?_
      refine aF ?_
      refine aX rfl (fun h25 => ?_) (fun h25 => ?_)
      · refine aH (aB ?_)
        refine aA (aD (.bool false) rfl) rfl rfl ?_
        refine aE (aF (aU ?_))
        refine vE ?_
        refine dC ?_
        refine aCu ?_
        refine vE ?_
        refine dC ?_
        refine cU (.bool false) rfl ?_
        exact ⟨bF (fun e => h25 (by rw [e] at hxb; rw [hxb] at hyb; injection hyb)), M2.below⟩
      · refine aO ?_
        refine cS ?_
        refine aF (aB ?_)
        refine aA (aC (.int _ _) rfl) rfl rfl ?_
        refine aA (aZ rfl rfl (by omega) (by omega)) rfl rfl ?_
        refine aA (aD (.int _ _) rfl) rfl rfl ?_
        refine aE ?_
        refine cA (k + 1) (bB rfl dO) (cD rfl (cD rfl fS)) ?_ ?_
        · exact ⟨⟨by omega, vP (p := fun j x => ys[j]? = some x) hne hxb (by rw [hyb, Decidable.not_not.1 h25])⟩, M2⟩
        · omega
    · refine cQ ?_
      refine cX ?_
      refine dF ?_
      refine eJ ?_
      refine aF (aH (aB ?_))
      refine aA (aD (.bool true) rfl) rfl rfl ?_
      refine aE (aF (aU ?_))
      refine cU (.bool true) rfl ?_
      exact ⟨bT (List.ext_getElem? fun j => by
      by_cases hj : j < xs.length
      · obtain ⟨x, hx⟩ := dA (k := j) rfl hj
        rw [hx, hne j x (by omega) hx]
      · rw [List.getElem?_eq_none (by omega), List.getElem?_eq_none (by omega)]), hM1.below⟩
set_option maxHeartbeats 4000000 in
theorem aLi (w : World) (b : Body) (gone : Bool) (A : Option Addr) (n c : Nat) (xs : List Body) (R : Rd w 10 A n (xs.map aI)) (hn : n ≤ 1048576) :
    Calls Tryz.prog 90 #[.slice A n c, (.agg (aI b).toArray), .bool gone] w (fun ex w' => ∃ v, ex = .returned v ∧ (fun v w' => ∃ A' n' c' e, v = .slice A' n' c' ∧ bK 40 10 A' n' c' ((aCq xs b gone).map aI) e ∧ Mem w [] [e] w') v w') := by
  have hlen : xs.length = n := by simpa using R.len
  have hbd := R.bound
  refine aL #[.tmp 6] 55 Tryz.func90 rfl Tryz.results90 Tryz.ntmps90 rfl ?_
  have M0 := Mem.refl w
  refine aH (aB ?_)
  refine bM (.agg (List.toArray _)) M0 rfl rfl rfl (fun b1 w1 M1 => ?_)
  refine aA (aD (.slice _ _ _) rfl) rfl rfl ?_
  refine aE (aF (aH (aB ?_)))
  refine aA (aD (.slice _ _ _) rfl) rfl rfl ?_
  have M2 := M1.dummy default
  refine aE (aF (aH (aB ?_)))
  refine aA (aC (.bool _) rfl) rfl rfl ?_
  refine aA (aD (.bool _) rfl) rfl rfl ?_
  refine aE (aF (aH (aH (aB ?_))))
  refine aA (aD (.int _ _) rfl) rfl rfl ?_
  refine aE (aF (aT ?_))
  refine dM (σ := Nat × List Body × Bool × Row) [0, 4, 6] (fun (k, acc, done, r) => [(7, .slice r.A r.n r.c), (8, .bool done), (9, .int .i64 (k : Int))]) (fun (k, acc, done, r) w' => (k ≤ n ∧ gS b gone (xs.take k) = (acc, done) ∧ bK 40 10 r.A r.n r.c (acc.map aI) r.e) ∧ Mem w [] [(some b1, bc (aI b) 40), r.e] w') (fun (k, acc, done, r) => n - k) (0, [], gone, ⟨none, 0, 0, (none, default)⟩) (bB rfl (bB rfl (bB rfl dO))) (⟨⟨by omega, rfl, bK.nil _ _ _⟩, M2⟩) ?_
  rintro ⟨k, acc, done, r⟩ ρ3 w3 ⟨⟨hk, heq, hr⟩, hM3⟩
  have hra : acc.length = r.n := by simpa using hr.1
  have hrl : acc.length ≤ k + 1 := by have h := aHo b gone xs k; rw [heq] at h; exact h
  refine aH (aH (aB ?_))
  refine aA (aC (.int _ _) rfl) rfl rfl ?_
  refine aA (aC (.slice _ _ _) rfl) rfl rfl ?_
  refine aA (dE Tryz.underlying22 rfl) rfl rfl ?_
  refine aA (aN (.bool (decide _)) rfl rfl rfl) rfl rfl ?_
  refine aE (aF ?_)
  refine aX rfl (fun h14 => ?_) (fun h14 => ?_)
  · obtain ⟨xb, hxb⟩ := dA (k := k) hlen (by omega)
    refine aO (aF (aH (aT (aH (aH ?_)))))
    refine bY [(0, 0), (1, 0), (2, 0), (3, 0), (4, 0), (5, 1), (6, 1), (7, 1), (8, 0), (9, 1), (10, 0), (11, 0)] mixed rfl (by kernel_rfl) (fun w4 hb4 hh4 => ?_)
    have M4 := hM3.drew hb4 hh4
    refine aP rfl rfl rfl (fun _ => aC (.bool _) rfl) ?_
    refine aP rfl rfl rfl (fun _ => kF _ rfl rfl) ?_
    refine aP rfl rfl rfl (fun _ => aC (.bool _) rfl) ?_
    refine aKh 19 _ rfl (fun g19 => ?_) (fun g19 => ?_)
    · have hd : done = false := by simpa using g19
      refine aP rfl rfl rfl (fun _ => aC (.slice _ _ _) rfl) ?_
      refine aP rfl rfl rfl (fun _ => aC (.int _ _) rfl) ?_
      refine cB rfl rfl rfl (bN (k) cW rfl rfl rfl ((R.mem M4).below_len (aJ aI hxb)) ((R.mem M4).someK (aJ aI hxb))) ?_
      refine cB rfl rfl rfl (bG 0 dL (R.mem M4) (Nat.lt_of_le_of_lt (Nat.zero_le _) ((R.mem M4).below_len (aJ aI hxb))) rfl) ?_
      refine cB rfl rfl rfl (dR (o := 0) (.int _ _) cO (R.mem M4) (aJ aI hxb) rfl rfl) ?_
      refine aP rfl rfl rfl (fun _ => aG 0 dL rfl) ?_
      refine cB rfl rfl rfl (aQ 0 (.int _ _) cO M4 rfl rfl rfl) ?_
      refine aP rfl rfl rfl (fun _ => aN (.bool (decide _)) rfl rfl rfl) ?_
      refine aP rfl rfl rfl (fun _ => bQ true (.bool (decide _)) rfl rfl) ?_
      refine cI ?_
      refine aF ?_
      refine aX rfl (fun h28 => ?_) (fun h28 => ?_)
      · refine aH (aB ?_)
        refine aA (aD (.bool true) rfl) rfl rfl ?_
        refine aE (aF (aB ?_))
        refine aA (aC (.slice _ _ _) rfl) rfl rfl ?_
        refine aA (aR 0 bP M4 rfl rfl rfl) rfl rfl ?_
        refine cR [.agg (List.toArray _)] _ rfl cW M4 rfl rfl rfl rfl (cZ rfl) (by decide) (fun b5 w5 M5 => ?_)
        refine dB 1 [aI b] cW M5 rfl rfl rfl rfl rfl hr rfl (by simpa using ⟨iZ b, iA b⟩) (dD.ofMem 2 M5 rfl) (by omega) (fun A6 c6 e6 w6 M6 hR6 => ?_)
        refine aA (aD (.slice _ _ _) rfl) rfl rfl ?_
        refine aE (aF (aH ?_))
        refine bY [(0, 0), (1, 0), (2, 1), (3, 1), (4, 1), (5, 0), (6, 1), (7, 0)] mixed rfl (by kernel_rfl) (fun w7 hb7 hh7 => ?_)
        have M7 := M6.drew hb7 hh7
        refine aP rfl rfl rfl (fun _ => aC (.slice _ _ _) rfl) ?_
        refine aP rfl rfl rfl (fun _ => aC (.int _ _) rfl) ?_
        refine cB rfl rfl rfl (bN (k) cW rfl rfl rfl ((R.mem M7).below_len (aJ aI hxb)) ((R.mem M7).someK (aJ aI hxb))) ?_
        refine cB rfl rfl rfl (bG 0 dL (R.mem M7) (Nat.lt_of_le_of_lt (Nat.zero_le _) ((R.mem M7).below_len (aJ aI hxb))) rfl) ?_
        refine cB rfl rfl rfl (dR (o := 0) (.int _ _) cO (R.mem M7) (aJ aI hxb) rfl rfl) ?_
        refine aP rfl rfl rfl (fun _ => aG 0 dL rfl) ?_
        refine cB rfl rfl rfl (aQ 0 (.int _ _) cO M7 rfl rfl rfl) ?_
        refine aP rfl rfl rfl (fun _ => aN (.bool (decide _)) rfl rfl rfl) ?_
        refine cI ?_
        refine aF ?_
        refine aX rfl (fun h40 => ?_) (fun h40 => ?_)
        · refine aB ?_
          refine aA (aC (.slice _ _ _) rfl) rfl rfl ?_
          refine aA (aC (.slice _ _ _) rfl) rfl rfl ?_
          refine aA (aC (.int _ _) rfl) rfl rfl ?_
          refine aA (bN (k) cW rfl rfl rfl ((R.mem M7).below_len (aJ aI hxb)) ((R.mem M7).someK (aJ aI hxb))) rfl rfl ?_
          refine aA (dG _ bP (R.mem M7) (aJ aI hxb) rfl) rfl rfl ?_
          refine cR [.agg (List.toArray _)] _ rfl cW M7 rfl rfl rfl rfl (cZ rfl) (by decide) (fun b8 w8 M8 => ?_)
          refine dB 1 [aI xb] cW M8 rfl rfl rfl rfl rfl hR6 rfl (by simpa using ⟨iZ xb, iA xb⟩) (dD.ofMem 3 M8 rfl) (by omega) (fun A9 c9 e9 w9 M9 hR9 => ?_)
          refine aA (aD (.slice _ _ _) rfl) rfl rfl ?_
          refine aE ?_
          refine cS ?_
          refine aF (aB ?_)
          refine aA (aC (.int _ _) rfl) rfl rfl ?_
          refine aA (aZ rfl rfl (by omega) (by omega)) rfl rfl ?_
          refine aA (aD (.int _ _) rfl) rfl rfl ?_
          refine aE ?_
          refine cA (k + 1, (gS b gone (xs.take (k + 1))).1, (gS b gone (xs.take (k + 1))).2, ⟨A9, r.n + 1 + 1, c9, e9⟩) (bB rfl (bB (bv rfl (by rw [eV b gone hxb, heq]; simp [eK, *])) (bB rfl dO))) (cD rfl (cD rfl (cD rfl fS))) ?_ ?_
          · exact ⟨⟨by omega, rfl, by rw [eV b gone hxb, heq]; simpa [eK, *] using hR9⟩, M9.keep [true, true, false, false]⟩
          · (show n - (k + 1) < n - k; omega)
        · refine aO ?_
          refine cS ?_
          refine aF (aB ?_)
          refine aA (aC (.int _ _) rfl) rfl rfl ?_
          refine aA (aZ rfl rfl (by omega) (by omega)) rfl rfl ?_
          refine aA (aD (.int _ _) rfl) rfl rfl ?_
          refine aE ?_
          refine cA (k + 1, (gS b gone (xs.take (k + 1))).1, (gS b gone (xs.take (k + 1))).2, ⟨A6, r.n + 1, c6, e6⟩) (bB rfl (bB (bv rfl (by rw [eV b gone hxb, heq]; simp [eK, *])) (bB rfl dO))) (cD rfl (cD rfl (cD rfl fS))) ?_ ?_
          · exact ⟨⟨by omega, rfl, by rw [eV b gone hxb, heq]; simpa [eK, *] using hR6⟩, M7.keep [true, true, false]⟩
          · (show n - (k + 1) < n - k; omega)
      · refine aO (aF (aH ?_))
        refine bY [(0, 0), (1, 0), (2, 1), (3, 1), (4, 1), (5, 0), (6, 1), (7, 0)] mixed rfl (by kernel_rfl) (fun w10 hb10 hh10 => ?_)
        have M10 := M4.drew hb10 hh10
        refine aP rfl rfl rfl (fun _ => aC (.slice _ _ _) rfl) ?_
        refine aP rfl rfl rfl (fun _ => aC (.int _ _) rfl) ?_
        refine cB rfl rfl rfl (bN (k) cW rfl rfl rfl ((R.mem M10).below_len (aJ aI hxb)) ((R.mem M10).someK (aJ aI hxb))) ?_
        refine cB rfl rfl rfl (bG 0 dL (R.mem M10) (Nat.lt_of_le_of_lt (Nat.zero_le _) ((R.mem M10).below_len (aJ aI hxb))) rfl) ?_
        refine cB rfl rfl rfl (dR (o := 0) (.int _ _) cO (R.mem M10) (aJ aI hxb) rfl rfl) ?_
        refine aP rfl rfl rfl (fun _ => aG 0 dL rfl) ?_
        refine cB rfl rfl rfl (aQ 0 (.int _ _) cO M10 rfl rfl rfl) ?_
        refine aP rfl rfl rfl (fun _ => aN (.bool (decide _)) rfl rfl rfl) ?_
        refine cI ?_
        refine aF ?_
        refine aX rfl (fun h40 => ?_) (fun h40 => ?_)
        · refine aB ?_
          refine aA (aC (.slice _ _ _) rfl) rfl rfl ?_
          refine aA (aC (.slice _ _ _) rfl) rfl rfl ?_
          refine aA (aC (.int _ _) rfl) rfl rfl ?_
          refine aA (bN (k) cW rfl rfl rfl ((R.mem M10).below_len (aJ aI hxb)) ((R.mem M10).someK (aJ aI hxb))) rfl rfl ?_
          refine aA (dG _ bP (R.mem M10) (aJ aI hxb) rfl) rfl rfl ?_
          refine cR [.agg (List.toArray _)] _ rfl cW M10 rfl rfl rfl rfl (cZ rfl) (by decide) (fun b11 w11 M11 => ?_)
          refine dB 1 [aI xb] cW M11 rfl rfl rfl rfl rfl hr rfl (by simpa using ⟨iZ xb, iA xb⟩) (dD.ofMem 2 M11 rfl) (by omega) (fun A12 c12 e12 w12 M12 hR12 => ?_)
          refine aA (aD (.slice _ _ _) rfl) rfl rfl ?_
          refine aE ?_
          refine cS ?_
          refine aF (aB ?_)
          refine aA (aC (.int _ _) rfl) rfl rfl ?_
          refine aA (aZ rfl rfl (by omega) (by omega)) rfl rfl ?_
          refine aA (aD (.int _ _) rfl) rfl rfl ?_
          refine aE ?_
          refine cA (k + 1, (gS b gone (xs.take (k + 1))).1, (gS b gone (xs.take (k + 1))).2, ⟨A12, r.n + 1, c12, e12⟩) (bB rfl (bB (bv rfl (by rw [eV b gone hxb, heq]; simp [eK, *])) (bB rfl dO))) (cD rfl (cD rfl (cD rfl fS))) ?_ ?_
          · exact ⟨⟨by omega, rfl, by rw [eV b gone hxb, heq]; simpa [eK, *] using hR12⟩, M12.keep [true, true, false]⟩
          · (show n - (k + 1) < n - k; omega)
        · refine aO ?_
          refine cS ?_
          refine aF (aB ?_)
          refine aA (aC (.int _ _) rfl) rfl rfl ?_
          refine aA (aZ rfl rfl (by omega) (by omega)) rfl rfl ?_
          refine aA (aD (.int _ _) rfl) rfl rfl ?_
          refine aE ?_
          refine cA (k + 1, (gS b gone (xs.take (k + 1))).1, (gS b gone (xs.take (k + 1))).2, r) (bB rfl (bB (bv rfl (by rw [eV b gone hxb, heq]; simp [eK, *])) (bB rfl dO))) (cD rfl (cD rfl (cD rfl fS))) ?_ ?_
          · exact ⟨⟨by omega, rfl, by rw [eV b gone hxb, heq]; simpa [eK, *] using hr⟩, M10.keep [true, true]⟩
          · (show n - (k + 1) < n - k; omega)
    · have hd : done = true := by simpa using g19
      refine D_s rfl rfl rfl ?_
      refine D_s rfl rfl rfl ?_
      refine vC rfl rfl rfl ?_
      refine vC rfl rfl rfl ?_
      refine vC rfl rfl rfl ?_
      refine D_s rfl rfl rfl ?_
      refine vC rfl rfl rfl ?_
      refine D_s rfl rfl rfl ?_
      refine aP rfl rfl rfl (fun _ => bQ false (.bool false) rfl rfl) ?_
      refine cI ?_
      refine aF ?_
      refine cP rfl ?_
      refine aO (aF (aH ?_))
      refine bY [(0, 0), (1, 0), (2, 1), (3, 1), (4, 1), (5, 0), (6, 1), (7, 0)] mixed rfl (by kernel_rfl) (fun w13 hb13 hh13 => ?_)
      have M13 := M4.drew hb13 hh13
      refine aP rfl rfl rfl (fun _ => aC (.slice _ _ _) rfl) ?_
      refine aP rfl rfl rfl (fun _ => aC (.int _ _) rfl) ?_
      refine cB rfl rfl rfl (bN (k) cW rfl rfl rfl ((R.mem M13).below_len (aJ aI hxb)) ((R.mem M13).someK (aJ aI hxb))) ?_
      refine cB rfl rfl rfl (bG 0 dL (R.mem M13) (Nat.lt_of_le_of_lt (Nat.zero_le _) ((R.mem M13).below_len (aJ aI hxb))) rfl) ?_
      refine cB rfl rfl rfl (dR (o := 0) (.int _ _) cO (R.mem M13) (aJ aI hxb) rfl rfl) ?_
      refine aP rfl rfl rfl (fun _ => aG 0 dL rfl) ?_
      refine cB rfl rfl rfl (aQ 0 (.int _ _) cO M13 rfl rfl rfl) ?_
      refine aP rfl rfl rfl (fun _ => aN (.bool (decide _)) rfl rfl rfl) ?_
      refine cI ?_
      refine aF ?_
      refine aX rfl (fun h40 => ?_) (fun h40 => ?_)
      · refine aB ?_
        refine aA (aC (.slice _ _ _) rfl) rfl rfl ?_
        refine aA (aC (.slice _ _ _) rfl) rfl rfl ?_
        refine aA (aC (.int _ _) rfl) rfl rfl ?_
        refine aA (bN (k) cW rfl rfl rfl ((R.mem M13).below_len (aJ aI hxb)) ((R.mem M13).someK (aJ aI hxb))) rfl rfl ?_
        refine aA (dG _ bP (R.mem M13) (aJ aI hxb) rfl) rfl rfl ?_
        refine cR [.agg (List.toArray _)] _ rfl cW M13 rfl rfl rfl rfl (cZ rfl) (by decide) (fun b14 w14 M14 => ?_)
        refine dB 1 [aI xb] cW M14 rfl rfl rfl rfl rfl hr rfl (by simpa using ⟨iZ xb, iA xb⟩) (dD.ofMem 2 M14 rfl) (by omega) (fun A15 c15 e15 w15 M15 hR15 => ?_)
        refine aA (aD (.slice _ _ _) rfl) rfl rfl ?_
        refine aE ?_
        refine cS ?_
        refine aF (aB ?_)
        refine aA (aC (.int _ _) rfl) rfl rfl ?_
        refine aA (aZ rfl rfl (by omega) (by omega)) rfl rfl ?_
        refine aA (aD (.int _ _) rfl) rfl rfl ?_
        refine aE ?_
        refine cA (k + 1, (gS b gone (xs.take (k + 1))).1, (gS b gone (xs.take (k + 1))).2, ⟨A15, r.n + 1, c15, e15⟩) (bB rfl (bB (bv rfl (by rw [eV b gone hxb, heq]; simp [eK, *])) (bB rfl dO))) (cD rfl (cD rfl (cD rfl fS))) ?_ ?_
        · exact ⟨⟨by omega, rfl, by rw [eV b gone hxb, heq]; simpa [eK, *] using hR15⟩, M15.keep [true, true, false]⟩
        · (show n - (k + 1) < n - k; omega)
      · refine aO ?_
        refine cS ?_
        refine aF (aB ?_)
        refine aA (aC (.int _ _) rfl) rfl rfl ?_
        refine aA (aZ rfl rfl (by omega) (by omega)) rfl rfl ?_
        refine aA (aD (.int _ _) rfl) rfl rfl ?_
        refine aE ?_
        refine cA (k + 1, (gS b gone (xs.take (k + 1))).1, (gS b gone (xs.take (k + 1))).2, r) (bB rfl (bB (bv rfl (by rw [eV b gone hxb, heq]; simp [eK, *])) (bB rfl dO))) (cD rfl (cD rfl (cD rfl fS))) ?_ ?_
        · exact ⟨⟨by omega, rfl, by rw [eV b gone hxb, heq]; simpa [eK, *] using hr⟩, M13.keep [true, true]⟩
        · (show n - (k + 1) < n - k; omega)
  · have hkn : k = n := by omega
    subst hkn
    rw [List.take_of_length_le (by omega)] at heq
    refine cQ ?_
    refine cX ?_
    refine dF ?_
    refine eJ ?_
    refine aF (aH (aH (aB ?_)))
    refine aA (aC (.bool _) rfl) rfl rfl ?_
    refine aA (kF _ rfl rfl) rfl rfl ?_
    refine aE (aF ?_)
    refine iG _ rfl (fun h49 => ?_) (fun h49 => ?_)
    · have hd : done = false := by simpa using h49
      refine aB ?_
      refine aA (aC (.slice _ _ _) rfl) rfl rfl ?_
      refine aA (aR 0 bP hM3 rfl rfl rfl) rfl rfl ?_
      refine cR [.agg (List.toArray _)] _ rfl cW hM3 rfl rfl rfl rfl (cZ rfl) (by decide) (fun b16 w16 M16 => ?_)
      refine dB 1 [aI b] cW M16 rfl rfl rfl rfl rfl hr rfl (by simpa using ⟨iZ b, iA b⟩) (dD.ofMem 2 M16 rfl) (by omega) (fun A17 c17 e17 w17 M17 hR17 => ?_)
      refine aA (aD (.slice _ _ _) rfl) rfl rfl ?_
      refine aE (aF (aH (aB ?_)))
      refine aA (aC (.slice _ _ _) rfl) rfl rfl ?_
      refine aA (aD (.slice _ _ _) rfl) rfl rfl ?_
      refine aE (aF (aU ?_))
      refine cU (.slice _ _ _) rfl ?_
      exact ⟨_, _, _, _, rfl, by unfold aCq; rw [heq]; simpa [*] using hR17, M17.keep [false, true, false]⟩
    · have hd : done = true := by simpa using h49
      refine aO (aF (aH (aB ?_)))
      refine aA (aC (.slice _ _ _) rfl) rfl rfl ?_
      refine aA (aD (.slice _ _ _) rfl) rfl rfl ?_
      refine aE (aF (aU ?_))
      refine cU (.slice _ _ _) rfl ?_
      exact ⟨_, _, _, _, rfl, by unfold aCq; rw [heq]; simpa [*] using hr, hM3.keep [false, true]⟩
end Go.Proofs.YtlmcphcgiclanaaGreatDoor

namespace Go.Proofs.YtlmcphcgiclanaaGreatDoor
open Go.Bil
open Go.RowKit (Below)
open Go.Proofs
end Go.Proofs.YtlmcphcgiclanaaGreatDoor

namespace Go.Proofs.YtlmcphcgiclanaaGreatDoor
open Go.Bil
open Go.RowKit (Below)
open Go.Proofs
set_option maxHeartbeats 4000000 in
theorem uJ (w : World) (x : Int) :
    Calls Tryz.prog 121 #[.int .u32 x] w (fun ex w' => ∃ v, ex = .returned v ∧ (fun v w' => v = .bool false ∧ w' = w) v w') := by
  refine aL #[.tmp 2] 6 Tryz.func121 rfl Tryz.results121 Tryz.ntmps121 rfl ?_
  have M0 := Mem.refl w
  refine aH (aB ?_)
  refine aA (aD (.bool false) rfl) rfl rfl ?_
  refine aE (aF (aH (aB ?_)))
  refine aA (aC (.int _ _) rfl) rfl rfl ?_
  refine aA (aC (.int _ _) rfl) rfl rfl ?_
  refine aA (aN (.bool (decide _)) rfl rfl rfl) rfl rfl ?_
  refine aA (aD (.bool (decide _)) rfl) rfl rfl ?_
  refine aE (aF (aU ?_))
  refine cU (.bool (decide _)) rfl ?_
  exact ⟨(bF (by omega)).symm, rfl⟩
set_option maxHeartbeats 4000000 in
theorem mR (w : World) (x y : Int) :
    Calls Tryz.prog 97 #[.int .u32 x, .int .u32 y] w (fun ex w' => ∃ v, ex = .returned v ∧ (fun v w' => v = .int .i64 (oJ x y) ∧ w' = w) v w') := by
  refine aL #[.tmp 4] 20 Tryz.func97 rfl Tryz.results97 Tryz.ntmps97 rfl ?_
  have M0 := Mem.refl w
  refine aH (aB ?_)
  refine aA (aD (.int _ _) rfl) rfl rfl ?_
  refine aE (aF (aH (aB ?_)))
  refine aA (aC (.int _ _) rfl) rfl rfl ?_
  refine aM aRm rfl rfl rfl ?_
  refine (uJ _ _).mono ?_
  rintro _ w1 ⟨v1, rfl, ⟨rfl, rfl⟩⟩
  refine ⟨_, rfl, ?_⟩
  have M1 : Mem _ _ [] _ := M0
  refine aA (aD (.bool false) rfl) rfl rfl ?_
  refine aE (aF (aH (aB ?_)))
  refine aA (aC (.int _ _) rfl) rfl rfl ?_
  refine aM aRm rfl rfl rfl ?_
  refine (uJ _ _).mono ?_
  rintro _ w2 ⟨v2, rfl, ⟨rfl, rfl⟩⟩
  refine ⟨_, rfl, ?_⟩
  have M2 : Mem _ _ [] _ := M1
  refine aA (aD (.bool false) rfl) rfl rfl ?_
  refine aE (aF (aH (aH (aB ?_))))
  refine aA (aC (.bool false) rfl) rfl rfl ?_
  refine aE (aF ?_)
  refine cP rfl ?_
  refine aO (aF (aH (aH (aB ?_))))
  refine aA (aC (.bool false) rfl) rfl rfl ?_
  refine aE (aF ?_)
  refine cP rfl ?_
  refine aO (aF (aH (aH (aB ?_))))
  refine aA (aC (.int _ _) rfl) rfl rfl ?_
  refine aA (aC (.int _ _) rfl) rfl rfl ?_
  refine aA (aN (.bool (decide _)) rfl rfl rfl) rfl rfl ?_
  refine aE (aF ?_)
  refine aX rfl (fun h16 => ?_) (fun h16 => ?_)
  · refine aH (aB ?_)
    refine aA (aD (.int _ _) rfl) rfl rfl ?_
    refine aE (aF (aU (dC ?_)))
    refine cU (.int _ _) rfl ?_
    exact ⟨iE (by unfold oJ; (repeat' split) <;> omega), rfl⟩
  · refine aO (aF (aH (aH (aB ?_))))
    refine aA (aC (.int _ _) rfl) rfl rfl ?_
    refine aA (aC (.int _ _) rfl) rfl rfl ?_
    refine aA (aN (.bool (decide _)) rfl rfl rfl) rfl rfl ?_
    refine aE (aF ?_)
    refine aX rfl (fun h19 => ?_) (fun h19 => ?_)
    · refine aH (aB ?_)
      refine aA (aD (.int _ _) rfl) rfl rfl ?_
      refine aE (aF (aU (dC ?_)))
      refine cU (.int _ _) rfl ?_
      exact ⟨iE (by unfold oJ; (repeat' split) <;> omega), rfl⟩
    · refine aO (aF (aH (aB ?_)))
      refine aA (aD (.int _ _) rfl) rfl rfl ?_
      refine aE (aF (aU ?_))
      refine cU (.int _ _) rfl ?_
      exact ⟨iE (by unfold oJ; (repeat' split) <;> omega), rfl⟩
set_option maxHeartbeats 4000000 in
theorem yX (w : World) (A : Option Addr) (n c : Nat) (ls : List (List Value)) (R : Rd w 10 A n ls) (h1 : ∀ y ∈ ls, ∀ u ∈ y, one u = true) (hn : n ≤ 1048576) :
    Calls Tryz.prog 49 #[.slice A n c] w (fun ex w' => ∃ v, ex = .returned v ∧ (fun v w' => ∃ A' n' c' e, v = .slice A' n' c' ∧ bK 40 10 A' n' c' ls e ∧ Mem w [] [e] w' ∧ A'.isSome = A.isSome) v w') := by
  refine aL #[.tmp 2] 8 Tryz.func49 rfl Tryz.results49 Tryz.ntmps49 rfl ?_
  have M0 := Mem.refl w
  refine aH (aB ?_)
  refine aA (aD (.slice _ _ _) rfl) rfl rfl ?_
  refine aE (aF (aH (aH (aB ?_))))
  refine aA (aC (.slice _ _ _) rfl) rfl rfl ?_
  refine aA (aBk _ Tryz.underlying22 rfl rfl) rfl rfl ?_
  refine aE (aF ?_)
  refine iG _ rfl (fun h4 => ?_) (fun h4 => ?_)
  · refine aH (aB ?_)
    refine aA (aD (.slice _ _ _) rfl) rfl rfl ?_
    refine aE (aF (aU (dC ?_)))
    refine cU (.slice _ _ _) rfl ?_
    have hA : A = none := by cases A <;> simp_all
    have hl : ls = [] := by
      rcases Nat.eq_zero_or_pos n with h | h
      · subst h; exact List.eq_nil_of_length_eq_zero R.len
      · have := R.some h; rw [hA] at this; cases this
    subst hA; subst hl
    exact ⟨_, _, _, _, rfl, bK.nil 40 10 default, M0.dummy default, rfl⟩
  · refine aO (aF (aH (aB ?_)))
    refine cR [] [] rfl cW M0 rfl rfl rfl rfl (cZ rfl) (by decide) (fun b1 w1 M1 => ?_)
    refine aA (aC (.slice _ _ _) rfl) rfl rfl ?_
    refine aJb 0 ls cW M1 rfl rfl rfl rfl rfl (bK.empty b1) (R.mem M1) h1 (by omega) (fun A2 c2 e2 w2 M2 hR2 hA2 => ?_)
    have hAA := hA2
    refine aA (aD (.slice _ _ _) rfl) rfl rfl ?_
    refine aE (aF (aU ?_))
    refine cU (.slice _ _ _) rfl ?_
    refine ⟨_, _, _, _, rfl, by simpa using hR2, M2, ?_⟩
    rw [hAA rfl]; cases A <;> simp_all
end Go.Proofs.YtlmcphcgiclanaaGreatDoor

namespace Go.Proofs.YtlmcphcgiclanaaGreatDoor
open Go.Bil
open Go.RowKit (Below)
open Go.Proofs
end Go.Proofs.YtlmcphcgiclanaaGreatDoor
