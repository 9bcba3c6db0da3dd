/- Part of the proof of the laws of this seat: Ty, T26, T25, T20, T20r, T20l, R5, R6, Bd, Lib, St. No conditions. -/
import Derived.Test.YtlmcphcgiclanaaGreatDoorProg
import Derived.Test.YtlmcphcgiclanaaGreatDoorK2
import Derived.Test.YtlmcphcgiclanaaGreatDoorK3
import Derived.Test.YtlmcphcgiclanaaGreatDoorK4
import Derived.KernelRfl
set_option linter.unusedVariables false
set_option linter.unusedSimpArgs false
set_option linter.unnecessarySimpa false
namespace Go.Proofs.YtlmcphcgiclanaaGreatDoor
open Go.Bil
open Go.Proofs
theorem cR : gH Tryz.prog 36 = true := by kernel_rfl
theorem bH : gH Tryz.prog 21 = true := by kernel_rfl
theorem aFd : ∀ (d : Nat) (w : World) (x0 x1 y0 y1 : Int), (Op.equalIn (d + 2) 38 (.agg [.int .i32 x0, .int .i32 x1].toArray) (.agg [.int .i32 y0, .int .i32 y1].toArray)).run Tryz.prog w = .ok (decide (x0 = y0 ∧ x1 = y1)) w := fun d w x0 x1 y0 y1 => by
    have h := nB (P := Tryz.prog) (T := 38) (dd := d + 1) (xs := [.int .i32 x0, .int .i32 x1]) (ys := [.int .i32 y0, .int .i32 y1]) (w := w) Tryz.underlying38 (by kernel_rfl) (eG rfl (fD bH rfl) (fD bH rfl) (kL (dd := d + 0) Tryz.underlying21) (eG rfl (fD bH rfl) (fD bH rfl) (kL (dd := d + 0) Tryz.underlying21) (rZ)))
    refine h.trans (congrArg (fun r => Result.ok r w) ?_)
    simp only [Bool.decide_and, Bool.and_true, Bool.and_assoc]
theorem bI : gS Tryz.prog 38 = some 2 := by kernel_rfl
theorem aWs : ∀ (d : Nat) (w : World) (x0 x1 x2 x3 x4 x5 x6 x7 x8 x9 y0 y1 y2 y3 y4 y5 y6 y7 y8 y9 : Int), (Op.equalIn (d + 3) 40 (.agg [.int .u32 x0, .int .i32 x1, .int .i32 x2, .int .i32 x3, .int .i32 x4, .int .i32 x5, .int .i32 x6, .int .i32 x7, .int .i32 x8, .int .i32 x9].toArray) (.agg [.int .u32 y0, .int .i32 y1, .int .i32 y2, .int .i32 y3, .int .i32 y4, .int .i32 y5, .int .i32 y6, .int .i32 y7, .int .i32 y8, .int .i32 y9].toArray)).run Tryz.prog w = .ok (decide (x0 = y0 ∧ x1 = y1 ∧ x2 = y2 ∧ x3 = y3 ∧ x4 = y4 ∧ x5 = y5 ∧ x6 = y6 ∧ x7 = y7 ∧ x8 = y8 ∧ x9 = y9)) w := fun d w x0 x1 x2 x3 x4 x5 x6 x7 x8 x9 y0 y1 y2 y3 y4 y5 y6 y7 y8 y9 => by
    have h := nB (P := Tryz.prog) (T := 40) (dd := d + 2) (xs := [.int .u32 x0, .int .i32 x1, .int .i32 x2, .int .i32 x3, .int .i32 x4, .int .i32 x5, .int .i32 x6, .int .i32 x7, .int .i32 x8, .int .i32 x9]) (ys := [.int .u32 y0, .int .i32 y1, .int .i32 y2, .int .i32 y3, .int .i32 y4, .int .i32 y5, .int .i32 y6, .int .i32 y7, .int .i32 y8, .int .i32 y9]) (w := w) Tryz.underlying40 (by kernel_rfl) (eG rfl (fD cR rfl) (fD cR rfl) (kL (dd := d + 1) Tryz.underlying36) (eG rfl (fD bH rfl) (fD bH rfl) (kL (dd := d + 1) Tryz.underlying21) (eG rfl (tK bI rfl) (tK bI rfl) (aFd (d + 0) w x2 x3 y2 y3) (eG rfl (fD bH rfl) (fD bH rfl) (kL (dd := d + 1) Tryz.underlying21) (eG rfl (fD bH rfl) (fD bH rfl) (kL (dd := d + 1) Tryz.underlying21) (eG rfl (tK bI rfl) (tK bI rfl) (aFd (d + 0) w x6 x7 y6 y7) (eG rfl (tK bI rfl) (tK bI rfl) (aFd (d + 0) w x8 x9 y8 y9) (rZ))))))))
    refine h.trans (congrArg (fun r => Result.ok r w) ?_)
    simp only [Bool.decide_and, Bool.and_true, Bool.and_assoc]
theorem aXb : ∀ (x0 x1 x2 x3 x4 x5 x6 x7 x8 x9 y0 y1 y2 y3 y4 y5 y6 y7 y8 y9 : Int), EqA Tryz.prog 40 [.int .u32 x0, .int .i32 x1, .int .i32 x2, .int .i32 x3, .int .i32 x4, .int .i32 x5, .int .i32 x6, .int .i32 x7, .int .i32 x8, .int .i32 x9] [.int .u32 y0, .int .i32 y1, .int .i32 y2, .int .i32 y3, .int .i32 y4, .int .i32 y5, .int .i32 y6, .int .i32 y7, .int .i32 y8, .int .i32 y9] (decide (x0 = y0 ∧ x1 = y1 ∧ x2 = y2 ∧ x3 = y3 ∧ x4 = y4 ∧ x5 = y5 ∧ x6 = y6 ∧ x7 = y7 ∧ x8 = y8 ∧ x9 = y9)) := fun x0 x1 x2 x3 x4 x5 x6 x7 x8 x9 y0 y1 y2 y3 y4 y5 y6 y7 y8 y9 => ⟨by kernel_rfl, fun w => aWs 9997 w x0 x1 x2 x3 x4 x5 x6 x7 x8 x9 y0 y1 y2 y3 y4 y5 y6 y7 y8 y9⟩
theorem bW : gS Tryz.prog 40 = some 10 := by kernel_rfl
theorem aVh : ∀ (d : Nat) (w : World) (x0 x1 y0 y1 : Int), (Op.equalIn (d + 2) 119 (.agg [.int .u32 x0, .int .u32 x1].toArray) (.agg [.int .u32 y0, .int .u32 y1].toArray)).run Tryz.prog w = .ok (decide (x0 = y0 ∧ x1 = y1)) w := fun d w x0 x1 y0 y1 => by
    have h := nB (P := Tryz.prog) (T := 119) (dd := d + 1) (xs := [.int .u32 x0, .int .u32 x1]) (ys := [.int .u32 y0, .int .u32 y1]) (w := w) Tryz.underlying119 (by kernel_rfl) (eG rfl (fD cR rfl) (fD cR rfl) (kL (dd := d + 0) Tryz.underlying36) (eG rfl (fD cR rfl) (fD cR rfl) (kL (dd := d + 0) Tryz.underlying36) (rZ)))
    refine h.trans (congrArg (fun r => Result.ok r w) ?_)
    simp only [Bool.decide_and, Bool.and_true, Bool.and_assoc]
theorem aTn : ∀ (x0 x1 y0 y1 : Int), EqA Tryz.prog 119 [.int .u32 x0, .int .u32 x1] [.int .u32 y0, .int .u32 y1] (decide (x0 = y0 ∧ x1 = y1)) := fun x0 x1 y0 y1 => ⟨by kernel_rfl, fun w => aVh 9998 w x0 x1 y0 y1⟩
theorem eT : gS Tryz.prog 119 = some 2 := by kernel_rfl
theorem aTs : aQ Tryz.prog 170 = true := by kernel_rfl
theorem aWl : iO Tryz.prog 119 = some (.agg [.int .u32 0, .int .u32 0].toArray) := by kernel_rfl
theorem kT : gH Tryz.prog 3 = true := by kernel_rfl
theorem lV : gH Tryz.prog 4 = true := by kernel_rfl
theorem mY : eO Tryz.prog 40 1 1 = true := by kernel_rfl
theorem jQ : eO Tryz.prog 40 2 2 = true := by kernel_rfl
theorem dQ : eO Tryz.prog 38 0 0 = true := by kernel_rfl
theorem wO : aQ Tryz.prog 55 = true := by kernel_rfl
theorem dH : eO Tryz.prog 38 1 1 = true := by kernel_rfl
theorem fB : eO Tryz.prog 40 3 4 = true := by kernel_rfl
theorem sK : eO Tryz.prog 40 4 5 = true := by kernel_rfl
theorem eK : eO Tryz.prog 40 5 6 = true := by kernel_rfl
theorem eF : eO Tryz.prog 40 6 8 = true := by kernel_rfl
theorem dD : eD Tryz.prog 22 40 10 40 = true := by kernel_rfl
theorem dR : eO Tryz.prog 40 0 0 = true := by kernel_rfl
theorem mixed : Tryz.prog.follows .mixedOrders = true := by kernel_rfl
theorem jX : gH Tryz.prog 22 = true := by kernel_rfl
theorem kD : fK Tryz.prog 40 = some [.int .u32 0, .int .i32 0, .int .i32 0, .int .i32 0, .int .i32 0, .int .i32 0, .int .i32 0, .int .i32 0, .int .i32 0, .int .i32 0] := by kernel_rfl
theorem lC : fL Tryz.prog 40 [.int .u32 0, .int .i32 0, .int .i32 0, .int .i32 0, .int .i32 0, .int .i32 0, .int .i32 0, .int .i32 0, .int .i32 0, .int .i32 0] [(0, 1), (1, 1), (2, 2), (4, 1), (5, 1), (6, 2), (8, 2)] := dW Tryz.underlying40 (by kernel_rfl) (by kernel_rfl) (by kernel_rfl)
theorem aLc : aQ Tryz.prog 121 = true := by kernel_rfl
theorem aNe : aQ Tryz.prog 97 = true := by kernel_rfl
theorem aWm : aQ Tryz.prog 49 = true := by kernel_rfl
theorem aRr : aQ Tryz.prog 24 = true := by kernel_rfl
theorem aVu : aQ Tryz.prog 38 = true := by kernel_rfl
theorem aWd : aQ Tryz.prog 90 = true := by kernel_rfl
theorem aWh : aQ Tryz.prog 59 = true := by kernel_rfl
theorem aRt : aQ Tryz.prog 50 = true := by kernel_rfl
theorem aWt : aQ Tryz.prog 36 = true := by kernel_rfl
theorem us3 : (Tryz.prog.underlying 3).isSome = true := by kernel_rfl
theorem aWy : (Tryz.prog.underlying 136).isSome = true := by kernel_rfl
theorem aKw : aQ Tryz.prog 140 = true := by kernel_rfl
theorem aTm : aQ Tryz.prog 139 = true := by kernel_rfl
theorem aNm : aQ Tryz.prog 215 = true := by kernel_rfl
theorem zE : fK Tryz.prog 193 = some [.int .i32 0, .int .i32 0, .int .i32 0, .int .i32 0] := by kernel_rfl
theorem aUz : aQ Tryz.prog 190 = true := by kernel_rfl
theorem xF : fL Tryz.prog 193 [.int .i32 0, .int .i32 0, .int .i32 0, .int .i32 0] [(0, 1), (1, 1), (2, 1), (3, 1)] := dW Tryz.underlying193 (by kernel_rfl) (by kernel_rfl) (by kernel_rfl)
theorem fX : gS Tryz.prog 193 = some 4 := by kernel_rfl
theorem oY : eO Tryz.prog 193 0 0 = true := by kernel_rfl
theorem pA : eO Tryz.prog 193 2 2 = true := by kernel_rfl
theorem pN : eO Tryz.prog 193 1 1 = true := by kernel_rfl
theorem pM : eO Tryz.prog 193 3 3 = true := by kernel_rfl
theorem aEe : aQ Tryz.prog 192 = true := by kernel_rfl
theorem aSx : aQ Tryz.prog 193 = true := by kernel_rfl
theorem lI : fK Tryz.prog 226 = some [.int .i32 0, .int .i32 0] := by kernel_rfl
theorem xC : fL Tryz.prog 226 [.int .i32 0, .int .i32 0] [(0, 1), (1, 1)] := dW Tryz.underlying226 (by kernel_rfl) (by kernel_rfl) (by kernel_rfl)
theorem fH : gS Tryz.prog 226 = some 2 := by kernel_rfl
theorem dY : fL Tryz.prog 38 [.int .i32 0, .int .i32 0] [(0, 1), (1, 1)] := dW Tryz.underlying38 (by kernel_rfl) (by kernel_rfl) (by kernel_rfl)
theorem aNc : aQ Tryz.prog 229 = true := by kernel_rfl
theorem aSz : aQ Tryz.prog 216 = true := by kernel_rfl
theorem aLd : fK Tryz.prog 4 = some [.bool false] := by kernel_rfl
theorem uO : eO Tryz.prog 226 1 1 = true := by kernel_rfl
theorem tN : eO Tryz.prog 226 0 0 = true := by kernel_rfl
theorem aPj : fK Tryz.prog 224 = some [.slice none 0 0] := by kernel_rfl
theorem aTy : aQ Tryz.prog 191 = true := by kernel_rfl
theorem aVc : aQ Tryz.prog 217 = true := by kernel_rfl
theorem aCz : gH Tryz.prog 224 = true := by kernel_rfl
theorem aKn : eD Tryz.prog 224 226 2 8 = true := by kernel_rfl
theorem fQ : (Tryz.prog.underlying 21).isSome = true := by kernel_rfl
theorem aLw : vO Tryz.prog 270 2 36 1 = true := by kernel_rfl
theorem aXo : (Tryz.prog.underlying 36).isSome = true := by kernel_rfl
theorem aUb : aQ Tryz.prog 206 = true := by kernel_rfl
theorem us2 : (Tryz.prog.underlying 2).isSome = true := by kernel_rfl
theorem wG : (Tryz.prog.underlying 170).isSome = true := by kernel_rfl
theorem mD : aQ Tryz.prog 179 = true := by kernel_rfl
theorem aEa : aQ Tryz.prog 178 = true := by kernel_rfl
theorem aKs : aQ Tryz.prog 180 = true := by kernel_rfl
theorem yY : aQ Tryz.prog 181 = true := by kernel_rfl
theorem yI : aQ Tryz.prog 207 = true := by kernel_rfl
theorem aKh : aQ Tryz.prog 201 = true := by kernel_rfl
theorem aDr : aQ Tryz.prog 173 = true := by kernel_rfl
theorem aTo : aQ Tryz.prog 203 = true := by kernel_rfl
theorem fY : fK Tryz.prog 38 = some [.int .i32 0, .int .i32 0] := by kernel_rfl
theorem aMb : aQ Tryz.prog 175 = true := by kernel_rfl
theorem aNb : aQ Tryz.prog 202 = true := by kernel_rfl
theorem tQ : aQ Tryz.prog 200 = true := by kernel_rfl
theorem jE : gH Tryz.prog 2 = true := by kernel_rfl
theorem yJ : aQ Tryz.prog 141 = true := by kernel_rfl
theorem aUa : aQ Tryz.prog 244 = true := by kernel_rfl
theorem tM : fK Tryz.prog 2 = some [.int .i64 0] := by kernel_rfl
theorem aKl : aQ Tryz.prog 245 = true := by kernel_rfl
theorem mQ : gH Tryz.prog 170 = true := by kernel_rfl
theorem aQu : fK Tryz.prog 170 = some [.int .u64 0] := by kernel_rfl
theorem pZ : vO Tryz.prog 318 2 38 2 = true := by kernel_rfl
theorem aFh : fK Tryz.prog 318 = some [.int .i32 0, .int .i32 0, .int .i32 0, .int .i32 0] := by kernel_rfl
theorem yM : aQ Tryz.prog 239 = true := by kernel_rfl
theorem xO : aQ Tryz.prog 238 = true := by kernel_rfl
theorem aTl : aQ Tryz.prog 221 = true := by kernel_rfl
theorem oX : fK Tryz.prog 239 = some [.int .u32 0, .int .i32 0, .int .i32 0, .int .i32 0, .int .i32 0, .int .i32 0, .int .i32 0, .int .i32 0, .int .i32 0, .int .i32 0, .int .i32 0, .int .i32 0, .int .i32 0, .int .i32 0] := by kernel_rfl
theorem aVi : aQ Tryz.prog 220 = true := by kernel_rfl
theorem aIu : fL Tryz.prog 239 [.int .u32 0, .int .i32 0, .int .i32 0, .int .i32 0, .int .i32 0, .int .i32 0, .int .i32 0, .int .i32 0, .int .i32 0, .int .i32 0, .int .i32 0, .int .i32 0, .int .i32 0, .int .i32 0] [(0, 10), (10, 2), (12, 2)] := dW Tryz.underlying239 (by kernel_rfl) (by kernel_rfl) (by kernel_rfl)
theorem iM : gS Tryz.prog 239 = some 14 := by kernel_rfl
theorem yE : aQ Tryz.prog 198 = true := by kernel_rfl
theorem aAl : eO Tryz.prog 239 1 10 = true := by kernel_rfl
theorem aAa : eO Tryz.prog 239 2 12 = true := by kernel_rfl
theorem aSn : aQ Tryz.prog 199 = true := by kernel_rfl
theorem oW : eO Tryz.prog 239 0 0 = true := by kernel_rfl
theorem oL : fK Tryz.prog 121 = some [.int .u32 0, .int .u32 0, .int .i32 0, .int .i32 0, .int .i32 0] := by kernel_rfl
theorem aTu : aQ Tryz.prog 171 = true := by kernel_rfl
theorem aTw : aQ Tryz.prog 172 = true := by kernel_rfl
theorem wY : fL Tryz.prog 121 [.int .u32 0, .int .u32 0, .int .i32 0, .int .i32 0, .int .i32 0] [(0, 2), (2, 2), (4, 1)] := dW Tryz.underlying121 (by kernel_rfl) (by kernel_rfl) (by kernel_rfl)
theorem eX : gS Tryz.prog 121 = some 5 := by kernel_rfl
theorem wH : fL Tryz.prog 119 [.int .u32 0, .int .u32 0] [(0, 1), (1, 1)] := dW Tryz.underlying119 (by kernel_rfl) (by kernel_rfl) (by kernel_rfl)
theorem mX : fK Tryz.prog 119 = some [.int .u32 0, .int .u32 0] := by kernel_rfl
theorem aVo : aQ Tryz.prog 174 = true := by kernel_rfl
theorem aCk : eO Tryz.prog 191 1 1024 = true := by kernel_rfl
theorem aVd : aQ Tryz.prog 161 = true := by kernel_rfl
theorem aSl : aQ Tryz.prog 162 = true := by kernel_rfl
theorem aLp : zM Tryz.prog 223 3 4 .i64 = true := by kernel_rfl
theorem zv4 : iO Tryz.prog 4 = some (.bool false) := by kernel_rfl
theorem tC : eO Tryz.prog 191 0 0 = true := by kernel_rfl
theorem aEh : vO Tryz.prog 189 1024 188 1 = true := by kernel_rfl
theorem yK : gH Tryz.prog 188 = true := by kernel_rfl
theorem aAr : eD Tryz.prog 188 36 1 4 = true := by kernel_rfl
theorem aMf : eD Tryz.prog 302 3 1 8 = true := by kernel_rfl
theorem kU : eO Tryz.prog 119 0 0 = true := by kernel_rfl
theorem kQ : eO Tryz.prog 119 1 1 = true := by kernel_rfl
theorem aUo : aQ Tryz.prog 197 = true := by kernel_rfl
theorem aVk : gH Tryz.prog 230 = true := by kernel_rfl
theorem aSk : aQ Tryz.prog 196 = true := by kernel_rfl
theorem aDq : gH Tryz.prog 159 = true := by kernel_rfl
theorem oV : eD Tryz.prog 159 119 2 8 = true := by kernel_rfl
theorem aTc : aQ Tryz.prog 218 = true := by kernel_rfl
theorem aTr : aQ Tryz.prog 194 = true := by kernel_rfl
theorem aUh : aQ Tryz.prog 195 = true := by kernel_rfl
theorem aUe : gS Tryz.prog 189 = some 1024 := by kernel_rfl
theorem aUr : aQ Tryz.prog 167 = true := by kernel_rfl
theorem aJg : fL Tryz.prog 231 [] [] := dW Tryz.underlying231 (by kernel_rfl) (by kernel_rfl) (by kernel_rfl)
theorem aSv : aQ Tryz.prog 169 = true := by kernel_rfl
theorem aVb : aQ Tryz.prog 168 = true := by kernel_rfl
theorem aUg : aQ Tryz.prog 160 = true := by kernel_rfl
theorem zB : zM Tryz.prog 186 36 193 .u32 = true := by kernel_rfl
theorem aVz : fK Tryz.prog 3 = some [.int .i64 0] := by kernel_rfl
theorem aMr : gH Tryz.prog 186 = true := by kernel_rfl
theorem aNq : iO Tryz.prog 193 = some (.agg [.int .i32 0, .int .i32 0, .int .i32 0, .int .i32 0].toArray) := by kernel_rfl
theorem aVl : aQ Tryz.prog 164 = true := by kernel_rfl
theorem aKu : aQ Tryz.prog 163 = true := by kernel_rfl
theorem aUu : aQ Tryz.prog 166 = true := by kernel_rfl
theorem aUc : aQ Tryz.prog 132 = true := by kernel_rfl
theorem aVp : aQ Tryz.prog 133 = true := by kernel_rfl
theorem aUx : aQ Tryz.prog 134 = true := by kernel_rfl
theorem aTf : aQ Tryz.prog 136 = true := by kernel_rfl
theorem aUt : aQ Tryz.prog 135 = true := by kernel_rfl
theorem aSp : aQ Tryz.prog 165 = true := by kernel_rfl
theorem aVw : aQ Tryz.prog 39 = true := by kernel_rfl
theorem uZ : eO Tryz.prog 158 0 0 = true := by kernel_rfl
theorem tZ : gH Tryz.prog 156 = true := by kernel_rfl
theorem uP : zM Tryz.prog 156 36 40 .u32 = true := by kernel_rfl
theorem aPx : iO Tryz.prog 40 = some (.agg [.int .u32 0, .int .i32 0, .int .i32 0, .int .i32 0, .int .i32 0, .int .i32 0, .int .i32 0, .int .i32 0, .int .i32 0, .int .i32 0].toArray) := by kernel_rfl
theorem aLl : aQ Tryz.prog 137 = true := by kernel_rfl
theorem mU : eO Tryz.prog 158 1 1 = true := by kernel_rfl
theorem mK : gH Tryz.prog 82 = true := by kernel_rfl
theorem aGz : eD Tryz.prog 82 121 5 20 = true := by kernel_rfl
theorem aUj : aQ Tryz.prog 107 = true := by kernel_rfl
theorem aIm : fL Tryz.prog 158 [.map none, .slice none 0 0] [(0, 1), (1, 1)] := dW Tryz.underlying158 (by kernel_rfl) (by kernel_rfl) (by kernel_rfl)
theorem aVa : aQ Tryz.prog 105 = true := by kernel_rfl
theorem aUk : aQ Tryz.prog 106 = true := by kernel_rfl
end Go.Proofs.YtlmcphcgiclanaaGreatDoor

namespace Go.Proofs.YtlmcphcgiclanaaGreatDoor
open Go.Bil
open Go.Proofs
end Go.Proofs.YtlmcphcgiclanaaGreatDoor

namespace Go.Proofs.YtlmcphcgiclanaaGreatDoor
open Go.Bil
open Go.Proofs
end Go.Proofs.YtlmcphcgiclanaaGreatDoor

namespace Go.Proofs.YtlmcphcgiclanaaGreatDoor
open Go.Bil
open Go.Proofs
theorem aTv : aQ Tryz.prog 246 = true := by kernel_rfl
theorem aSy : aQ Tryz.prog 240 = true := by kernel_rfl
theorem kV : eO Tryz.prog 121 1 2 = true := by kernel_rfl
theorem aSq : aQ Tryz.prog 222 = true := by kernel_rfl
theorem aSm : aQ Tryz.prog 223 = true := by kernel_rfl
theorem aMa : aQ Tryz.prog 224 = true := by kernel_rfl
theorem aKo : aQ Tryz.prog 225 = true := by kernel_rfl
theorem kP : eO Tryz.prog 246 0 0 = true := by kernel_rfl
theorem pI : eO Tryz.prog 121 0 0 = true := by kernel_rfl
theorem xQ : aQ Tryz.prog 109 = true := by kernel_rfl
theorem aUp : aQ Tryz.prog 204 = true := by kernel_rfl
theorem aLt : aQ Tryz.prog 205 = true := by kernel_rfl
theorem kX : eO Tryz.prog 246 1 1 = true := by kernel_rfl
theorem iK : gH Tryz.prog 200 = true := by kernel_rfl
theorem kS : eO Tryz.prog 246 2 2 = true := by kernel_rfl
theorem jW : eD Tryz.prog 200 2 1 8 = true := by kernel_rfl
theorem aVj : aQ Tryz.prog 177 = true := by kernel_rfl
theorem vZ : fL Tryz.prog 246 [.slice none 0 0, .slice none 0 0, .slice none 0 0] [(0, 1), (1, 1), (2, 1)] := dW Tryz.underlying246 (by kernel_rfl) (by kernel_rfl) (by kernel_rfl)
theorem aNv : aQ Tryz.prog 176 = true := by kernel_rfl
theorem aUv : aQ Tryz.prog 138 = true := by kernel_rfl
theorem aDj : aQ Tryz.prog 118 = true := by kernel_rfl
theorem aSu : aQ Tryz.prog 108 = true := by kernel_rfl
theorem aLn : eO Tryz.prog 121 2 4 = true := by kernel_rfl
theorem aMq : aQ Tryz.prog 142 = true := by kernel_rfl
theorem xH : gH Tryz.prog 97 = true := by kernel_rfl
theorem aBk : eD Tryz.prog 97 135 2 16 = true := by kernel_rfl
theorem uC : eO Tryz.prog 135 0 0 = true := by kernel_rfl
theorem tB : eO Tryz.prog 135 1 1 = true := by kernel_rfl
theorem aFc : fK Tryz.prog 135 = some [.int .i64 0, .int .i64 0] := by kernel_rfl
theorem aVn : fK Tryz.prog 97 = some [.slice none 0 0] := by kernel_rfl
theorem aLs : aQ Tryz.prog 111 = true := by kernel_rfl
theorem aKj : aQ Tryz.prog 110 = true := by kernel_rfl
theorem aFv : eD Tryz.prog 175 133 1 8 = true := by kernel_rfl
theorem aTj : gH Tryz.prog 133 = true := by kernel_rfl
theorem aWp : aQ Tryz.prog 84 = true := by kernel_rfl
theorem aLy : aQ Tryz.prog 85 = true := by kernel_rfl
theorem aWx : aQ Tryz.prog 83 = true := by kernel_rfl
theorem aRp : aQ Tryz.prog 82 = true := by kernel_rfl
theorem aWi : aQ Tryz.prog 86 = true := by kernel_rfl
theorem aRw : aQ Tryz.prog 53 = true := by kernel_rfl
theorem aRg : aQ Tryz.prog 54 = true := by kernel_rfl
theorem sF : eO Tryz.prog 84 1 1 = true := by kernel_rfl
theorem nC : eO Tryz.prog 84 3 3 = true := by kernel_rfl
theorem lF : eO Tryz.prog 27 2 2 = true := by kernel_rfl
theorem xL : eO Tryz.prog 84 0 0 = true := by kernel_rfl
theorem aWo : aQ Tryz.prog 71 = true := by kernel_rfl
theorem sC : eO Tryz.prog 84 2 2 = true := by kernel_rfl
theorem sL : eO Tryz.prog 27 0 0 = true := by kernel_rfl
theorem sI : eO Tryz.prog 27 1 1 = true := by kernel_rfl
theorem aLo : aQ Tryz.prog 72 = true := by kernel_rfl
theorem aWc : aQ Tryz.prog 73 = true := by kernel_rfl
theorem aXf : aQ Tryz.prog 74 = true := by kernel_rfl
theorem mJ : fK Tryz.prog 27 = some [.int .i64 0, .int .i64 0, .bool false] := by kernel_rfl
theorem aMk : fL Tryz.prog 84 [.slice none 0 0, .slice none 0 0, .slice none 0 0, .int .i64 0, .int .i64 0, .bool false] [(0, 1), (1, 1), (2, 1), (3, 3)] := dW Tryz.underlying84 (by kernel_rfl) (by kernel_rfl) (by kernel_rfl)
theorem aCa : vO Tryz.prog 86 4 85 1 = true := by kernel_rfl
theorem aTp : fK Tryz.prog 86 = some [.nilFunc, .nilFunc, .nilFunc, .nilFunc] := by kernel_rfl
theorem aFn : gH Tryz.prog 85 = true := by kernel_rfl
theorem aXe : aQ Tryz.prog 40 = true := by kernel_rfl
theorem aVx : aQ Tryz.prog 41 = true := by kernel_rfl
theorem aXc : aQ Tryz.prog 42 = true := by kernel_rfl
theorem aVv : aQ Tryz.prog 43 = true := by kernel_rfl
theorem kZ : gS Tryz.prog 27 = some 3 := by kernel_rfl
theorem aNo : aQ Tryz.prog 16 = true := by kernel_rfl
end Go.Proofs.YtlmcphcgiclanaaGreatDoor

namespace Go.Proofs.YtlmcphcgiclanaaGreatDoor
open Go.Bil
open Go.Proofs
theorem aRj : aQ Tryz.prog 19 = true := by kernel_rfl
theorem aAo : ∀ (x0 x1 y0 y1 : Int), EqA Tryz.prog 38 [.int .i32 x0, .int .i32 x1] [.int .i32 y0, .int .i32 y1] (decide (x0 = y0 ∧ x1 = y1)) := fun x0 x1 y0 y1 => ⟨by kernel_rfl, fun w => aFd 9998 w x0 x1 y0 y1⟩
theorem aCi : fL Tryz.prog 27 [.int .i64 0, .int .i64 0, .bool false] [(0, 1), (1, 1), (2, 1)] := dW Tryz.underlying27 (by kernel_rfl) (by kernel_rfl) (by kernel_rfl)
theorem aWz : aQ Tryz.prog 23 = true := by kernel_rfl
end Go.Proofs.YtlmcphcgiclanaaGreatDoor

namespace Go.Proofs.YtlmcphcgiclanaaGreatDoor
open Go.Bil
open Go.Proofs
theorem aWb : aQ Tryz.prog 14 = true := by kernel_rfl
theorem aRv : aQ Tryz.prog 15 = true := by kernel_rfl
theorem aMl : mA Tryz.prog 4 40 = some [.u32, .i32, .i32, .i32, .i32, .i32, .i32, .i32, .i32, .i32] := by kernel_rfl
theorem us5 : (Tryz.prog.underlying 5).isSome = true := by kernel_rfl
theorem aWu : aQ Tryz.prog 20 = true := by kernel_rfl
end Go.Proofs.YtlmcphcgiclanaaGreatDoor

namespace Go.Proofs.YtlmcphcgiclanaaGreatDoor
open Go.Bil
open Go.RowKit (Below)
open Go.Proofs
set_option maxHeartbeats 4000000 in
theorem lB (w : World) (n l : Int) (h0 : 0 ≤ l) (h1 : l ≤ 2147483647) :
    Calls Tryz.prog 55 #[.int .i32 n, .int .i32 l] w (fun ex w' => ∃ v, ex = .returned v ∧ (fun v w' => v = .bool (decide (oK n l)) ∧ Below w.heap.size w w') v w') := by
  have hneg : IntKind.i32.wrap (-l) = -l := jM _ (by omega) (by omega)
  refine aJ #[.tmp 4] 14 Tryz.func55 rfl Tryz.results55 Tryz.ntmps55 rfl ?_
  have M0 := Mem.refl w
  refine aG (aB ?_)
  refine aA (aD (.bool false) rfl) rfl rfl ?_
  refine aE (aF (aG (aB ?_)))
  refine aA (aC (.int _ _) rfl) rfl rfl ?_
  refine aA (aC (.int _ _) rfl) rfl rfl ?_
  refine aA (aBc rfl) rfl rfl ?_
  refine aM 7 (.int .i32 (-l)) (iE hneg) ?_
  refine aA (aO (.bool (decide _)) rfl rfl rfl) rfl rfl ?_
  refine aA (aC (.bool (decide _)) rfl) rfl rfl ?_
  refine dK 9 rfl (fun g9 => ?_) (fun g9 => ?_)
  · refine aA (aC (.int _ _) rfl) rfl rfl ?_
    refine aA (aC (.int _ _) rfl) rfl rfl ?_
    refine aA (aO (.bool (decide _)) rfl rfl rfl) rfl rfl ?_
    refine aA (bP true (.bool (decide _)) rfl rfl) rfl rfl ?_
    refine aA (aD (.bool (decide _)) rfl) rfl rfl ?_
    refine aE (aF (aR ?_))
    refine cI (.bool (decide _)) rfl ?_
    exact ⟨by unfold oK; first | exact bF (by omega) | exact bD (by omega), M0.below⟩
  · refine aT rfl rfl ?_
    refine aT rfl rfl ?_
    refine aT rfl rfl ?_
    refine aA (bP false (.bool false) rfl rfl) rfl rfl ?_
    refine aA (aD (.bool false) rfl) rfl rfl ?_
    refine aE (aF (aR ?_))
    refine cI (.bool false) rfl ?_
    exact ⟨by unfold oK; first | exact bF (by omega) | exact bD (by omega), M0.below⟩
set_option maxHeartbeats 4000000 in
theorem rQ (w : World) (b : Body) :
    Calls Tryz.prog 24 #[(.agg (aI b).toArray)] w (fun ex w' => ∃ v, ex = .returned v ∧ (fun v w' => v = .int .i64 (check b) ∧ Below w.heap.size w w') v w') := by
  refine aJ #[.tmp 2] 63 Tryz.func24 rfl Tryz.results24 Tryz.ntmps24 rfl ?_
  have M0 := Mem.refl w
  refine aG (aB ?_)
  refine bK (.agg (List.toArray _)) M0 rfl rfl rfl (fun b1 w1 M1 => ?_)
  refine aA (aD (.int _ _) rfl) rfl rfl ?_
  refine aE (aF (aG (aG (aB ?_))))
  refine aA (aH 1 mY rfl) rfl rfl ?_
  refine aA (aZ 0 (.int _ _) bH M1 rfl rfl rfl) rfl rfl ?_
  refine aA (aO (.bool (decide _)) rfl rfl rfl) rfl rfl ?_
  refine aA (aC (.bool (decide _)) rfl) rfl rfl ?_
  refine dK 6 rfl (fun g6 => ?_) (fun g6 => ?_)
  · refine aT rfl rfl ?_
    refine aT rfl rfl ?_
    refine aT rfl rfl ?_
    refine aA (bP true (.bool true) rfl rfl) rfl rfl ?_
    refine aE (aF ?_)
    refine dP rfl ?_
    refine aG (aB ?_)
    refine aA (aD (.int _ _) rfl) rfl rfl ?_
    refine aE (aF (aR (cP ?_)))
    refine cI (.int _ _) rfl ?_
    exact ⟨iE (by unfold check; unfold oK at *; (repeat' split) <;> omega), M1.below⟩
  · refine aA (aH 1 mY rfl) rfl rfl ?_
    refine aA (aZ 0 (.int _ _) bH M1 rfl rfl rfl) rfl rfl ?_
    refine aA (aO (.bool (decide _)) rfl rfl rfl) rfl rfl ?_
    refine aA (bP false (.bool (decide _)) rfl rfl) rfl rfl ?_
    refine aE (aF ?_)
    refine aY rfl (fun h10 => ?_) (fun h10 => ?_)
    · refine aG (aB ?_)
      refine aA (aD (.int _ _) rfl) rfl rfl ?_
      refine aE (aF (aR (cP ?_)))
      refine cI (.int _ _) rfl ?_
      exact ⟨iE (by unfold check; unfold oK at *; (repeat' split) <;> omega), M1.below⟩
    · refine aN (aF (aG (aG (aB ?_))))
      refine aA (aH 2 jQ rfl) rfl rfl ?_
      refine aA (aH 0 dQ rfl) rfl rfl ?_
      refine aA (aZ 0 (.int _ _) bH M1 rfl rfl rfl) rfl rfl ?_
      refine aL wO rfl rfl rfl ?_
      refine (lB _ _ _ (by omega) (by omega)).mono ?_
      rintro _ w2 ⟨v2, rfl, ⟨rfl, hb2⟩⟩
      refine ⟨_, rfl, ?_⟩
      have M2 := M1.callB hb2
      refine aA (nW rfl) rfl rfl ?_
      refine aA (aC (.bool (decide _)) rfl) rfl rfl ?_
      refine dK 16 rfl (fun g16 => ?_) (fun g16 => ?_)
      · refine aT rfl rfl ?_
        refine aT rfl rfl ?_
        refine aT rfl rfl ?_
        refine aT rfl rfl ?_
        refine aT rfl rfl ?_
        refine aA (bP true (.bool true) rfl rfl) rfl rfl ?_
        refine aE (aF ?_)
        refine dP rfl ?_
        refine aG (aB ?_)
        refine aA (aD (.int _ _) rfl) rfl rfl ?_
        refine aE (aF (aR (cP ?_)))
        refine cI (.int _ _) rfl ?_
        exact ⟨iE (by unfold check; unfold oK at *; (repeat' split) <;> omega), M2.below⟩
      · refine aA (aH 2 jQ rfl) rfl rfl ?_
        refine aA (aH 1 dH rfl) rfl rfl ?_
        refine aA (aZ 0 (.int _ _) bH M2 rfl rfl rfl) rfl rfl ?_
        refine aL wO rfl rfl rfl ?_
        refine (lB _ _ _ (by omega) (by omega)).mono ?_
        rintro _ w3 ⟨v3, rfl, ⟨rfl, hb3⟩⟩
        refine ⟨_, rfl, ?_⟩
        have M3 := M2.callB hb3
        refine aA (nW rfl) rfl rfl ?_
        refine aA (bP false (.bool (decide _)) rfl rfl) rfl rfl ?_
        refine aE (aF ?_)
        refine aY rfl (fun h22 => ?_) (fun h22 => ?_)
        · refine aG (aB ?_)
          refine aA (aD (.int _ _) rfl) rfl rfl ?_
          refine aE (aF (aR (cP ?_)))
          refine cI (.int _ _) rfl ?_
          exact ⟨iE (by unfold check; unfold oK at *; (repeat' split) <;> omega), M3.below⟩
        · refine aN (aF (aG (aG (aB ?_))))
          refine aA (aH 4 fB rfl) rfl rfl ?_
          refine aA (aZ 0 (.int _ _) bH M3 rfl rfl rfl) rfl rfl ?_
          refine aA (aO (.bool (decide _)) rfl rfl rfl) rfl rfl ?_
          refine aA (aC (.bool (decide _)) rfl) rfl rfl ?_
          refine dK 26 rfl (fun g26 => ?_) (fun g26 => ?_)
          · refine aT rfl rfl ?_
            refine aT rfl rfl ?_
            refine aT rfl rfl ?_
            refine aA (bP true (.bool true) rfl rfl) rfl rfl ?_
            refine aE (aF ?_)
            refine dP rfl ?_
            refine aG (aB ?_)
            refine aA (aD (.int _ _) rfl) rfl rfl ?_
            refine aE (aF (aR (cP ?_)))
            refine cI (.int _ _) rfl ?_
            exact ⟨iE (by unfold check; unfold oK at *; (repeat' split) <;> omega), M3.below⟩
          · refine aA (aH 4 fB rfl) rfl rfl ?_
            refine aA (aZ 0 (.int _ _) bH M3 rfl rfl rfl) rfl rfl ?_
            refine aA (aO (.bool (decide _)) rfl rfl rfl) rfl rfl ?_
            refine aA (bP false (.bool (decide _)) rfl rfl) rfl rfl ?_
            refine aE (aF ?_)
            refine aY rfl (fun h30 => ?_) (fun h30 => ?_)
            · refine aG (aB ?_)
              refine aA (aD (.int _ _) rfl) rfl rfl ?_
              refine aE (aF (aR (cP ?_)))
              refine cI (.int _ _) rfl ?_
              exact ⟨iE (by unfold check; unfold oK at *; (repeat' split) <;> omega), M3.below⟩
            · refine aN (aF (aG (aG (aB ?_))))
              refine aA (aH 5 sK rfl) rfl rfl ?_
              refine aA (aZ 0 (.int _ _) bH M3 rfl rfl rfl) rfl rfl ?_
              refine aA (aO (.bool (decide _)) rfl rfl rfl) rfl rfl ?_
              refine aA (aC (.bool (decide _)) rfl) rfl rfl ?_
              refine dK 34 rfl (fun g34 => ?_) (fun g34 => ?_)
              · refine aT rfl rfl ?_
                refine aT rfl rfl ?_
                refine aT rfl rfl ?_
                refine aA (bP true (.bool true) rfl rfl) rfl rfl ?_
                refine aE (aF ?_)
                refine dP rfl ?_
                refine aG (aB ?_)
                refine aA (aD (.int _ _) rfl) rfl rfl ?_
                refine aE (aF (aR (cP ?_)))
                refine cI (.int _ _) rfl ?_
                exact ⟨iE (by unfold check; unfold oK at *; (repeat' split) <;> omega), M3.below⟩
              · refine aA (aH 5 sK rfl) rfl rfl ?_
                refine aA (aZ 0 (.int _ _) bH M3 rfl rfl rfl) rfl rfl ?_
                refine aA (aO (.bool (decide _)) rfl rfl rfl) rfl rfl ?_
                refine aA (bP false (.bool (decide _)) rfl rfl) rfl rfl ?_
                refine aE (aF ?_)
                refine aY rfl (fun h38 => ?_) (fun h38 => ?_)
                · refine aG (aB ?_)
                  refine aA (aD (.int _ _) rfl) rfl rfl ?_
                  refine aE (aF (aR (cP ?_)))
                  refine cI (.int _ _) rfl ?_
                  exact ⟨iE (by unfold check; unfold oK at *; (repeat' split) <;> omega), M3.below⟩
                · refine aN (aF (aG (aG (aB ?_))))
                  refine aA (aH 6 eK rfl) rfl rfl ?_
                  refine aA (aH 0 dQ rfl) rfl rfl ?_
                  refine aA (aZ 0 (.int _ _) bH M3 rfl rfl rfl) rfl rfl ?_
                  refine aL wO rfl rfl rfl ?_
                  refine (lB _ _ _ (by omega) (by omega)).mono ?_
                  rintro _ w4 ⟨v4, rfl, ⟨rfl, hb4⟩⟩
                  refine ⟨_, rfl, ?_⟩
                  have M4 := M3.callB hb4
                  refine aA (nW rfl) rfl rfl ?_
                  refine aA (aC (.bool (decide _)) rfl) rfl rfl ?_
                  refine dK 44 rfl (fun g44 => ?_) (fun g44 => ?_)
                  · refine aT rfl rfl ?_
                    refine aT rfl rfl ?_
                    refine aT rfl rfl ?_
                    refine aT rfl rfl ?_
                    refine aT rfl rfl ?_
                    refine aA (bP true (.bool true) rfl rfl) rfl rfl ?_
                    refine aE (aF ?_)
                    refine dP rfl ?_
                    refine aG (aB ?_)
                    refine aA (aD (.int _ _) rfl) rfl rfl ?_
                    refine aE (aF (aR (cP ?_)))
                    refine cI (.int _ _) rfl ?_
                    exact ⟨iE (by unfold check; unfold oK at *; (repeat' split) <;> omega), M4.below⟩
                  · refine aA (aH 6 eK rfl) rfl rfl ?_
                    refine aA (aH 1 dH rfl) rfl rfl ?_
                    refine aA (aZ 0 (.int _ _) bH M4 rfl rfl rfl) rfl rfl ?_
                    refine aL wO rfl rfl rfl ?_
                    refine (lB _ _ _ (by omega) (by omega)).mono ?_
                    rintro _ w5 ⟨v5, rfl, ⟨rfl, hb5⟩⟩
                    refine ⟨_, rfl, ?_⟩
                    have M5 := M4.callB hb5
                    refine aA (nW rfl) rfl rfl ?_
                    refine aA (bP false (.bool (decide _)) rfl rfl) rfl rfl ?_
                    refine aE (aF ?_)
                    refine aY rfl (fun h50 => ?_) (fun h50 => ?_)
                    · refine aG (aB ?_)
                      refine aA (aD (.int _ _) rfl) rfl rfl ?_
                      refine aE (aF (aR (cP ?_)))
                      refine cI (.int _ _) rfl ?_
                      exact ⟨iE (by unfold check; unfold oK at *; (repeat' split) <;> omega), M5.below⟩
                    · refine aN (aF (aG (aG (aB ?_))))
                      refine aA (aH 8 eF rfl) rfl rfl ?_
                      refine aA (aH 0 dQ rfl) rfl rfl ?_
                      refine aA (aZ 0 (.int _ _) bH M5 rfl rfl rfl) rfl rfl ?_
                      refine aL wO rfl rfl rfl ?_
                      refine (lB _ _ _ (by omega) (by omega)).mono ?_
                      rintro _ w6 ⟨v6, rfl, ⟨rfl, hb6⟩⟩
                      refine ⟨_, rfl, ?_⟩
                      have M6 := M5.callB hb6
                      refine aA (nW rfl) rfl rfl ?_
                      refine aA (aC (.bool (decide _)) rfl) rfl rfl ?_
                      refine dK 56 rfl (fun g56 => ?_) (fun g56 => ?_)
                      · refine aT rfl rfl ?_
                        refine aT rfl rfl ?_
                        refine aT rfl rfl ?_
                        refine aT rfl rfl ?_
                        refine aT rfl rfl ?_
                        refine aA (bP true (.bool true) rfl rfl) rfl rfl ?_
                        refine aE (aF ?_)
                        refine dP rfl ?_
                        refine aG (aB ?_)
                        refine aA (aD (.int _ _) rfl) rfl rfl ?_
                        refine aE (aF (aR (cP ?_)))
                        refine cI (.int _ _) rfl ?_
                        exact ⟨iE (by unfold check; unfold oK at *; (repeat' split) <;> omega), M6.below⟩
                      · refine aA (aH 8 eF rfl) rfl rfl ?_
                        refine aA (aH 1 dH rfl) rfl rfl ?_
                        refine aA (aZ 0 (.int _ _) bH M6 rfl rfl rfl) rfl rfl ?_
                        refine aL wO rfl rfl rfl ?_
                        refine (lB _ _ _ (by omega) (by omega)).mono ?_
                        rintro _ w7 ⟨v7, rfl, ⟨rfl, hb7⟩⟩
                        refine ⟨_, rfl, ?_⟩
                        have M7 := M6.callB hb7
                        refine aA (nW rfl) rfl rfl ?_
                        refine aA (bP false (.bool (decide _)) rfl rfl) rfl rfl ?_
                        refine aE (aF ?_)
                        refine aY rfl (fun h62 => ?_) (fun h62 => ?_)
                        · refine aG (aB ?_)
                          refine aA (aD (.int _ _) rfl) rfl rfl ?_
                          refine aE (aF (aR (cP ?_)))
                          refine cI (.int _ _) rfl ?_
                          exact ⟨iE (by unfold check; unfold oK at *; (repeat' split) <;> omega), M7.below⟩
                        · refine aN (aF (aG (aB ?_)))
                          refine aA (aD (.int _ _) rfl) rfl rfl ?_
                          refine aE (aF (aR ?_))
                          refine cI (.int _ _) rfl ?_
                          exact ⟨iE (by unfold check; unfold oK at *; (repeat' split) <;> omega), M7.below⟩
end Go.Proofs.YtlmcphcgiclanaaGreatDoor

namespace Go.Proofs.YtlmcphcgiclanaaGreatDoor
open Go.Bil
open Go.RowKit (Below)
open Go.Proofs
theorem aMj (a b : Body) : EqA Tryz.prog 40 (aI a) (aI b) (decide (a = b)) := by
  have h := aXb a.key a.radius a.ax a.ay a.mass a.bounce a.px a.py a.vx a.vy b.key b.radius b.ax b.ay b.mass b.bounce b.px b.py b.vx b.vy
  rw [decide_eq_decide.2 (aKr (a := a) (b := b))]
  exact h
set_option maxHeartbeats 4000000 in
theorem aDx (w : World) (key : Int) (A : Option Addr) (n c : Nat) (xs : List Body) (R : Rd w 10 A n (xs.map aI)) :
    Calls Tryz.prog 38 #[.slice A n c, .int .u32 key] w (fun ex w' => ∃ v, ex = .returned v ∧ (fun v w' => v = .int .i64 (cG key xs) ∧ Below w.heap.size w w') v w') := by
  have hlen : xs.length = n := by simpa using R.len
  have hbd := R.bound
  refine aJ #[.tmp 4] 20 Tryz.func38 rfl Tryz.results38 Tryz.ntmps38 rfl ?_
  have M0 := Mem.refl w
  refine aG (aB ?_)
  refine aA (aD (.int _ _) rfl) rfl rfl ?_
  refine aE (aF (aG (aG (aB ?_))))
  refine aA (aD (.int _ _) rfl) rfl rfl ?_
  refine aE (aF (bA ?_))
  refine dI (σ := Nat) [0, 1] (fun k => [(5, .int .i64 (k : Int))]) (fun k w' => (k ≤ n ∧ ∀ (j : Nat) (c : Body), j < k → xs[j]? = some c → c.key ≠ key) ∧ Mem w [] [] w') (fun k => n - k) 0 (bS rfl eV) (⟨⟨by omega, fun j c hj => by omega⟩, M0⟩) ?_
  rintro k ρ1 w1 ⟨⟨hk, hne⟩, hM1⟩
  refine aG (aG (aB ?_))
  refine aA (aC (.int _ _) rfl) rfl rfl ?_
  refine aA (aC (.slice _ _ _) rfl) rfl rfl ?_
  refine aA (cS Tryz.underlying22 rfl) rfl rfl ?_
  refine aA (aO (.bool (decide _)) rfl rfl rfl) rfl rfl ?_
  refine aE (aF ?_)
  refine aY rfl (fun h9 => ?_) (fun h9 => ?_)
  · obtain ⟨xb, hxb⟩ := cN (k := k) hlen (by omega)
    refine aN (aF (aG (bA (aG (aB ?_)))))
    refine aA (aC (.slice _ _ _) rfl) rfl rfl ?_
    refine aA (aC (.int _ _) rfl) rfl rfl ?_
    refine aA (bO (k) dD rfl rfl rfl ((R.mem hM1).below_len (aK aI hxb)) ((R.mem hM1).someK (aK aI hxb))) rfl rfl ?_
    refine aA (bM 0 dR (R.mem hM1) (Nat.lt_of_le_of_lt (Nat.zero_le _) ((R.mem hM1).below_len (aK aI hxb))) rfl) rfl rfl ?_
    refine aA (eI (o := 0) (.int _ _) cR (R.mem hM1) (aK aI hxb) rfl rfl) rfl rfl ?_
    refine aA (aC (.int _ _) rfl) rfl rfl ?_
    refine aA (aO (.bool (decide _)) rfl rfl rfl) rfl rfl ?_
    refine aE (aF ?_)
    refine aY rfl (fun h18 => ?_) (fun h18 => ?_)
    · refine aG (aB ?_)
      refine aA (aC (.int _ _) rfl) rfl rfl ?_
      refine aA (aD (.int _ _) rfl) rfl rfl ?_
      refine aE (aF (aR ?_))
      refine rS ?_
      refine cP ?_
      refine yZ ?_
      refine rS ?_
      refine cP ?_
      refine cI (.int _ _) rfl ?_
      exact ⟨iE (oN hxb h18 hne).symm, hM1.below⟩
    · refine aN ?_
      refine dJ ?_
      refine aF (aB ?_)
      refine aA (aC (.int _ _) rfl) rfl rfl ?_
      refine aA (bX rfl rfl (by omega) (by omega)) rfl rfl ?_
      refine aA (aD (.int _ _) rfl) rfl rfl ?_
      refine aE ?_
      refine cF (k + 1) (bS rfl eV) (cL rfl (cL rfl iI)) ?_ ?_
      · exact ⟨⟨by omega, zH hne hxb h18⟩, hM1⟩
      · omega
  · refine cK ?_
    refine dB ?_
    refine cY ?_
    refine eN ?_
    refine aF (aG (aB ?_))
    refine aA (aD (.int _ _) rfl) rfl rfl ?_
    refine aE (aF (aR ?_))
    refine cI (.int _ _) rfl ?_
    have hkn : k = n := by omega
    exact ⟨iE (wS (fun j b hj => hne j b (by have := (List.getElem?_eq_some_iff.1 hj).1; omega) hj)).symm, hM1.below⟩
set_option maxHeartbeats 4000000 in
theorem aGy (w : World) (b : Body) (gone : Bool) (A : Option Addr) (n c : Nat) (xs : List Body) (R : Rd w 10 A n (xs.map aI)) (hn : n ≤ 1048576) :
    Calls Tryz.prog 90 #[.slice A n c, (.agg (aI b).toArray), .bool gone] w (fun ex w' => ∃ v, ex = .returned v ∧ (fun v w' => ∃ A' n' c' e, v = .slice A' n' c' ∧ aX 40 10 A' n' c' ((zF xs b gone).map aI) e ∧ Mem w [] [e] w') v w') := by
  have hlen : xs.length = n := by simpa using R.len
  have hbd := R.bound
  refine aJ #[.tmp 6] 55 Tryz.func90 rfl Tryz.results90 Tryz.ntmps90 rfl ?_
  have M0 := Mem.refl w
  refine aG (aB ?_)
  refine bK (.agg (List.toArray _)) M0 rfl rfl rfl (fun b1 w1 M1 => ?_)
  refine aA (aD (.slice _ _ _) rfl) rfl rfl ?_
  refine aE (aF (aG (aB ?_)))
  refine aA (aD (.slice _ _ _) rfl) rfl rfl ?_
  have M2 := M1.dummy default
  refine aE (aF (aG (aB ?_)))
  refine aA (aC (.bool _) rfl) rfl rfl ?_
  refine aA (aD (.bool _) rfl) rfl rfl ?_
  refine aE (aF (aG (aG (aB ?_))))
  refine aA (aD (.int _ _) rfl) rfl rfl ?_
  refine aE (aF (bA ?_))
  refine dI (σ := Nat × List Body × Bool × Row) [0, 4, 6] (fun (k, acc, done, r) => [(7, .slice r.A r.n r.c), (8, .bool done), (9, .int .i64 (k : Int))]) (fun (k, acc, done, r) w' => (k ≤ n ∧ fA b gone (xs.take k) = (acc, done) ∧ aX 40 10 r.A r.n r.c (acc.map aI) r.e) ∧ Mem w [] [(some b1, bc (aI b) 40), r.e] w') (fun (k, acc, done, r) => n - k) (0, [], gone, ⟨none, 0, 0, (none, default)⟩) (bS rfl (bS rfl (bS rfl eV))) (⟨⟨by omega, rfl, aX.nil _ _ _⟩, M2⟩) ?_
  rintro ⟨k, acc, done, r⟩ ρ3 w3 ⟨⟨hk, heq, hr⟩, hM3⟩
  have hra : acc.length = r.n := by simpa using hr.1
  have hrl : acc.length ≤ k + 1 := by have h := aDy b gone xs k; rw [heq] at h; exact h
  refine aG (aG (aB ?_))
  refine aA (aC (.int _ _) rfl) rfl rfl ?_
  refine aA (aC (.slice _ _ _) rfl) rfl rfl ?_
  refine aA (cS Tryz.underlying22 rfl) rfl rfl ?_
  refine aA (aO (.bool (decide _)) rfl rfl rfl) rfl rfl ?_
  refine aE (aF ?_)
  refine aY rfl (fun h14 => ?_) (fun h14 => ?_)
  · obtain ⟨xb, hxb⟩ := cN (k := k) hlen (by omega)
    refine aN (aF (aG (bA (aG (aG ?_)))))
    refine bZ [(0, 0), (1, 0), (2, 0), (3, 0), (4, 0), (5, 1), (6, 1), (7, 1), (8, 0), (9, 1), (10, 0), (11, 0)] mixed rfl (by kernel_rfl) (fun w4 hb4 hh4 => ?_)
    have M4 := hM3.drew hb4 hh4
    refine aW rfl rfl rfl (fun _ => aC (.bool _) rfl) ?_
    refine aW rfl rfl rfl (fun _ => kF _ rfl rfl) ?_
    refine aW rfl rfl rfl (fun _ => aC (.bool _) rfl) ?_
    refine aQh 19 _ rfl (fun g19 => ?_) (fun g19 => ?_)
    · have hd : done = false := by simpa using g19
      refine aW rfl rfl rfl (fun _ => aC (.slice _ _ _) rfl) ?_
      refine aW rfl rfl rfl (fun _ => aC (.int _ _) rfl) ?_
      refine cB rfl rfl rfl (bO (k) dD rfl rfl rfl ((R.mem M4).below_len (aK aI hxb)) ((R.mem M4).someK (aK aI hxb))) ?_
      refine cB rfl rfl rfl (bM 0 dR (R.mem M4) (Nat.lt_of_le_of_lt (Nat.zero_le _) ((R.mem M4).below_len (aK aI hxb))) rfl) ?_
      refine cB rfl rfl rfl (eI (o := 0) (.int _ _) cR (R.mem M4) (aK aI hxb) rfl rfl) ?_
      refine aW rfl rfl rfl (fun _ => aH 0 dR rfl) ?_
      refine cB rfl rfl rfl (aZ 0 (.int _ _) cR M4 rfl rfl rfl) ?_
      refine aW rfl rfl rfl (fun _ => aO (.bool (decide _)) rfl rfl rfl) ?_
      refine aW rfl rfl rfl (fun _ => bP true (.bool (decide _)) rfl rfl) ?_
      refine cE ?_
      refine aF ?_
      refine aY rfl (fun h28 => ?_) (fun h28 => ?_)
      · refine aG (aB ?_)
        refine aA (aD (.bool true) rfl) rfl rfl ?_
        refine aE (aF (aB ?_))
        refine aA (aC (.slice _ _ _) rfl) rfl rfl ?_
        refine aA (bB 0 bW M4 rfl rfl rfl) rfl rfl ?_
        refine cM [.agg (List.toArray _)] _ rfl dD M4 rfl rfl rfl rfl (cW rfl) (by decide) (fun b5 w5 M5 => ?_)
        refine dM 1 [aI b] dD M5 rfl rfl rfl rfl rfl hr rfl (by simpa using ⟨gC b, fF b⟩) (cO.ofMem 2 M5 rfl) (by omega) (fun A6 c6 e6 w6 M6 hR6 => ?_)
        refine aA (aD (.slice _ _ _) rfl) rfl rfl ?_
        refine aE (aF (aG ?_))
        refine bZ [(0, 0), (1, 0), (2, 1), (3, 1), (4, 1), (5, 0), (6, 1), (7, 0)] mixed rfl (by kernel_rfl) (fun w7 hb7 hh7 => ?_)
        have M7 := M6.drew hb7 hh7
        refine aW rfl rfl rfl (fun _ => aC (.slice _ _ _) rfl) ?_
        refine aW rfl rfl rfl (fun _ => aC (.int _ _) rfl) ?_
        refine cB rfl rfl rfl (bO (k) dD rfl rfl rfl ((R.mem M7).below_len (aK aI hxb)) ((R.mem M7).someK (aK aI hxb))) ?_
        refine cB rfl rfl rfl (bM 0 dR (R.mem M7) (Nat.lt_of_le_of_lt (Nat.zero_le _) ((R.mem M7).below_len (aK aI hxb))) rfl) ?_
        refine cB rfl rfl rfl (eI (o := 0) (.int _ _) cR (R.mem M7) (aK aI hxb) rfl rfl) ?_
        refine aW rfl rfl rfl (fun _ => aH 0 dR rfl) ?_
        refine cB rfl rfl rfl (aZ 0 (.int _ _) cR M7 rfl rfl rfl) ?_
        refine aW rfl rfl rfl (fun _ => aO (.bool (decide _)) rfl rfl rfl) ?_
        refine cE ?_
        refine aF ?_
        refine aY rfl (fun h40 => ?_) (fun h40 => ?_)
        · refine aB ?_
          refine aA (aC (.slice _ _ _) rfl) rfl rfl ?_
          refine aA (aC (.slice _ _ _) rfl) rfl rfl ?_
          refine aA (aC (.int _ _) rfl) rfl rfl ?_
          refine aA (bO (k) dD rfl rfl rfl ((R.mem M7).below_len (aK aI hxb)) ((R.mem M7).someK (aK aI hxb))) rfl rfl ?_
          refine aA (dO _ bW (R.mem M7) (aK aI hxb) rfl) rfl rfl ?_
          refine cM [.agg (List.toArray _)] _ rfl dD M7 rfl rfl rfl rfl (cW rfl) (by decide) (fun b8 w8 M8 => ?_)
          refine dM 1 [aI xb] dD M8 rfl rfl rfl rfl rfl hR6 rfl (by simpa using ⟨gC xb, fF xb⟩) (cO.ofMem 3 M8 rfl) (by omega) (fun A9 c9 e9 w9 M9 hR9 => ?_)
          refine aA (aD (.slice _ _ _) rfl) rfl rfl ?_
          refine aE ?_
          refine dJ ?_
          refine aF (aB ?_)
          refine aA (aC (.int _ _) rfl) rfl rfl ?_
          refine aA (bX rfl rfl (by omega) (by omega)) rfl rfl ?_
          refine aA (aD (.int _ _) rfl) rfl rfl ?_
          refine aE ?_
          refine cF (k + 1, (fA b gone (xs.take (k + 1))).1, (fA b gone (xs.take (k + 1))).2, ⟨A9, r.n + 1 + 1, c9, e9⟩) (bS rfl (bS (bv rfl (by rw [dN b gone hxb, heq]; simp [dF, *])) (bS rfl eV))) (cL rfl (cL rfl (cL rfl iI))) ?_ ?_
          · exact ⟨⟨by omega, rfl, by rw [dN b gone hxb, heq]; simpa [dF, *] using hR9⟩, M9.keep [true, true, false, false]⟩
          · (show n - (k + 1) < n - k; omega)
        · refine aN ?_
          refine dJ ?_
          refine aF (aB ?_)
          refine aA (aC (.int _ _) rfl) rfl rfl ?_
          refine aA (bX rfl rfl (by omega) (by omega)) rfl rfl ?_
          refine aA (aD (.int _ _) rfl) rfl rfl ?_
          refine aE ?_
          refine cF (k + 1, (fA b gone (xs.take (k + 1))).1, (fA b gone (xs.take (k + 1))).2, ⟨A6, r.n + 1, c6, e6⟩) (bS rfl (bS (bv rfl (by rw [dN b gone hxb, heq]; simp [dF, *])) (bS rfl eV))) (cL rfl (cL rfl (cL rfl iI))) ?_ ?_
          · exact ⟨⟨by omega, rfl, by rw [dN b gone hxb, heq]; simpa [dF, *] using hR6⟩, M7.keep [true, true, false]⟩
          · (show n - (k + 1) < n - k; omega)
      · refine aN (aF (aG ?_))
        refine bZ [(0, 0), (1, 0), (2, 1), (3, 1), (4, 1), (5, 0), (6, 1), (7, 0)] mixed rfl (by kernel_rfl) (fun w10 hb10 hh10 => ?_)
        have M10 := M4.drew hb10 hh10
        refine aW rfl rfl rfl (fun _ => aC (.slice _ _ _) rfl) ?_
        refine aW rfl rfl rfl (fun _ => aC (.int _ _) rfl) ?_
        refine cB rfl rfl rfl (bO (k) dD rfl rfl rfl ((R.mem M10).below_len (aK aI hxb)) ((R.mem M10).someK (aK aI hxb))) ?_
        refine cB rfl rfl rfl (bM 0 dR (R.mem M10) (Nat.lt_of_le_of_lt (Nat.zero_le _) ((R.mem M10).below_len (aK aI hxb))) rfl) ?_
        refine cB rfl rfl rfl (eI (o := 0) (.int _ _) cR (R.mem M10) (aK aI hxb) rfl rfl) ?_
        refine aW rfl rfl rfl (fun _ => aH 0 dR rfl) ?_
        refine cB rfl rfl rfl (aZ 0 (.int _ _) cR M10 rfl rfl rfl) ?_
        refine aW rfl rfl rfl (fun _ => aO (.bool (decide _)) rfl rfl rfl) ?_
        refine cE ?_
        refine aF ?_
        refine aY rfl (fun h40 => ?_) (fun h40 => ?_)
        · refine aB ?_
          refine aA (aC (.slice _ _ _) rfl) rfl rfl ?_
          refine aA (aC (.slice _ _ _) rfl) rfl rfl ?_
          refine aA (aC (.int _ _) rfl) rfl rfl ?_
          refine aA (bO (k) dD rfl rfl rfl ((R.mem M10).below_len (aK aI hxb)) ((R.mem M10).someK (aK aI hxb))) rfl rfl ?_
          refine aA (dO _ bW (R.mem M10) (aK aI hxb) rfl) rfl rfl ?_
          refine cM [.agg (List.toArray _)] _ rfl dD M10 rfl rfl rfl rfl (cW rfl) (by decide) (fun b11 w11 M11 => ?_)
          refine dM 1 [aI xb] dD M11 rfl rfl rfl rfl rfl hr rfl (by simpa using ⟨gC xb, fF xb⟩) (cO.ofMem 2 M11 rfl) (by omega) (fun A12 c12 e12 w12 M12 hR12 => ?_)
          refine aA (aD (.slice _ _ _) rfl) rfl rfl ?_
          refine aE ?_
          refine dJ ?_
          refine aF (aB ?_)
          refine aA (aC (.int _ _) rfl) rfl rfl ?_
          refine aA (bX rfl rfl (by omega) (by omega)) rfl rfl ?_
          refine aA (aD (.int _ _) rfl) rfl rfl ?_
          refine aE ?_
          refine cF (k + 1, (fA b gone (xs.take (k + 1))).1, (fA b gone (xs.take (k + 1))).2, ⟨A12, r.n + 1, c12, e12⟩) (bS rfl (bS (bv rfl (by rw [dN b gone hxb, heq]; simp [dF, *])) (bS rfl eV))) (cL rfl (cL rfl (cL rfl iI))) ?_ ?_
          · exact ⟨⟨by omega, rfl, by rw [dN b gone hxb, heq]; simpa [dF, *] using hR12⟩, M12.keep [true, true, false]⟩
          · (show n - (k + 1) < n - k; omega)
        · refine aN ?_
          refine dJ ?_
          refine aF (aB ?_)
          refine aA (aC (.int _ _) rfl) rfl rfl ?_
          refine aA (bX rfl rfl (by omega) (by omega)) rfl rfl ?_
          refine aA (aD (.int _ _) rfl) rfl rfl ?_
          refine aE ?_
          refine cF (k + 1, (fA b gone (xs.take (k + 1))).1, (fA b gone (xs.take (k + 1))).2, r) (bS rfl (bS (bv rfl (by rw [dN b gone hxb, heq]; simp [dF, *])) (bS rfl eV))) (cL rfl (cL rfl (cL rfl iI))) ?_ ?_
          · exact ⟨⟨by omega, rfl, by rw [dN b gone hxb, heq]; simpa [dF, *] using hr⟩, M10.keep [true, true]⟩
          · (show n - (k + 1) < n - k; omega)
    · have hd : done = true := by simpa using g19
      refine D_s rfl rfl rfl ?_
      refine D_s rfl rfl rfl ?_
      refine aQf rfl rfl rfl ?_
      refine aQf rfl rfl rfl ?_
      refine aQf rfl rfl rfl ?_
      refine D_s rfl rfl rfl ?_
      refine aQf rfl rfl rfl ?_
      refine D_s rfl rfl rfl ?_
      refine aW rfl rfl rfl (fun _ => bP false (.bool false) rfl rfl) ?_
      refine cE ?_
      refine aF ?_
      refine cH rfl ?_
      refine aN (aF (aG ?_))
      refine bZ [(0, 0), (1, 0), (2, 1), (3, 1), (4, 1), (5, 0), (6, 1), (7, 0)] mixed rfl (by kernel_rfl) (fun w13 hb13 hh13 => ?_)
      have M13 := M4.drew hb13 hh13
      refine aW rfl rfl rfl (fun _ => aC (.slice _ _ _) rfl) ?_
      refine aW rfl rfl rfl (fun _ => aC (.int _ _) rfl) ?_
      refine cB rfl rfl rfl (bO (k) dD rfl rfl rfl ((R.mem M13).below_len (aK aI hxb)) ((R.mem M13).someK (aK aI hxb))) ?_
      refine cB rfl rfl rfl (bM 0 dR (R.mem M13) (Nat.lt_of_le_of_lt (Nat.zero_le _) ((R.mem M13).below_len (aK aI hxb))) rfl) ?_
      refine cB rfl rfl rfl (eI (o := 0) (.int _ _) cR (R.mem M13) (aK aI hxb) rfl rfl) ?_
      refine aW rfl rfl rfl (fun _ => aH 0 dR rfl) ?_
      refine cB rfl rfl rfl (aZ 0 (.int _ _) cR M13 rfl rfl rfl) ?_
      refine aW rfl rfl rfl (fun _ => aO (.bool (decide _)) rfl rfl rfl) ?_
      refine cE ?_
      refine aF ?_
      refine aY rfl (fun h40 => ?_) (fun h40 => ?_)
      · refine aB ?_
        refine aA (aC (.slice _ _ _) rfl) rfl rfl ?_
        refine aA (aC (.slice _ _ _) rfl) rfl rfl ?_
        refine aA (aC (.int _ _) rfl) rfl rfl ?_
        refine aA (bO (k) dD rfl rfl rfl ((R.mem M13).below_len (aK aI hxb)) ((R.mem M13).someK (aK aI hxb))) rfl rfl ?_
        refine aA (dO _ bW (R.mem M13) (aK aI hxb) rfl) rfl rfl ?_
        refine cM [.agg (List.toArray _)] _ rfl dD M13 rfl rfl rfl rfl (cW rfl) (by decide) (fun b14 w14 M14 => ?_)
        refine dM 1 [aI xb] dD M14 rfl rfl rfl rfl rfl hr rfl (by simpa using ⟨gC xb, fF xb⟩) (cO.ofMem 2 M14 rfl) (by omega) (fun A15 c15 e15 w15 M15 hR15 => ?_)
        refine aA (aD (.slice _ _ _) rfl) rfl rfl ?_
        refine aE ?_
        refine dJ ?_
        refine aF (aB ?_)
        refine aA (aC (.int _ _) rfl) rfl rfl ?_
        refine aA (bX rfl rfl (by omega) (by omega)) rfl rfl ?_
        refine aA (aD (.int _ _) rfl) rfl rfl ?_
        refine aE ?_
        refine cF (k + 1, (fA b gone (xs.take (k + 1))).1, (fA b gone (xs.take (k + 1))).2, ⟨A15, r.n + 1, c15, e15⟩) (bS rfl (bS (bv rfl (by rw [dN b gone hxb, heq]; simp [dF, *])) (bS rfl eV))) (cL rfl (cL rfl (cL rfl iI))) ?_ ?_
        · exact ⟨⟨by omega, rfl, by rw [dN b gone hxb, heq]; simpa [dF, *] using hR15⟩, M15.keep [true, true, false]⟩
        · (show n - (k + 1) < n - k; omega)
      · refine aN ?_
        refine dJ ?_
        refine aF (aB ?_)
        refine aA (aC (.int _ _) rfl) rfl rfl ?_
        refine aA (bX rfl rfl (by omega) (by omega)) rfl rfl ?_
        refine aA (aD (.int _ _) rfl) rfl rfl ?_
        refine aE ?_
        refine cF (k + 1, (fA b gone (xs.take (k + 1))).1, (fA b gone (xs.take (k + 1))).2, r) (bS rfl (bS (bv rfl (by rw [dN b gone hxb, heq]; simp [dF, *])) (bS rfl eV))) (cL rfl (cL rfl (cL rfl iI))) ?_ ?_
        · exact ⟨⟨by omega, rfl, by rw [dN b gone hxb, heq]; simpa [dF, *] using hr⟩, M13.keep [true, true]⟩
        · (show n - (k + 1) < n - k; omega)
  · have hkn : k = n := by omega
    subst hkn
    rw [List.take_of_length_le (by omega)] at heq
    refine cK ?_
    refine dB ?_
    refine cY ?_
    refine eN ?_
    refine aF (aG (aG (aB ?_)))
    refine aA (aC (.bool _) rfl) rfl rfl ?_
    refine aA (kF _ rfl rfl) rfl rfl ?_
    refine aE (aF ?_)
    refine iJ _ rfl (fun h49 => ?_) (fun h49 => ?_)
    · have hd : done = false := by simpa using h49
      refine aB ?_
      refine aA (aC (.slice _ _ _) rfl) rfl rfl ?_
      refine aA (bB 0 bW hM3 rfl rfl rfl) rfl rfl ?_
      refine cM [.agg (List.toArray _)] _ rfl dD hM3 rfl rfl rfl rfl (cW rfl) (by decide) (fun b16 w16 M16 => ?_)
      refine dM 1 [aI b] dD M16 rfl rfl rfl rfl rfl hr rfl (by simpa using ⟨gC b, fF b⟩) (cO.ofMem 2 M16 rfl) (by omega) (fun A17 c17 e17 w17 M17 hR17 => ?_)
      refine aA (aD (.slice _ _ _) rfl) rfl rfl ?_
      refine aE (aF (aG (aB ?_)))
      refine aA (aC (.slice _ _ _) rfl) rfl rfl ?_
      refine aA (aD (.slice _ _ _) rfl) rfl rfl ?_
      refine aE (aF (aR ?_))
      refine cI (.slice _ _ _) rfl ?_
      exact ⟨_, _, _, _, rfl, by unfold zF; rw [heq]; simpa [*] using hR17, M17.keep [false, true, false]⟩
    · have hd : done = true := by simpa using h49
      refine aN (aF (aG (aB ?_)))
      refine aA (aC (.slice _ _ _) rfl) rfl rfl ?_
      refine aA (aD (.slice _ _ _) rfl) rfl rfl ?_
      refine aE (aF (aR ?_))
      refine cI (.slice _ _ _) rfl ?_
      exact ⟨_, _, _, _, rfl, by unfold zF; rw [heq]; simpa [*] using hr, hM3.keep [false, true]⟩
end Go.Proofs.YtlmcphcgiclanaaGreatDoor

namespace Go.Proofs.YtlmcphcgiclanaaGreatDoor
open Go.Bil
open Go.RowKit (Below)
open Go.Proofs
end Go.Proofs.YtlmcphcgiclanaaGreatDoor

namespace Go.Proofs.YtlmcphcgiclanaaGreatDoor
open Go.Bil
open Go.RowKit (Below)
open Go.Proofs
set_option maxHeartbeats 4000000 in
theorem rD (w : World) (x : Int) :
    Calls Tryz.prog 121 #[.int .u32 x] w (fun ex w' => ∃ v, ex = .returned v ∧ (fun v w' => v = .bool false ∧ w' = w) v w') := by
  refine aJ #[.tmp 2] 6 Tryz.func121 rfl Tryz.results121 Tryz.ntmps121 rfl ?_
  have M0 := Mem.refl w
  refine aG (aB ?_)
  refine aA (aD (.bool false) rfl) rfl rfl ?_
  refine aE (aF (aG (aB ?_)))
  refine aA (aC (.int _ _) rfl) rfl rfl ?_
  refine aA (aC (.int _ _) rfl) rfl rfl ?_
  refine aA (aO (.bool (decide _)) rfl rfl rfl) rfl rfl ?_
  refine aA (aD (.bool (decide _)) rfl) rfl rfl ?_
  refine aE (aF (aR ?_))
  refine cI (.bool (decide _)) rfl ?_
  exact ⟨(bF (by omega)).symm, rfl⟩
set_option maxHeartbeats 4000000 in
theorem kJ (w : World) (x y : Int) :
    Calls Tryz.prog 97 #[.int .u32 x, .int .u32 y] w (fun ex w' => ∃ v, ex = .returned v ∧ (fun v w' => v = .int .i64 (lZ x y) ∧ w' = w) v w') := by
  refine aJ #[.tmp 4] 20 Tryz.func97 rfl Tryz.results97 Tryz.ntmps97 rfl ?_
  have M0 := Mem.refl w
  refine aG (aB ?_)
  refine aA (aD (.int _ _) rfl) rfl rfl ?_
  refine aE (aF (aG (aB ?_)))
  refine aA (aC (.int _ _) rfl) rfl rfl ?_
  refine aL aLc rfl rfl rfl ?_
  refine (rD _ _).mono ?_
  rintro _ w1 ⟨v1, rfl, ⟨rfl, rfl⟩⟩
  refine ⟨_, rfl, ?_⟩
  have M1 : Mem _ _ [] _ := M0
  refine aA (aD (.bool false) rfl) rfl rfl ?_
  refine aE (aF (aG (aB ?_)))
  refine aA (aC (.int _ _) rfl) rfl rfl ?_
  refine aL aLc rfl rfl rfl ?_
  refine (rD _ _).mono ?_
  rintro _ w2 ⟨v2, rfl, ⟨rfl, rfl⟩⟩
  refine ⟨_, rfl, ?_⟩
  have M2 : Mem _ _ [] _ := M1
  refine aA (aD (.bool false) rfl) rfl rfl ?_
  refine aE (aF (aG (aG (aB ?_))))
  refine aA (aC (.bool false) rfl) rfl rfl ?_
  refine aE (aF ?_)
  refine cH rfl ?_
  refine aN (aF (aG (aG (aB ?_))))
  refine aA (aC (.bool false) rfl) rfl rfl ?_
  refine aE (aF ?_)
  refine cH rfl ?_
  refine aN (aF (aG (aG (aB ?_))))
  refine aA (aC (.int _ _) rfl) rfl rfl ?_
  refine aA (aC (.int _ _) rfl) rfl rfl ?_
  refine aA (aO (.bool (decide _)) rfl rfl rfl) rfl rfl ?_
  refine aE (aF ?_)
  refine aY rfl (fun h16 => ?_) (fun h16 => ?_)
  · refine aG (aB ?_)
    refine aA (aD (.int _ _) rfl) rfl rfl ?_
    refine aE (aF (aR (cP ?_)))
    refine cI (.int _ _) rfl ?_
    exact ⟨iE (by unfold lZ; (repeat' split) <;> omega), rfl⟩
  · refine aN (aF (aG (aG (aB ?_))))
    refine aA (aC (.int _ _) rfl) rfl rfl ?_
    refine aA (aC (.int _ _) rfl) rfl rfl ?_
    refine aA (aO (.bool (decide _)) rfl rfl rfl) rfl rfl ?_
    refine aE (aF ?_)
    refine aY rfl (fun h19 => ?_) (fun h19 => ?_)
    · refine aG (aB ?_)
      refine aA (aD (.int _ _) rfl) rfl rfl ?_
      refine aE (aF (aR (cP ?_)))
      refine cI (.int _ _) rfl ?_
      exact ⟨iE (by unfold lZ; (repeat' split) <;> omega), rfl⟩
    · refine aN (aF (aG (aB ?_)))
      refine aA (aD (.int _ _) rfl) rfl rfl ?_
      refine aE (aF (aR ?_))
      refine cI (.int _ _) rfl ?_
      exact ⟨iE (by unfold lZ; (repeat' split) <;> omega), rfl⟩
set_option maxHeartbeats 4000000 in
theorem vL (w : World) (A : Option Addr) (n c : Nat) (ls : List (List Value)) (R : Rd w 10 A n ls) (h1 : ∀ y ∈ ls, ∀ u ∈ y, one u = true) (hn : n ≤ 1048576) :
    Calls Tryz.prog 49 #[.slice A n c] w (fun ex w' => ∃ v, ex = .returned v ∧ (fun v w' => ∃ A' n' c' e, v = .slice A' n' c' ∧ aX 40 10 A' n' c' ls e ∧ Mem w [] [e] w' ∧ A'.isSome = A.isSome) v w') := by
  refine aJ #[.tmp 2] 8 Tryz.func49 rfl Tryz.results49 Tryz.ntmps49 rfl ?_
  have M0 := Mem.refl w
  refine aG (aB ?_)
  refine aA (aD (.slice _ _ _) rfl) rfl rfl ?_
  refine aE (aF (aG (aG (aB ?_))))
  refine aA (aC (.slice _ _ _) rfl) rfl rfl ?_
  refine aA (zG _ Tryz.underlying22 rfl rfl) rfl rfl ?_
  refine aE (aF ?_)
  refine iJ _ rfl (fun h4 => ?_) (fun h4 => ?_)
  · refine aG (aB ?_)
    refine aA (aD (.slice _ _ _) rfl) rfl rfl ?_
    refine aE (aF (aR (cP ?_)))
    refine cI (.slice _ _ _) rfl ?_
    have hA : A = none := by cases A <;> simp_all
    have hl : ls = [] := by
      rcases Nat.eq_zero_or_pos n with h | h
      · subst h; exact List.eq_nil_of_length_eq_zero R.len
      · have := R.some h; rw [hA] at this; cases this
    subst hA; subst hl
    exact ⟨_, _, _, _, rfl, aX.nil 40 10 default, M0.dummy default, rfl⟩
  · refine aN (aF (aG (aB ?_)))
    refine cM [] [] rfl dD M0 rfl rfl rfl rfl (cW rfl) (by decide) (fun b1 w1 M1 => ?_)
    refine aA (aC (.slice _ _ _) rfl) rfl rfl ?_
    refine aDh 0 ls dD M1 rfl rfl rfl rfl rfl (aX.empty b1) (R.mem M1) h1 (by omega) (fun A2 c2 e2 w2 M2 hR2 hA2 => ?_)
    have hAA := hA2
    refine aA (aD (.slice _ _ _) rfl) rfl rfl ?_
    refine aE (aF (aR ?_))
    refine cI (.slice _ _ _) rfl ?_
    refine ⟨_, _, _, _, rfl, by simpa using hR2, M2, ?_⟩
    rw [hAA rfl]; cases A <;> simp_all
end Go.Proofs.YtlmcphcgiclanaaGreatDoor

namespace Go.Proofs.YtlmcphcgiclanaaGreatDoor
open Go.Bil
open Go.RowKit (Below)
open Go.Proofs
end Go.Proofs.YtlmcphcgiclanaaGreatDoor
