/- Part of the proof of the laws of this seat: Ty, T26, T25, T20, T20r, T20l, R5, R6, Bd, Lib, St. No conditions. -/
import Derived.Test.YtlmcphcgiclanaaGreatDoorProg
import Derived.Test.YtlmcphcgiclanaaGreatDoorK2
import Derived.Test.YtlmcphcgiclanaaGreatDoorK3
import Derived.Test.YtlmcphcgiclanaaGreatDoorK4
import Derived.KernelRfl
set_option linter.unusedVariables false
set_option linter.unusedSimpArgs false
set_option linter.unnecessarySimpa false
namespace Go.Proofs.YtlmcphcgiclanaaGreatDoor
open Go.Bil
open Go.Proofs
theorem cX : gM Tryz.prog 36 = true := by kernel_rfl
theorem bG : gM Tryz.prog 21 = true := by kernel_rfl
theorem aGg : ∀ (d : Nat) (w : World) (x0 x1 y0 y1 : Int), (Op.equalIn (d + 2) 38 (.agg [.int .i32 x0, .int .i32 x1].toArray) (.agg [.int .i32 y0, .int .i32 y1].toArray)).run Tryz.prog w = .ok (decide (x0 = y0 ∧ x1 = y1)) w := fun d w x0 x1 y0 y1 => by
    have h := oD (P := Tryz.prog) (T := 38) (dd := d + 1) (xs := [.int .i32 x0, .int .i32 x1]) (ys := [.int .i32 y0, .int .i32 y1]) (w := w) Tryz.underlying38 (by kernel_rfl) (eL rfl (fK bG rfl) (fK bG rfl) (kW (dd := d + 0) Tryz.underlying21) (eL rfl (fK bG rfl) (fK bG rfl) (kW (dd := d + 0) Tryz.underlying21) (sZ)))
    refine h.trans (congrArg (fun r => Result.ok r w) ?_)
    simp only [Bool.decide_and, Bool.and_true, Bool.and_assoc]
theorem bI : gO Tryz.prog 38 = some 2 := by kernel_rfl
theorem aXo : ∀ (d : Nat) (w : World) (x0 x1 x2 x3 x4 x5 x6 x7 x8 x9 y0 y1 y2 y3 y4 y5 y6 y7 y8 y9 : Int), (Op.equalIn (d + 3) 40 (.agg [.int .u32 x0, .int .i32 x1, .int .i32 x2, .int .i32 x3, .int .i32 x4, .int .i32 x5, .int .i32 x6, .int .i32 x7, .int .i32 x8, .int .i32 x9].toArray) (.agg [.int .u32 y0, .int .i32 y1, .int .i32 y2, .int .i32 y3, .int .i32 y4, .int .i32 y5, .int .i32 y6, .int .i32 y7, .int .i32 y8, .int .i32 y9].toArray)).run Tryz.prog w = .ok (decide (x0 = y0 ∧ x1 = y1 ∧ x2 = y2 ∧ x3 = y3 ∧ x4 = y4 ∧ x5 = y5 ∧ x6 = y6 ∧ x7 = y7 ∧ x8 = y8 ∧ x9 = y9)) w := fun d w x0 x1 x2 x3 x4 x5 x6 x7 x8 x9 y0 y1 y2 y3 y4 y5 y6 y7 y8 y9 => by
    have h := oD (P := Tryz.prog) (T := 40) (dd := d + 2) (xs := [.int .u32 x0, .int .i32 x1, .int .i32 x2, .int .i32 x3, .int .i32 x4, .int .i32 x5, .int .i32 x6, .int .i32 x7, .int .i32 x8, .int .i32 x9]) (ys := [.int .u32 y0, .int .i32 y1, .int .i32 y2, .int .i32 y3, .int .i32 y4, .int .i32 y5, .int .i32 y6, .int .i32 y7, .int .i32 y8, .int .i32 y9]) (w := w) Tryz.underlying40 (by kernel_rfl) (eL rfl (fK cX rfl) (fK cX rfl) (kW (dd := d + 1) Tryz.underlying36) (eL rfl (fK bG rfl) (fK bG rfl) (kW (dd := d + 1) Tryz.underlying21) (eL rfl (uW bI rfl) (uW bI rfl) (aGg (d + 0) w x2 x3 y2 y3) (eL rfl (fK bG rfl) (fK bG rfl) (kW (dd := d + 1) Tryz.underlying21) (eL rfl (fK bG rfl) (fK bG rfl) (kW (dd := d + 1) Tryz.underlying21) (eL rfl (uW bI rfl) (uW bI rfl) (aGg (d + 0) w x6 x7 y6 y7) (eL rfl (uW bI rfl) (uW bI rfl) (aGg (d + 0) w x8 x9 y8 y9) (sZ))))))))
    refine h.trans (congrArg (fun r => Result.ok r w) ?_)
    simp only [Bool.decide_and, Bool.and_true, Bool.and_assoc]
theorem aYd : ∀ (x0 x1 x2 x3 x4 x5 x6 x7 x8 x9 y0 y1 y2 y3 y4 y5 y6 y7 y8 y9 : Int), EqA Tryz.prog 40 [.int .u32 x0, .int .i32 x1, .int .i32 x2, .int .i32 x3, .int .i32 x4, .int .i32 x5, .int .i32 x6, .int .i32 x7, .int .i32 x8, .int .i32 x9] [.int .u32 y0, .int .i32 y1, .int .i32 y2, .int .i32 y3, .int .i32 y4, .int .i32 y5, .int .i32 y6, .int .i32 y7, .int .i32 y8, .int .i32 y9] (decide (x0 = y0 ∧ x1 = y1 ∧ x2 = y2 ∧ x3 = y3 ∧ x4 = y4 ∧ x5 = y5 ∧ x6 = y6 ∧ x7 = y7 ∧ x8 = y8 ∧ x9 = y9)) := fun x0 x1 x2 x3 x4 x5 x6 x7 x8 x9 y0 y1 y2 y3 y4 y5 y6 y7 y8 y9 => ⟨by kernel_rfl, fun w => aXo 9997 w x0 x1 x2 x3 x4 x5 x6 x7 x8 x9 y0 y1 y2 y3 y4 y5 y6 y7 y8 y9⟩
theorem bW : gO Tryz.prog 40 = some 10 := by kernel_rfl
theorem aUi : ∀ (d : Nat) (w : World) (x0 x1 y0 y1 : Int), (Op.equalIn (d + 2) 119 (.agg [.int .u32 x0, .int .u32 x1].toArray) (.agg [.int .u32 y0, .int .u32 y1].toArray)).run Tryz.prog w = .ok (decide (x0 = y0 ∧ x1 = y1)) w := fun d w x0 x1 y0 y1 => by
    have h := oD (P := Tryz.prog) (T := 119) (dd := d + 1) (xs := [.int .u32 x0, .int .u32 x1]) (ys := [.int .u32 y0, .int .u32 y1]) (w := w) Tryz.underlying119 (by kernel_rfl) (eL rfl (fK cX rfl) (fK cX rfl) (kW (dd := d + 0) Tryz.underlying36) (eL rfl (fK cX rfl) (fK cX rfl) (kW (dd := d + 0) Tryz.underlying36) (sZ)))
    refine h.trans (congrArg (fun r => Result.ok r w) ?_)
    simp only [Bool.decide_and, Bool.and_true, Bool.and_assoc]
theorem aUq : ∀ (x0 x1 y0 y1 : Int), EqA Tryz.prog 119 [.int .u32 x0, .int .u32 x1] [.int .u32 y0, .int .u32 y1] (decide (x0 = y0 ∧ x1 = y1)) := fun x0 x1 y0 y1 => ⟨by kernel_rfl, fun w => aUi 9998 w x0 x1 y0 y1⟩
theorem eT : gO Tryz.prog 119 = some 2 := by kernel_rfl
theorem aTb : aR Tryz.prog 170 = true := by kernel_rfl
theorem aYg : iW Tryz.prog 119 = some (.agg [.int .u32 0, .int .u32 0].toArray) := by kernel_rfl
theorem jZ : gM Tryz.prog 3 = true := by kernel_rfl
theorem kV : gM Tryz.prog 4 = true := by kernel_rfl
theorem nP : eO Tryz.prog 40 1 1 = true := by kernel_rfl
theorem kK : eO Tryz.prog 40 2 2 = true := by kernel_rfl
theorem dL : eO Tryz.prog 38 0 0 = true := by kernel_rfl
theorem wS : aR Tryz.prog 55 = true := by kernel_rfl
theorem dH : eO Tryz.prog 38 1 1 = true := by kernel_rfl
theorem fD : eO Tryz.prog 40 3 4 = true := by kernel_rfl
theorem sT : eO Tryz.prog 40 4 5 = true := by kernel_rfl
theorem eG : eO Tryz.prog 40 5 6 = true := by kernel_rfl
theorem eS : eO Tryz.prog 40 6 8 = true := by kernel_rfl
theorem dD : eF Tryz.prog 22 40 10 40 = true := by kernel_rfl
theorem dZ : eO Tryz.prog 40 0 0 = true := by kernel_rfl
theorem mixed : Tryz.prog.follows .mixedOrders = true := by kernel_rfl
theorem kN : gM Tryz.prog 22 = true := by kernel_rfl
theorem kR : fP Tryz.prog 40 = some [.int .u32 0, .int .i32 0, .int .i32 0, .int .i32 0, .int .i32 0, .int .i32 0, .int .i32 0, .int .i32 0, .int .i32 0, .int .i32 0] := by kernel_rfl
theorem lU : fO Tryz.prog 40 [.int .u32 0, .int .i32 0, .int .i32 0, .int .i32 0, .int .i32 0, .int .i32 0, .int .i32 0, .int .i32 0, .int .i32 0, .int .i32 0] [(0, 1), (1, 1), (2, 2), (4, 1), (5, 1), (6, 2), (8, 2)] := dY Tryz.underlying40 (by kernel_rfl) (by kernel_rfl) (by kernel_rfl)
theorem aMm : aR Tryz.prog 121 = true := by kernel_rfl
theorem aLx : aR Tryz.prog 97 = true := by kernel_rfl
theorem aWy : aR Tryz.prog 49 = true := by kernel_rfl
theorem aSt : aR Tryz.prog 24 = true := by kernel_rfl
theorem aXj : aR Tryz.prog 38 = true := by kernel_rfl
theorem aXp : aR Tryz.prog 90 = true := by kernel_rfl
theorem aWs : aR Tryz.prog 59 = true := by kernel_rfl
theorem aXi : aR Tryz.prog 50 = true := by kernel_rfl
theorem aXf : aR Tryz.prog 36 = true := by kernel_rfl
theorem us3 : (Tryz.prog.underlying 3).isSome = true := by kernel_rfl
theorem aWp : (Tryz.prog.underlying 136).isSome = true := by kernel_rfl
theorem aNn : aR Tryz.prog 140 = true := by kernel_rfl
theorem aVb : aR Tryz.prog 139 = true := by kernel_rfl
theorem aKi : aR Tryz.prog 215 = true := by kernel_rfl
theorem zN : fP Tryz.prog 193 = some [.int .i32 0, .int .i32 0, .int .i32 0, .int .i32 0] := by kernel_rfl
theorem aTl : aR Tryz.prog 190 = true := by kernel_rfl
theorem xW : fO Tryz.prog 193 [.int .i32 0, .int .i32 0, .int .i32 0, .int .i32 0] [(0, 1), (1, 1), (2, 1), (3, 1)] := dY Tryz.underlying193 (by kernel_rfl) (by kernel_rfl) (by kernel_rfl)
theorem fZ : gO Tryz.prog 193 = some 4 := by kernel_rfl
theorem pP : eO Tryz.prog 193 0 0 = true := by kernel_rfl
theorem qI : eO Tryz.prog 193 2 2 = true := by kernel_rfl
theorem qB : eO Tryz.prog 193 1 1 = true := by kernel_rfl
theorem pU : eO Tryz.prog 193 3 3 = true := by kernel_rfl
theorem aFm : aR Tryz.prog 192 = true := by kernel_rfl
theorem aWd : aR Tryz.prog 193 = true := by kernel_rfl
theorem mG : fP Tryz.prog 226 = some [.int .i32 0, .int .i32 0] := by kernel_rfl
theorem wQ : fO Tryz.prog 226 [.int .i32 0, .int .i32 0] [(0, 1), (1, 1)] := dY Tryz.underlying226 (by kernel_rfl) (by kernel_rfl) (by kernel_rfl)
theorem fN : gO Tryz.prog 226 = some 2 := by kernel_rfl
theorem dU : fO Tryz.prog 38 [.int .i32 0, .int .i32 0] [(0, 1), (1, 1)] := dY Tryz.underlying38 (by kernel_rfl) (by kernel_rfl) (by kernel_rfl)
theorem aLz : aR Tryz.prog 229 = true := by kernel_rfl
theorem aUu : aR Tryz.prog 216 = true := by kernel_rfl
theorem aNs : fP Tryz.prog 4 = some [.bool false] := by kernel_rfl
theorem tN : eO Tryz.prog 226 1 1 = true := by kernel_rfl
theorem tT : eO Tryz.prog 226 0 0 = true := by kernel_rfl
theorem aRk : fP Tryz.prog 224 = some [.slice none 0 0] := by kernel_rfl
theorem aVy : aR Tryz.prog 191 = true := by kernel_rfl
theorem aTg : aR Tryz.prog 217 = true := by kernel_rfl
theorem aFn : gM Tryz.prog 224 = true := by kernel_rfl
theorem aNc : eF Tryz.prog 224 226 2 8 = true := by kernel_rfl
theorem fE : (Tryz.prog.underlying 21).isSome = true := by kernel_rfl
theorem aLw : wE Tryz.prog 270 2 36 1 = true := by kernel_rfl
theorem aYn : (Tryz.prog.underlying 36).isSome = true := by kernel_rfl
theorem aUh : aR Tryz.prog 206 = true := by kernel_rfl
theorem us2 : (Tryz.prog.underlying 2).isSome = true := by kernel_rfl
theorem xX : (Tryz.prog.underlying 170).isSome = true := by kernel_rfl
theorem nJ : aR Tryz.prog 179 = true := by kernel_rfl
theorem aEb : aR Tryz.prog 178 = true := by kernel_rfl
theorem aNg : aR Tryz.prog 180 = true := by kernel_rfl
theorem yN : aR Tryz.prog 181 = true := by kernel_rfl
theorem yQ : aR Tryz.prog 207 = true := by kernel_rfl
theorem aKn : aR Tryz.prog 201 = true := by kernel_rfl
theorem aDw : aR Tryz.prog 173 = true := by kernel_rfl
theorem aTw : aR Tryz.prog 203 = true := by kernel_rfl
theorem gA : fP Tryz.prog 38 = some [.int .i32 0, .int .i32 0] := by kernel_rfl
theorem aKm : aR Tryz.prog 175 = true := by kernel_rfl
theorem aLy : aR Tryz.prog 202 = true := by kernel_rfl
theorem tJ : aR Tryz.prog 200 = true := by kernel_rfl
theorem jM : gM Tryz.prog 2 = true := by kernel_rfl
theorem yC : aR Tryz.prog 141 = true := by kernel_rfl
theorem aTh : aR Tryz.prog 244 = true := by kernel_rfl
theorem vN : fP Tryz.prog 2 = some [.int .i64 0] := by kernel_rfl
theorem aLc : aR Tryz.prog 245 = true := by kernel_rfl
theorem nC : gM Tryz.prog 170 = true := by kernel_rfl
theorem aPr : fP Tryz.prog 170 = some [.int .u64 0] := by kernel_rfl
theorem rM : wE Tryz.prog 318 2 38 2 = true := by kernel_rfl
theorem aFu : fP Tryz.prog 318 = some [.int .i32 0, .int .i32 0, .int .i32 0, .int .i32 0] := by kernel_rfl
theorem yI : aR Tryz.prog 239 = true := by kernel_rfl
theorem zV : aR Tryz.prog 238 = true := by kernel_rfl
theorem aVv : aR Tryz.prog 221 = true := by kernel_rfl
theorem qF : fP Tryz.prog 239 = some [.int .u32 0, .int .i32 0, .int .i32 0, .int .i32 0, .int .i32 0, .int .i32 0, .int .i32 0, .int .i32 0, .int .i32 0, .int .i32 0, .int .i32 0, .int .i32 0, .int .i32 0, .int .i32 0] := by kernel_rfl
theorem aUk : aR Tryz.prog 220 = true := by kernel_rfl
theorem aHg : fO Tryz.prog 239 [.int .u32 0, .int .i32 0, .int .i32 0, .int .i32 0, .int .i32 0, .int .i32 0, .int .i32 0, .int .i32 0, .int .i32 0, .int .i32 0, .int .i32 0, .int .i32 0, .int .i32 0, .int .i32 0] [(0, 10), (10, 2), (12, 2)] := dY Tryz.underlying239 (by kernel_rfl) (by kernel_rfl) (by kernel_rfl)
theorem iT : gO Tryz.prog 239 = some 14 := by kernel_rfl
theorem zU : aR Tryz.prog 198 = true := by kernel_rfl
theorem aBj : eO Tryz.prog 239 1 10 = true := by kernel_rfl
theorem aCs : eO Tryz.prog 239 2 12 = true := by kernel_rfl
theorem aUb : aR Tryz.prog 199 = true := by kernel_rfl
theorem pC : eO Tryz.prog 239 0 0 = true := by kernel_rfl
theorem pY : fP Tryz.prog 121 = some [.int .u32 0, .int .u32 0, .int .i32 0, .int .i32 0, .int .i32 0] := by kernel_rfl
theorem aTe : aR Tryz.prog 171 = true := by kernel_rfl
theorem aUg : aR Tryz.prog 172 = true := by kernel_rfl
theorem xI : fO Tryz.prog 121 [.int .u32 0, .int .u32 0, .int .i32 0, .int .i32 0, .int .i32 0] [(0, 2), (2, 2), (4, 1)] := dY Tryz.underlying121 (by kernel_rfl) (by kernel_rfl) (by kernel_rfl)
theorem fJ : gO Tryz.prog 121 = some 5 := by kernel_rfl
theorem wM : fO Tryz.prog 119 [.int .u32 0, .int .u32 0] [(0, 1), (1, 1)] := dY Tryz.underlying119 (by kernel_rfl) (by kernel_rfl) (by kernel_rfl)
theorem nN : fP Tryz.prog 119 = some [.int .u32 0, .int .u32 0] := by kernel_rfl
theorem aWb : aR Tryz.prog 174 = true := by kernel_rfl
theorem aDb : eO Tryz.prog 191 1 1024 = true := by kernel_rfl
theorem aWa : aR Tryz.prog 161 = true := by kernel_rfl
theorem aUe : aR Tryz.prog 162 = true := by kernel_rfl
theorem aNe : aCg Tryz.prog 223 3 4 .i64 = true := by kernel_rfl
theorem zv4 : iW Tryz.prog 4 = some (.bool false) := by kernel_rfl
theorem vG : eO Tryz.prog 191 0 0 = true := by kernel_rfl
theorem aEv : wE Tryz.prog 189 1024 188 1 = true := by kernel_rfl
theorem yW : gM Tryz.prog 188 = true := by kernel_rfl
theorem aBa : eF Tryz.prog 188 36 1 4 = true := by kernel_rfl
theorem aOm : eF Tryz.prog 302 3 1 8 = true := by kernel_rfl
theorem lG : eO Tryz.prog 119 0 0 = true := by kernel_rfl
theorem lL : eO Tryz.prog 119 1 1 = true := by kernel_rfl
theorem aUm : aR Tryz.prog 197 = true := by kernel_rfl
theorem aVi : gM Tryz.prog 230 = true := by kernel_rfl
theorem aUz : aR Tryz.prog 196 = true := by kernel_rfl
theorem aEo : gM Tryz.prog 159 = true := by kernel_rfl
theorem pR : eF Tryz.prog 159 119 2 8 = true := by kernel_rfl
theorem aUw : aR Tryz.prog 218 = true := by kernel_rfl
theorem aTk : aR Tryz.prog 194 = true := by kernel_rfl
theorem aTn : aR Tryz.prog 195 = true := by kernel_rfl
theorem aTr : gO Tryz.prog 189 = some 1024 := by kernel_rfl
theorem aVg : aR Tryz.prog 167 = true := by kernel_rfl
theorem aHs : fO Tryz.prog 231 [] [] := dY Tryz.underlying231 (by kernel_rfl) (by kernel_rfl) (by kernel_rfl)
theorem aUd : aR Tryz.prog 169 = true := by kernel_rfl
theorem aUj : aR Tryz.prog 168 = true := by kernel_rfl
theorem aUn : aR Tryz.prog 160 = true := by kernel_rfl
theorem zR : aCg Tryz.prog 186 36 193 .u32 = true := by kernel_rfl
theorem aXl : fP Tryz.prog 3 = some [.int .i64 0] := by kernel_rfl
theorem aKw : gM Tryz.prog 186 = true := by kernel_rfl
theorem aLf : iW Tryz.prog 193 = some (.agg [.int .i32 0, .int .i32 0, .int .i32 0, .int .i32 0].toArray) := by kernel_rfl
theorem aUa : aR Tryz.prog 164 = true := by kernel_rfl
theorem aMz : aR Tryz.prog 163 = true := by kernel_rfl
theorem aTz : aR Tryz.prog 166 = true := by kernel_rfl
theorem aVt : aR Tryz.prog 132 = true := by kernel_rfl
theorem aTy : aR Tryz.prog 133 = true := by kernel_rfl
theorem aTm : aR Tryz.prog 134 = true := by kernel_rfl
theorem aVk : aR Tryz.prog 136 = true := by kernel_rfl
theorem aVe : aR Tryz.prog 135 = true := by kernel_rfl
theorem aWg : aR Tryz.prog 165 = true := by kernel_rfl
theorem aXr : aR Tryz.prog 39 = true := by kernel_rfl
theorem tZ : eO Tryz.prog 158 0 0 = true := by kernel_rfl
theorem vJ : gM Tryz.prog 156 = true := by kernel_rfl
theorem uS : aCg Tryz.prog 156 36 40 .u32 = true := by kernel_rfl
theorem aRv : iW Tryz.prog 40 = some (.agg [.int .u32 0, .int .i32 0, .int .i32 0, .int .i32 0, .int .i32 0, .int .i32 0, .int .i32 0, .int .i32 0, .int .i32 0, .int .i32 0].toArray) := by kernel_rfl
theorem aNb : aR Tryz.prog 137 = true := by kernel_rfl
theorem mT : eO Tryz.prog 158 1 1 = true := by kernel_rfl
theorem mU : gM Tryz.prog 82 = true := by kernel_rfl
theorem aHx : eF Tryz.prog 82 121 5 20 = true := by kernel_rfl
theorem aTj : aR Tryz.prog 107 = true := by kernel_rfl
theorem aJp : fO Tryz.prog 158 [.map none, .slice none 0 0] [(0, 1), (1, 1)] := dY Tryz.underlying158 (by kernel_rfl) (by kernel_rfl) (by kernel_rfl)
theorem aUr : aR Tryz.prog 105 = true := by kernel_rfl
theorem aVl : aR Tryz.prog 106 = true := by kernel_rfl
end Go.Proofs.YtlmcphcgiclanaaGreatDoor

namespace Go.Proofs.YtlmcphcgiclanaaGreatDoor
open Go.Bil
open Go.Proofs
end Go.Proofs.YtlmcphcgiclanaaGreatDoor

namespace Go.Proofs.YtlmcphcgiclanaaGreatDoor
open Go.Bil
open Go.Proofs
end Go.Proofs.YtlmcphcgiclanaaGreatDoor

namespace Go.Proofs.YtlmcphcgiclanaaGreatDoor
open Go.Bil
open Go.Proofs
theorem aVw : aR Tryz.prog 246 = true := by kernel_rfl
theorem aVf : aR Tryz.prog 240 = true := by kernel_rfl
theorem lE : eO Tryz.prog 121 1 2 = true := by kernel_rfl
theorem aVm : aR Tryz.prog 222 = true := by kernel_rfl
theorem aUf : aR Tryz.prog 223 = true := by kernel_rfl
theorem aLe : aR Tryz.prog 224 = true := by kernel_rfl
theorem aMv : aR Tryz.prog 225 = true := by kernel_rfl
theorem lK : eO Tryz.prog 246 0 0 = true := by kernel_rfl
theorem pE : eO Tryz.prog 121 0 0 = true := by kernel_rfl
theorem zH : aR Tryz.prog 109 = true := by kernel_rfl
theorem aUo : aR Tryz.prog 204 = true := by kernel_rfl
theorem aNj : aR Tryz.prog 205 = true := by kernel_rfl
theorem lH : eO Tryz.prog 246 1 1 = true := by kernel_rfl
theorem iU : gM Tryz.prog 200 = true := by kernel_rfl
theorem lO : eO Tryz.prog 246 2 2 = true := by kernel_rfl
theorem kE : eF Tryz.prog 200 2 1 8 = true := by kernel_rfl
theorem aTu : aR Tryz.prog 177 = true := by kernel_rfl
theorem wO : fO Tryz.prog 246 [.slice none 0 0, .slice none 0 0, .slice none 0 0] [(0, 1), (1, 1), (2, 1)] := dY Tryz.underlying246 (by kernel_rfl) (by kernel_rfl) (by kernel_rfl)
theorem aOo : aR Tryz.prog 176 = true := by kernel_rfl
theorem aUp : aR Tryz.prog 138 = true := by kernel_rfl
theorem aEp : aR Tryz.prog 118 = true := by kernel_rfl
theorem aWk : aR Tryz.prog 108 = true := by kernel_rfl
theorem aLj : eO Tryz.prog 121 2 4 = true := by kernel_rfl
theorem aLq : aR Tryz.prog 142 = true := by kernel_rfl
theorem wR : gM Tryz.prog 97 = true := by kernel_rfl
theorem aBs : eF Tryz.prog 97 135 2 16 = true := by kernel_rfl
theorem vP : eO Tryz.prog 135 0 0 = true := by kernel_rfl
theorem uI : eO Tryz.prog 135 1 1 = true := by kernel_rfl
theorem aGm : fP Tryz.prog 135 = some [.int .i64 0, .int .i64 0] := by kernel_rfl
theorem aVp : fP Tryz.prog 97 = some [.slice none 0 0] := by kernel_rfl
theorem aOq : aR Tryz.prog 111 = true := by kernel_rfl
theorem aNv : aR Tryz.prog 110 = true := by kernel_rfl
theorem aGs : eF Tryz.prog 175 133 1 8 = true := by kernel_rfl
theorem aTs : gM Tryz.prog 133 = true := by kernel_rfl
theorem aXw : aR Tryz.prog 84 = true := by kernel_rfl
theorem aLv : aR Tryz.prog 85 = true := by kernel_rfl
theorem aWu : aR Tryz.prog 83 = true := by kernel_rfl
theorem aSm : aR Tryz.prog 82 = true := by kernel_rfl
theorem aXa : aR Tryz.prog 86 = true := by kernel_rfl
theorem aSs : aR Tryz.prog 53 = true := by kernel_rfl
theorem aSl : aR Tryz.prog 54 = true := by kernel_rfl
theorem sY : eO Tryz.prog 84 1 1 = true := by kernel_rfl
theorem oB : eO Tryz.prog 84 3 3 = true := by kernel_rfl
theorem iZ : eO Tryz.prog 27 2 2 = true := by kernel_rfl
theorem yJ : eO Tryz.prog 84 0 0 = true := by kernel_rfl
theorem aWr : aR Tryz.prog 71 = true := by kernel_rfl
theorem tD : eO Tryz.prog 84 2 2 = true := by kernel_rfl
theorem tH : eO Tryz.prog 27 0 0 = true := by kernel_rfl
theorem nU : eO Tryz.prog 27 1 1 = true := by kernel_rfl
theorem aNl : aR Tryz.prog 72 = true := by kernel_rfl
theorem aWw : aR Tryz.prog 73 = true := by kernel_rfl
theorem aXx : aR Tryz.prog 74 = true := by kernel_rfl
theorem mC : fP Tryz.prog 27 = some [.int .i64 0, .int .i64 0, .bool false] := by kernel_rfl
theorem aNh : fO Tryz.prog 84 [.slice none 0 0, .slice none 0 0, .slice none 0 0, .int .i64 0, .int .i64 0, .bool false] [(0, 1), (1, 1), (2, 1), (3, 3)] := dY Tryz.underlying84 (by kernel_rfl) (by kernel_rfl) (by kernel_rfl)
theorem aBf : wE Tryz.prog 86 4 85 1 = true := by kernel_rfl
theorem aWj : fP Tryz.prog 86 = some [.nilFunc, .nilFunc, .nilFunc, .nilFunc] := by kernel_rfl
theorem aGx : gM Tryz.prog 85 = true := by kernel_rfl
theorem aWz : aR Tryz.prog 40 = true := by kernel_rfl
theorem aXc : aR Tryz.prog 41 = true := by kernel_rfl
theorem aXz : aR Tryz.prog 42 = true := by kernel_rfl
theorem aXv : aR Tryz.prog 43 = true := by kernel_rfl
theorem kI : gO Tryz.prog 27 = some 3 := by kernel_rfl
theorem aCv : aR Tryz.prog 16 = true := by kernel_rfl
end Go.Proofs.YtlmcphcgiclanaaGreatDoor

namespace Go.Proofs.YtlmcphcgiclanaaGreatDoor
open Go.Bil
open Go.Proofs
theorem aXt : aR Tryz.prog 19 = true := by kernel_rfl
theorem aBw : ∀ (x0 x1 y0 y1 : Int), EqA Tryz.prog 38 [.int .i32 x0, .int .i32 x1] [.int .i32 y0, .int .i32 y1] (decide (x0 = y0 ∧ x1 = y1)) := fun x0 x1 y0 y1 => ⟨by kernel_rfl, fun w => aGg 9998 w x0 x1 y0 y1⟩
theorem aBc : fO Tryz.prog 27 [.int .i64 0, .int .i64 0, .bool false] [(0, 1), (1, 1), (2, 1)] := dY Tryz.underlying27 (by kernel_rfl) (by kernel_rfl) (by kernel_rfl)
theorem aYe : aR Tryz.prog 23 = true := by kernel_rfl
end Go.Proofs.YtlmcphcgiclanaaGreatDoor

namespace Go.Proofs.YtlmcphcgiclanaaGreatDoor
open Go.Bil
open Go.Proofs
theorem aXd : aR Tryz.prog 14 = true := by kernel_rfl
theorem aSq : aR Tryz.prog 15 = true := by kernel_rfl
theorem aXh : aR Tryz.prog 18 = true := by kernel_rfl
theorem aNu : kZ Tryz.prog 4 40 = some [.u32, .i32, .i32, .i32, .i32, .i32, .i32, .i32, .i32, .i32] := by kernel_rfl
theorem aSh : aR Tryz.prog 21 = true := by kernel_rfl
theorem aMe : kZ Tryz.prog 3 38 = some [.i32, .i32] := by kernel_rfl
end Go.Proofs.YtlmcphcgiclanaaGreatDoor

namespace Go.Proofs.YtlmcphcgiclanaaGreatDoor
open Go.Bil
open Go.RowKit (Below)
open Go.Proofs
set_option maxHeartbeats 4000000 in
theorem lT (w : World) (n l : Int) (h0 : 0 ≤ l) (h1 : l ≤ 2147483647) :
    Calls Tryz.prog 55 #[.int .i32 n, .int .i32 l] w (fun ex w' => ∃ v, ex = .returned v ∧ (fun v w' => v = .bool (decide (qJ n l)) ∧ Below w.heap.size w w') v w') := by
  have hneg : IntKind.i32.wrap (-l) = -l := iY _ (by omega) (by omega)
  refine aJ #[.tmp 4] 14 Tryz.func55 rfl Tryz.results55 Tryz.ntmps55 rfl ?_
  have M0 := Mem.refl w
  refine aG (aB ?_)
  refine aA (aD (.bool false) rfl) rfl rfl ?_
  refine aE (aF (aG (aB ?_)))
  refine aA (aC (.int _ _) rfl) rfl rfl ?_
  refine aA (aC (.int _ _) rfl) rfl rfl ?_
  refine aA (aBx rfl) rfl rfl ?_
  refine aN 7 (.int .i32 (-l)) (iE hneg) ?_
  refine aA (aO (.bool (decide _)) rfl rfl rfl) rfl rfl ?_
  refine aA (aC (.bool (decide _)) rfl) rfl rfl ?_
  refine dC 9 rfl (fun g9 => ?_) (fun g9 => ?_)
  · refine aA (aC (.int _ _) rfl) rfl rfl ?_
    refine aA (aC (.int _ _) rfl) rfl rfl ?_
    refine aA (aO (.bool (decide _)) rfl rfl rfl) rfl rfl ?_
    refine aA (bM true (.bool (decide _)) rfl rfl) rfl rfl ?_
    refine aA (aD (.bool (decide _)) rfl) rfl rfl ?_
    refine aE (aF (aQ ?_))
    refine cJ (.bool (decide _)) rfl ?_
    exact ⟨by unfold qJ; first | exact bF (by omega) | exact bD (by omega), M0.below⟩
  · refine aP rfl rfl ?_
    refine aP rfl rfl ?_
    refine aP rfl rfl ?_
    refine aA (bM false (.bool false) rfl rfl) rfl rfl ?_
    refine aA (aD (.bool false) rfl) rfl rfl ?_
    refine aE (aF (aQ ?_))
    refine cJ (.bool false) rfl ?_
    exact ⟨by unfold qJ; first | exact bF (by omega) | exact bD (by omega), M0.below⟩
set_option maxHeartbeats 4000000 in
theorem rW (w : World) (b : Body) :
    Calls Tryz.prog 24 #[(.agg (aI b).toArray)] w (fun ex w' => ∃ v, ex = .returned v ∧ (fun v w' => v = .int .i64 (check b) ∧ Below w.heap.size w w') v w') := by
  refine aJ #[.tmp 2] 63 Tryz.func24 rfl Tryz.results24 Tryz.ntmps24 rfl ?_
  have M0 := Mem.refl w
  refine aG (aB ?_)
  refine bL (.agg (List.toArray _)) M0 rfl rfl rfl (fun b1 w1 M1 => ?_)
  refine aA (aD (.int _ _) rfl) rfl rfl ?_
  refine aE (aF (aG (aG (aB ?_))))
  refine aA (aH 1 nP rfl) rfl rfl ?_
  refine aA (aY 0 (.int _ _) bG M1 rfl rfl rfl) rfl rfl ?_
  refine aA (aO (.bool (decide _)) rfl rfl rfl) rfl rfl ?_
  refine aA (aC (.bool (decide _)) rfl) rfl rfl ?_
  refine dC 6 rfl (fun g6 => ?_) (fun g6 => ?_)
  · refine aP rfl rfl ?_
    refine aP rfl rfl ?_
    refine aP rfl rfl ?_
    refine aA (bM true (.bool true) rfl rfl) rfl rfl ?_
    refine aE (aF ?_)
    refine dE rfl ?_
    refine aG (aB ?_)
    refine aA (aD (.int _ _) rfl) rfl rfl ?_
    refine aE (aF (aQ (cC ?_)))
    refine cJ (.int _ _) rfl ?_
    exact ⟨iE (by unfold check; unfold qJ at *; (repeat' split) <;> omega), M1.below⟩
  · refine aA (aH 1 nP rfl) rfl rfl ?_
    refine aA (aY 0 (.int _ _) bG M1 rfl rfl rfl) rfl rfl ?_
    refine aA (aO (.bool (decide _)) rfl rfl rfl) rfl rfl ?_
    refine aA (bM false (.bool (decide _)) rfl rfl) rfl rfl ?_
    refine aE (aF ?_)
    refine aZ rfl (fun h10 => ?_) (fun h10 => ?_)
    · refine aG (aB ?_)
      refine aA (aD (.int _ _) rfl) rfl rfl ?_
      refine aE (aF (aQ (cC ?_)))
      refine cJ (.int _ _) rfl ?_
      exact ⟨iE (by unfold check; unfold qJ at *; (repeat' split) <;> omega), M1.below⟩
    · refine aM (aF (aG (aG (aB ?_))))
      refine aA (aH 2 kK rfl) rfl rfl ?_
      refine aA (aH 0 dL rfl) rfl rfl ?_
      refine aA (aY 0 (.int _ _) bG M1 rfl rfl rfl) rfl rfl ?_
      refine aL wS rfl rfl rfl ?_
      refine (lT _ _ _ (by omega) (by omega)).mono ?_
      rintro _ w2 ⟨v2, rfl, ⟨rfl, hb2⟩⟩
      refine ⟨_, rfl, ?_⟩
      have M2 := M1.callB hb2
      refine aA (oN rfl) rfl rfl ?_
      refine aA (aC (.bool (decide _)) rfl) rfl rfl ?_
      refine dC 16 rfl (fun g16 => ?_) (fun g16 => ?_)
      · refine aP rfl rfl ?_
        refine aP rfl rfl ?_
        refine aP rfl rfl ?_
        refine aP rfl rfl ?_
        refine aP rfl rfl ?_
        refine aA (bM true (.bool true) rfl rfl) rfl rfl ?_
        refine aE (aF ?_)
        refine dE rfl ?_
        refine aG (aB ?_)
        refine aA (aD (.int _ _) rfl) rfl rfl ?_
        refine aE (aF (aQ (cC ?_)))
        refine cJ (.int _ _) rfl ?_
        exact ⟨iE (by unfold check; unfold qJ at *; (repeat' split) <;> omega), M2.below⟩
      · refine aA (aH 2 kK rfl) rfl rfl ?_
        refine aA (aH 1 dH rfl) rfl rfl ?_
        refine aA (aY 0 (.int _ _) bG M2 rfl rfl rfl) rfl rfl ?_
        refine aL wS rfl rfl rfl ?_
        refine (lT _ _ _ (by omega) (by omega)).mono ?_
        rintro _ w3 ⟨v3, rfl, ⟨rfl, hb3⟩⟩
        refine ⟨_, rfl, ?_⟩
        have M3 := M2.callB hb3
        refine aA (oN rfl) rfl rfl ?_
        refine aA (bM false (.bool (decide _)) rfl rfl) rfl rfl ?_
        refine aE (aF ?_)
        refine aZ rfl (fun h22 => ?_) (fun h22 => ?_)
        · refine aG (aB ?_)
          refine aA (aD (.int _ _) rfl) rfl rfl ?_
          refine aE (aF (aQ (cC ?_)))
          refine cJ (.int _ _) rfl ?_
          exact ⟨iE (by unfold check; unfold qJ at *; (repeat' split) <;> omega), M3.below⟩
        · refine aM (aF (aG (aG (aB ?_))))
          refine aA (aH 4 fD rfl) rfl rfl ?_
          refine aA (aY 0 (.int _ _) bG M3 rfl rfl rfl) rfl rfl ?_
          refine aA (aO (.bool (decide _)) rfl rfl rfl) rfl rfl ?_
          refine aA (aC (.bool (decide _)) rfl) rfl rfl ?_
          refine dC 26 rfl (fun g26 => ?_) (fun g26 => ?_)
          · refine aP rfl rfl ?_
            refine aP rfl rfl ?_
            refine aP rfl rfl ?_
            refine aA (bM true (.bool true) rfl rfl) rfl rfl ?_
            refine aE (aF ?_)
            refine dE rfl ?_
            refine aG (aB ?_)
            refine aA (aD (.int _ _) rfl) rfl rfl ?_
            refine aE (aF (aQ (cC ?_)))
            refine cJ (.int _ _) rfl ?_
            exact ⟨iE (by unfold check; unfold qJ at *; (repeat' split) <;> omega), M3.below⟩
          · refine aA (aH 4 fD rfl) rfl rfl ?_
            refine aA (aY 0 (.int _ _) bG M3 rfl rfl rfl) rfl rfl ?_
            refine aA (aO (.bool (decide _)) rfl rfl rfl) rfl rfl ?_
            refine aA (bM false (.bool (decide _)) rfl rfl) rfl rfl ?_
            refine aE (aF ?_)
            refine aZ rfl (fun h30 => ?_) (fun h30 => ?_)
            · refine aG (aB ?_)
              refine aA (aD (.int _ _) rfl) rfl rfl ?_
              refine aE (aF (aQ (cC ?_)))
              refine cJ (.int _ _) rfl ?_
              exact ⟨iE (by unfold check; unfold qJ at *; (repeat' split) <;> omega), M3.below⟩
            · refine aM (aF (aG (aG (aB ?_))))
              refine aA (aH 5 sT rfl) rfl rfl ?_
              refine aA (aY 0 (.int _ _) bG M3 rfl rfl rfl) rfl rfl ?_
              refine aA (aO (.bool (decide _)) rfl rfl rfl) rfl rfl ?_
              refine aA (aC (.bool (decide _)) rfl) rfl rfl ?_
              refine dC 34 rfl (fun g34 => ?_) (fun g34 => ?_)
              · refine aP rfl rfl ?_
                refine aP rfl rfl ?_
                refine aP rfl rfl ?_
                refine aA (bM true (.bool true) rfl rfl) rfl rfl ?_
                refine aE (aF ?_)
                refine dE rfl ?_
                refine aG (aB ?_)
                refine aA (aD (.int _ _) rfl) rfl rfl ?_
                refine aE (aF (aQ (cC ?_)))
                refine cJ (.int _ _) rfl ?_
                exact ⟨iE (by unfold check; unfold qJ at *; (repeat' split) <;> omega), M3.below⟩
              · refine aA (aH 5 sT rfl) rfl rfl ?_
                refine aA (aY 0 (.int _ _) bG M3 rfl rfl rfl) rfl rfl ?_
                refine aA (aO (.bool (decide _)) rfl rfl rfl) rfl rfl ?_
                refine aA (bM false (.bool (decide _)) rfl rfl) rfl rfl ?_
                refine aE (aF ?_)
                refine aZ rfl (fun h38 => ?_) (fun h38 => ?_)
                · refine aG (aB ?_)
                  refine aA (aD (.int _ _) rfl) rfl rfl ?_
                  refine aE (aF (aQ (cC ?_)))
                  refine cJ (.int _ _) rfl ?_
                  exact ⟨iE (by unfold check; unfold qJ at *; (repeat' split) <;> omega), M3.below⟩
                · refine aM (aF (aG (aG (aB ?_))))
                  refine aA (aH 6 eG rfl) rfl rfl ?_
                  refine aA (aH 0 dL rfl) rfl rfl ?_
                  refine aA (aY 0 (.int _ _) bG M3 rfl rfl rfl) rfl rfl ?_
                  refine aL wS rfl rfl rfl ?_
                  refine (lT _ _ _ (by omega) (by omega)).mono ?_
                  rintro _ w4 ⟨v4, rfl, ⟨rfl, hb4⟩⟩
                  refine ⟨_, rfl, ?_⟩
                  have M4 := M3.callB hb4
                  refine aA (oN rfl) rfl rfl ?_
                  refine aA (aC (.bool (decide _)) rfl) rfl rfl ?_
                  refine dC 44 rfl (fun g44 => ?_) (fun g44 => ?_)
                  · refine aP rfl rfl ?_
                    refine aP rfl rfl ?_
                    refine aP rfl rfl ?_
                    refine aP rfl rfl ?_
                    refine aP rfl rfl ?_
                    refine aA (bM true (.bool true) rfl rfl) rfl rfl ?_
                    refine aE (aF ?_)
                    refine dE rfl ?_
                    refine aG (aB ?_)
                    refine aA (aD (.int _ _) rfl) rfl rfl ?_
                    refine aE (aF (aQ (cC ?_)))
                    refine cJ (.int _ _) rfl ?_
                    exact ⟨iE (by unfold check; unfold qJ at *; (repeat' split) <;> omega), M4.below⟩
                  · refine aA (aH 6 eG rfl) rfl rfl ?_
                    refine aA (aH 1 dH rfl) rfl rfl ?_
                    refine aA (aY 0 (.int _ _) bG M4 rfl rfl rfl) rfl rfl ?_
                    refine aL wS rfl rfl rfl ?_
                    refine (lT _ _ _ (by omega) (by omega)).mono ?_
                    rintro _ w5 ⟨v5, rfl, ⟨rfl, hb5⟩⟩
                    refine ⟨_, rfl, ?_⟩
                    have M5 := M4.callB hb5
                    refine aA (oN rfl) rfl rfl ?_
                    refine aA (bM false (.bool (decide _)) rfl rfl) rfl rfl ?_
                    refine aE (aF ?_)
                    refine aZ rfl (fun h50 => ?_) (fun h50 => ?_)
                    · refine aG (aB ?_)
                      refine aA (aD (.int _ _) rfl) rfl rfl ?_
                      refine aE (aF (aQ (cC ?_)))
                      refine cJ (.int _ _) rfl ?_
                      exact ⟨iE (by unfold check; unfold qJ at *; (repeat' split) <;> omega), M5.below⟩
                    · refine aM (aF (aG (aG (aB ?_))))
                      refine aA (aH 8 eS rfl) rfl rfl ?_
                      refine aA (aH 0 dL rfl) rfl rfl ?_
                      refine aA (aY 0 (.int _ _) bG M5 rfl rfl rfl) rfl rfl ?_
                      refine aL wS rfl rfl rfl ?_
                      refine (lT _ _ _ (by omega) (by omega)).mono ?_
                      rintro _ w6 ⟨v6, rfl, ⟨rfl, hb6⟩⟩
                      refine ⟨_, rfl, ?_⟩
                      have M6 := M5.callB hb6
                      refine aA (oN rfl) rfl rfl ?_
                      refine aA (aC (.bool (decide _)) rfl) rfl rfl ?_
                      refine dC 56 rfl (fun g56 => ?_) (fun g56 => ?_)
                      · refine aP rfl rfl ?_
                        refine aP rfl rfl ?_
                        refine aP rfl rfl ?_
                        refine aP rfl rfl ?_
                        refine aP rfl rfl ?_
                        refine aA (bM true (.bool true) rfl rfl) rfl rfl ?_
                        refine aE (aF ?_)
                        refine dE rfl ?_
                        refine aG (aB ?_)
                        refine aA (aD (.int _ _) rfl) rfl rfl ?_
                        refine aE (aF (aQ (cC ?_)))
                        refine cJ (.int _ _) rfl ?_
                        exact ⟨iE (by unfold check; unfold qJ at *; (repeat' split) <;> omega), M6.below⟩
                      · refine aA (aH 8 eS rfl) rfl rfl ?_
                        refine aA (aH 1 dH rfl) rfl rfl ?_
                        refine aA (aY 0 (.int _ _) bG M6 rfl rfl rfl) rfl rfl ?_
                        refine aL wS rfl rfl rfl ?_
                        refine (lT _ _ _ (by omega) (by omega)).mono ?_
                        rintro _ w7 ⟨v7, rfl, ⟨rfl, hb7⟩⟩
                        refine ⟨_, rfl, ?_⟩
                        have M7 := M6.callB hb7
                        refine aA (oN rfl) rfl rfl ?_
                        refine aA (bM false (.bool (decide _)) rfl rfl) rfl rfl ?_
                        refine aE (aF ?_)
                        refine aZ rfl (fun h62 => ?_) (fun h62 => ?_)
                        · refine aG (aB ?_)
                          refine aA (aD (.int _ _) rfl) rfl rfl ?_
                          refine aE (aF (aQ (cC ?_)))
                          refine cJ (.int _ _) rfl ?_
                          exact ⟨iE (by unfold check; unfold qJ at *; (repeat' split) <;> omega), M7.below⟩
                        · refine aM (aF (aG (aB ?_)))
                          refine aA (aD (.int _ _) rfl) rfl rfl ?_
                          refine aE (aF (aQ ?_))
                          refine cJ (.int _ _) rfl ?_
                          exact ⟨iE (by unfold check; unfold qJ at *; (repeat' split) <;> omega), M7.below⟩
end Go.Proofs.YtlmcphcgiclanaaGreatDoor

namespace Go.Proofs.YtlmcphcgiclanaaGreatDoor
open Go.Bil
open Go.RowKit (Below)
open Go.Proofs
theorem aLp (a b : Body) : EqA Tryz.prog 40 (aI a) (aI b) (decide (a = b)) := by
  have h := aYd a.key a.radius a.ax a.ay a.mass a.bounce a.px a.py a.vx a.vy b.key b.radius b.ax b.ay b.mass b.bounce b.px b.py b.vx b.vy
  rw [decide_eq_decide.2 (aLm (a := a) (b := b))]
  exact h
set_option maxHeartbeats 4000000 in
theorem aEe (w : World) (key : Int) (A : Option Addr) (n c : Nat) (xs : List Body) (R : Rd w 10 A n (xs.map aI)) :
    Calls Tryz.prog 38 #[.slice A n c, .int .u32 key] w (fun ex w' => ∃ v, ex = .returned v ∧ (fun v w' => v = .int .i64 (cD key xs) ∧ Below w.heap.size w w') v w') := by
  have hlen : xs.length = n := by simpa using R.len
  have hbd := R.bound
  refine aJ #[.tmp 4] 20 Tryz.func38 rfl Tryz.results38 Tryz.ntmps38 rfl ?_
  have M0 := Mem.refl w
  refine aG (aB ?_)
  refine aA (aD (.int _ _) rfl) rfl rfl ?_
  refine aE (aF (aG (aG (aB ?_))))
  refine aA (aD (.int _ _) rfl) rfl rfl ?_
  refine aE (aF (bB ?_))
  refine dM (σ := Nat) [0, 1] (fun k => [(5, .int .i64 (k : Int))]) (fun k w' => (k ≤ n ∧ ∀ (j : Nat) (c : Body), j < k → xs[j]? = some c → c.key ≠ key) ∧ Mem w [] [] w') (fun k => n - k) 0 (bS rfl fC) (⟨⟨by omega, fun j c hj => by omega⟩, M0⟩) ?_
  rintro k ρ1 w1 ⟨⟨hk, hne⟩, hM1⟩
  refine aG (aG (aB ?_))
  refine aA (aC (.int _ _) rfl) rfl rfl ?_
  refine aA (aC (.slice _ _ _) rfl) rfl rfl ?_
  refine aA (cS Tryz.underlying22 rfl) rfl rfl ?_
  refine aA (aO (.bool (decide _)) rfl rfl rfl) rfl rfl ?_
  refine aE (aF ?_)
  refine aZ rfl (fun h9 => ?_) (fun h9 => ?_)
  · obtain ⟨xb, hxb⟩ := cQ (k := k) hlen (by omega)
    refine aM (aF (aG (bB (aG (aB ?_)))))
    refine aA (aC (.slice _ _ _) rfl) rfl rfl ?_
    refine aA (aC (.int _ _) rfl) rfl rfl ?_
    refine aA (bQ (k) dD rfl rfl rfl ((R.mem hM1).below_len (aK aI hxb)) ((R.mem hM1).someK (aK aI hxb))) rfl rfl ?_
    refine aA (bN 0 dZ (R.mem hM1) (Nat.lt_of_le_of_lt (Nat.zero_le _) ((R.mem hM1).below_len (aK aI hxb))) rfl) rfl rfl ?_
    refine aA (eK (o := 0) (.int _ _) cX (R.mem hM1) (aK aI hxb) rfl rfl) rfl rfl ?_
    refine aA (aC (.int _ _) rfl) rfl rfl ?_
    refine aA (aO (.bool (decide _)) rfl rfl rfl) rfl rfl ?_
    refine aE (aF ?_)
    refine aZ rfl (fun h18 => ?_) (fun h18 => ?_)
    · refine aG (aB ?_)
      refine aA (aC (.int _ _) rfl) rfl rfl ?_
      refine aA (aD (.int _ _) rfl) rfl rfl ?_
      refine aE (aF (aQ ?_))
      refine lI ?_
      refine cC ?_
      refine nG ?_
      refine lI ?_
      refine cC ?_
      refine cJ (.int _ _) rfl ?_
      exact ⟨iE (pG hxb h18 hne).symm, hM1.below⟩
    · refine aM ?_
      refine dN ?_
      refine aF (aB ?_)
      refine aA (aC (.int _ _) rfl) rfl rfl ?_
      refine aA (bX rfl rfl (by omega) (by omega)) rfl rfl ?_
      refine aA (aD (.int _ _) rfl) rfl rfl ?_
      refine aE ?_
      refine cH (k + 1) (bS rfl fC) (cN rfl (cN rfl iS)) ?_ ?_
      · exact ⟨⟨by omega, pX hne hxb h18⟩, hM1⟩
      · omega
  · refine cM ?_
    refine dG ?_
    refine cZ ?_
    refine eP ?_
    refine aF (aG (aB ?_))
    refine aA (aD (.int _ _) rfl) rfl rfl ?_
    refine aE (aF (aQ ?_))
    refine cJ (.int _ _) rfl ?_
    have hkn : k = n := by omega
    exact ⟨iE (wZ (fun j b hj => hne j b (by have := (List.getElem?_eq_some_iff.1 hj).1; omega) hj)).symm, hM1.below⟩
set_option maxHeartbeats 4000000 in
theorem aFh (w : World) (A : Option Addr) (n c : Nat) (xs : List Body) (R : Rd w 10 A n (xs.map aI)) (B : Option Addr) (m c' : Nat) (ys : List Body) (R' : Rd w 10 B m (ys.map aI)) :
    Calls Tryz.prog 18 #[.slice A n c, .slice B m c'] w (fun ex w' => ∃ v, ex = .returned v ∧ (fun v w' => v = .bool (decide (xs = ys)) ∧ Below w.heap.size w w') v w') := by
  have hlen : xs.length = n := by simpa using R.len
  have hbd := R.bound
  have hlen' : ys.length = m := by simpa using R'.len
  have hbd' := R'.bound
  refine aJ #[.tmp 4] 26 Tryz.func18 rfl Tryz.results18 Tryz.ntmps18 rfl ?_
  have M0 := Mem.refl w
  refine aG (aB ?_)
  refine aA (aD (.bool false) rfl) rfl rfl ?_
  refine aE (aF (aG (aG (aB ?_))))
  refine aA (aC (.slice _ _ _) rfl) rfl rfl ?_
  refine aA (cS Tryz.underlying22 rfl) rfl rfl ?_
  refine aA (aC (.slice _ _ _) rfl) rfl rfl ?_
  refine aA (cS Tryz.underlying22 rfl) rfl rfl ?_
  refine aA (aO (.bool (decide _)) rfl rfl rfl) rfl rfl ?_
  refine aE (aF ?_)
  refine aZ rfl (fun h10 => ?_) (fun h10 => ?_)
  · refine aG (aB ?_)
    refine aA (aD (.bool false) rfl) rfl rfl ?_
    refine aE (aF (aQ (cC ?_)))
    refine cJ (.bool false) rfl ?_
    exact ⟨bF (fun e => h10 (by rw [← hlen, ← hlen', e])), M0.below⟩
  · have hnm : n = m := by omega
    refine aM (aF (aG (aG (aB ?_))))
    refine aA (aD (.int _ _) rfl) rfl rfl ?_
    refine aE (aF (bB ?_))
    refine dM (σ := Nat) [0, 1] (fun k => [(5, .int .i64 (k : Int))]) (fun k w' => (k ≤ n ∧ ∀ (j : Nat) (x : Body), j < k → xs[j]? = some x → ys[j]? = some x) ∧ Mem w [] [] w') (fun k => n - k) 0 (bS rfl fC) (⟨⟨by omega, fun j c hj => by omega⟩, M0⟩) ?_
    rintro k ρ1 w1 ⟨⟨hk, hne⟩, hM1⟩
    refine aG (aG (aB ?_))
    refine aA (aC (.int _ _) rfl) rfl rfl ?_
    refine aA (aC (.slice _ _ _) rfl) rfl rfl ?_
    refine aA (cS Tryz.underlying22 rfl) rfl rfl ?_
    refine aA (aO (.bool (decide _)) rfl rfl rfl) rfl rfl ?_
    refine aE (aF ?_)
    refine aZ rfl (fun h14 => ?_) (fun h14 => ?_)
    · obtain ⟨xb, hxb⟩ := cQ (k := k) hlen (by omega)
      obtain ⟨yb, hyb⟩ := cQ (k := k) hlen' (by omega)
      refine aM (aF (aG (bB (aG ?_))))
      refine bY [(0, 0), (1, 0), (2, 1), (3, 1), (4, 0), (5, 0), (6, 1), (7, 1), (8, 0)] mixed rfl (by kernel_rfl) (fun w2 hb2 hh2 => ?_)
      have M2 := hM1.drew hb2 hh2
      refine aU rfl rfl rfl (fun _ => aC (.slice _ _ _) rfl) ?_
      refine aU rfl rfl rfl (fun _ => aC (.int _ _) rfl) ?_
      refine cB rfl rfl rfl (bQ (k) dD rfl rfl rfl ((R.mem M2).below_len (aK aI hxb)) ((R.mem M2).someK (aK aI hxb))) ?_
      refine cB rfl rfl rfl (dO _ bW (R.mem M2) (aK aI hxb) rfl) ?_
      refine aU rfl rfl rfl (fun _ => aC (.slice _ _ _) rfl) ?_
      refine aU rfl rfl rfl (fun _ => aC (.int _ _) rfl) ?_
      refine cB rfl rfl rfl (bQ (k) dD rfl rfl rfl ((R'.mem M2).below_len (aK aI hyb)) ((R'.mem M2).someK (aK aI hyb))) ?_
      refine cB rfl rfl rfl (dO _ bW (R'.mem M2) (aK aI hyb) rfl) ?_
      refine aU rfl rfl rfl (fun _ => aXe (aLp xb yb) rfl rfl) ?_
      refine cF ?_
      refine aF ?_
      refine aZ rfl (fun h25 => ?_) (fun h25 => ?_)
      · refine aG (aB ?_)
        refine aA (aD (.bool false) rfl) rfl rfl ?_
        refine aE (aF (aQ ?_))
        refine lI ?_
        refine cC ?_
        refine nG ?_
        refine lI ?_
        refine cC ?_
        refine cJ (.bool false) rfl ?_
        exact ⟨bF (fun e => h25 (by rw [e] at hxb; rw [hxb] at hyb; injection hyb)), M2.below⟩
      · refine aM ?_
        refine dN ?_
        refine aF (aB ?_)
        refine aA (aC (.int _ _) rfl) rfl rfl ?_
        refine aA (bX rfl rfl (by omega) (by omega)) rfl rfl ?_
        refine aA (aD (.int _ _) rfl) rfl rfl ?_
        refine aE ?_
        refine cH (k + 1) (bS rfl fC) (cN rfl (cN rfl iS)) ?_ ?_
        · exact ⟨⟨by omega, pX (p := fun j x => ys[j]? = some x) hne hxb (by rw [hyb, Decidable.not_not.1 h25])⟩, M2⟩
        · omega
    · refine cM ?_
      refine dG ?_
      refine cZ ?_
      refine eP ?_
      refine aF (aG (aB ?_))
      refine aA (aD (.bool true) rfl) rfl rfl ?_
      refine aE (aF (aQ ?_))
      refine cJ (.bool true) rfl ?_
      exact ⟨bT (List.ext_getElem? fun j => by
      by_cases hj : j < xs.length
      · obtain ⟨x, hx⟩ := cQ (k := j) rfl hj
        rw [hx, hne j x (by omega) hx]
      · rw [List.getElem?_eq_none (by omega), List.getElem?_eq_none (by omega)]), hM1.below⟩
set_option maxHeartbeats 4000000 in
theorem aJi (w : World) (b : Body) (gone : Bool) (A : Option Addr) (n c : Nat) (xs : List Body) (R : Rd w 10 A n (xs.map aI)) (hn : n ≤ 1048576) :
    Calls Tryz.prog 90 #[.slice A n c, (.agg (aI b).toArray), .bool gone] w (fun ex w' => ∃ v, ex = .returned v ∧ (fun v w' => ∃ A' n' c' e, v = .slice A' n' c' ∧ aX 40 10 A' n' c' ((yP xs b gone).map aI) e ∧ Mem w [] [e] w') v w') := by
  have hlen : xs.length = n := by simpa using R.len
  have hbd := R.bound
  refine aJ #[.tmp 6] 55 Tryz.func90 rfl Tryz.results90 Tryz.ntmps90 rfl ?_
  have M0 := Mem.refl w
  refine aG (aB ?_)
  refine bL (.agg (List.toArray _)) M0 rfl rfl rfl (fun b1 w1 M1 => ?_)
  refine aA (aD (.slice _ _ _) rfl) rfl rfl ?_
  refine aE (aF (aG (aB ?_)))
  refine aA (aD (.slice _ _ _) rfl) rfl rfl ?_
  have M2 := M1.dummy default
  refine aE (aF (aG (aB ?_)))
  refine aA (aC (.bool _) rfl) rfl rfl ?_
  refine aA (aD (.bool _) rfl) rfl rfl ?_
  refine aE (aF (aG (aG (aB ?_))))
  refine aA (aD (.int _ _) rfl) rfl rfl ?_
  refine aE (aF (bB ?_))
  refine dM (σ := Nat × List Body × Bool × Row) [0, 4, 6] (fun (k, acc, done, r) => [(7, .slice r.A r.n r.c), (8, .bool done), (9, .int .i64 (k : Int))]) (fun (k, acc, done, r) w' => (k ≤ n ∧ fF b gone (xs.take k) = (acc, done) ∧ aX 40 10 r.A r.n r.c (acc.map aI) r.e) ∧ Mem w [] [(some b1, bc (aI b) 40), r.e] w') (fun (k, acc, done, r) => n - k) (0, [], gone, ⟨none, 0, 0, (none, default)⟩) (bS rfl (bS rfl (bS rfl fC))) (⟨⟨by omega, rfl, aX.nil _ _ _⟩, M2⟩) ?_
  rintro ⟨k, acc, done, r⟩ ρ3 w3 ⟨⟨hk, heq, hr⟩, hM3⟩
  have hra : acc.length = r.n := by simpa using hr.1
  have hrl : acc.length ≤ k + 1 := by have h := aDi b gone xs k; rw [heq] at h; exact h
  refine aG (aG (aB ?_))
  refine aA (aC (.int _ _) rfl) rfl rfl ?_
  refine aA (aC (.slice _ _ _) rfl) rfl rfl ?_
  refine aA (cS Tryz.underlying22 rfl) rfl rfl ?_
  refine aA (aO (.bool (decide _)) rfl rfl rfl) rfl rfl ?_
  refine aE (aF ?_)
  refine aZ rfl (fun h14 => ?_) (fun h14 => ?_)
  · obtain ⟨xb, hxb⟩ := cQ (k := k) hlen (by omega)
    refine aM (aF (aG (bB (aG (aG ?_)))))
    refine bY [(0, 0), (1, 0), (2, 0), (3, 0), (4, 0), (5, 1), (6, 1), (7, 1), (8, 0), (9, 1), (10, 0), (11, 0)] mixed rfl (by kernel_rfl) (fun w4 hb4 hh4 => ?_)
    have M4 := hM3.drew hb4 hh4
    refine aU rfl rfl rfl (fun _ => aC (.bool _) rfl) ?_
    refine aU rfl rfl rfl (fun _ => jI _ rfl rfl) ?_
    refine aU rfl rfl rfl (fun _ => aC (.bool _) rfl) ?_
    refine aRj 19 _ rfl (fun g19 => ?_) (fun g19 => ?_)
    · have hd : done = false := by simpa using g19
      refine aU rfl rfl rfl (fun _ => aC (.slice _ _ _) rfl) ?_
      refine aU rfl rfl rfl (fun _ => aC (.int _ _) rfl) ?_
      refine cB rfl rfl rfl (bQ (k) dD rfl rfl rfl ((R.mem M4).below_len (aK aI hxb)) ((R.mem M4).someK (aK aI hxb))) ?_
      refine cB rfl rfl rfl (bN 0 dZ (R.mem M4) (Nat.lt_of_le_of_lt (Nat.zero_le _) ((R.mem M4).below_len (aK aI hxb))) rfl) ?_
      refine cB rfl rfl rfl (eK (o := 0) (.int _ _) cX (R.mem M4) (aK aI hxb) rfl rfl) ?_
      refine aU rfl rfl rfl (fun _ => aH 0 dZ rfl) ?_
      refine cB rfl rfl rfl (aY 0 (.int _ _) cX M4 rfl rfl rfl) ?_
      refine aU rfl rfl rfl (fun _ => aO (.bool (decide _)) rfl rfl rfl) ?_
      refine aU rfl rfl rfl (fun _ => bM true (.bool (decide _)) rfl rfl) ?_
      refine cF ?_
      refine aF ?_
      refine aZ rfl (fun h28 => ?_) (fun h28 => ?_)
      · refine aG (aB ?_)
        refine aA (aD (.bool true) rfl) rfl rfl ?_
        refine aE (aF (aB ?_))
        refine aA (aC (.slice _ _ _) rfl) rfl rfl ?_
        refine aA (bA 0 bW M4 rfl rfl rfl) rfl rfl ?_
        refine cL [.agg (List.toArray _)] _ rfl dD M4 rfl rfl rfl rfl (cU rfl) (by decide) (fun b5 w5 M5 => ?_)
        refine dK 1 [aI b] dD M5 rfl rfl rfl rfl rfl hr rfl (by simpa using ⟨gD b, fL b⟩) (cP.ofMem 2 M5 rfl) (by omega) (fun A6 c6 e6 w6 M6 hR6 => ?_)
        refine aA (aD (.slice _ _ _) rfl) rfl rfl ?_
        refine aE (aF (aG ?_))
        refine bY [(0, 0), (1, 0), (2, 1), (3, 1), (4, 1), (5, 0), (6, 1), (7, 0)] mixed rfl (by kernel_rfl) (fun w7 hb7 hh7 => ?_)
        have M7 := M6.drew hb7 hh7
        refine aU rfl rfl rfl (fun _ => aC (.slice _ _ _) rfl) ?_
        refine aU rfl rfl rfl (fun _ => aC (.int _ _) rfl) ?_
        refine cB rfl rfl rfl (bQ (k) dD rfl rfl rfl ((R.mem M7).below_len (aK aI hxb)) ((R.mem M7).someK (aK aI hxb))) ?_
        refine cB rfl rfl rfl (bN 0 dZ (R.mem M7) (Nat.lt_of_le_of_lt (Nat.zero_le _) ((R.mem M7).below_len (aK aI hxb))) rfl) ?_
        refine cB rfl rfl rfl (eK (o := 0) (.int _ _) cX (R.mem M7) (aK aI hxb) rfl rfl) ?_
        refine aU rfl rfl rfl (fun _ => aH 0 dZ rfl) ?_
        refine cB rfl rfl rfl (aY 0 (.int _ _) cX M7 rfl rfl rfl) ?_
        refine aU rfl rfl rfl (fun _ => aO (.bool (decide _)) rfl rfl rfl) ?_
        refine cF ?_
        refine aF ?_
        refine aZ rfl (fun h40 => ?_) (fun h40 => ?_)
        · refine aB ?_
          refine aA (aC (.slice _ _ _) rfl) rfl rfl ?_
          refine aA (aC (.slice _ _ _) rfl) rfl rfl ?_
          refine aA (aC (.int _ _) rfl) rfl rfl ?_
          refine aA (bQ (k) dD rfl rfl rfl ((R.mem M7).below_len (aK aI hxb)) ((R.mem M7).someK (aK aI hxb))) rfl rfl ?_
          refine aA (dO _ bW (R.mem M7) (aK aI hxb) rfl) rfl rfl ?_
          refine cL [.agg (List.toArray _)] _ rfl dD M7 rfl rfl rfl rfl (cU rfl) (by decide) (fun b8 w8 M8 => ?_)
          refine dK 1 [aI xb] dD M8 rfl rfl rfl rfl rfl hR6 rfl (by simpa using ⟨gD xb, fL xb⟩) (cP.ofMem 3 M8 rfl) (by omega) (fun A9 c9 e9 w9 M9 hR9 => ?_)
          refine aA (aD (.slice _ _ _) rfl) rfl rfl ?_
          refine aE ?_
          refine dN ?_
          refine aF (aB ?_)
          refine aA (aC (.int _ _) rfl) rfl rfl ?_
          refine aA (bX rfl rfl (by omega) (by omega)) rfl rfl ?_
          refine aA (aD (.int _ _) rfl) rfl rfl ?_
          refine aE ?_
          refine cH (k + 1, (fF b gone (xs.take (k + 1))).1, (fF b gone (xs.take (k + 1))).2, ⟨A9, r.n + 1 + 1, c9, e9⟩) (bS rfl (bS (bv rfl (by rw [dR b gone hxb, heq]; simp [dI, *])) (bS rfl fC))) (cN rfl (cN rfl (cN rfl iS))) ?_ ?_
          · exact ⟨⟨by omega, rfl, by rw [dR b gone hxb, heq]; simpa [dI, *] using hR9⟩, M9.keep [true, true, false, false]⟩
          · (show n - (k + 1) < n - k; omega)
        · refine aM ?_
          refine dN ?_
          refine aF (aB ?_)
          refine aA (aC (.int _ _) rfl) rfl rfl ?_
          refine aA (bX rfl rfl (by omega) (by omega)) rfl rfl ?_
          refine aA (aD (.int _ _) rfl) rfl rfl ?_
          refine aE ?_
          refine cH (k + 1, (fF b gone (xs.take (k + 1))).1, (fF b gone (xs.take (k + 1))).2, ⟨A6, r.n + 1, c6, e6⟩) (bS rfl (bS (bv rfl (by rw [dR b gone hxb, heq]; simp [dI, *])) (bS rfl fC))) (cN rfl (cN rfl (cN rfl iS))) ?_ ?_
          · exact ⟨⟨by omega, rfl, by rw [dR b gone hxb, heq]; simpa [dI, *] using hR6⟩, M7.keep [true, true, false]⟩
          · (show n - (k + 1) < n - k; omega)
      · refine aM (aF (aG ?_))
        refine bY [(0, 0), (1, 0), (2, 1), (3, 1), (4, 1), (5, 0), (6, 1), (7, 0)] mixed rfl (by kernel_rfl) (fun w10 hb10 hh10 => ?_)
        have M10 := M4.drew hb10 hh10
        refine aU rfl rfl rfl (fun _ => aC (.slice _ _ _) rfl) ?_
        refine aU rfl rfl rfl (fun _ => aC (.int _ _) rfl) ?_
        refine cB rfl rfl rfl (bQ (k) dD rfl rfl rfl ((R.mem M10).below_len (aK aI hxb)) ((R.mem M10).someK (aK aI hxb))) ?_
        refine cB rfl rfl rfl (bN 0 dZ (R.mem M10) (Nat.lt_of_le_of_lt (Nat.zero_le _) ((R.mem M10).below_len (aK aI hxb))) rfl) ?_
        refine cB rfl rfl rfl (eK (o := 0) (.int _ _) cX (R.mem M10) (aK aI hxb) rfl rfl) ?_
        refine aU rfl rfl rfl (fun _ => aH 0 dZ rfl) ?_
        refine cB rfl rfl rfl (aY 0 (.int _ _) cX M10 rfl rfl rfl) ?_
        refine aU rfl rfl rfl (fun _ => aO (.bool (decide _)) rfl rfl rfl) ?_
        refine cF ?_
        refine aF ?_
        refine aZ rfl (fun h40 => ?_) (fun h40 => ?_)
        · refine aB ?_
          refine aA (aC (.slice _ _ _) rfl) rfl rfl ?_
          refine aA (aC (.slice _ _ _) rfl) rfl rfl ?_
          refine aA (aC (.int _ _) rfl) rfl rfl ?_
          refine aA (bQ (k) dD rfl rfl rfl ((R.mem M10).below_len (aK aI hxb)) ((R.mem M10).someK (aK aI hxb))) rfl rfl ?_
          refine aA (dO _ bW (R.mem M10) (aK aI hxb) rfl) rfl rfl ?_
          refine cL [.agg (List.toArray _)] _ rfl dD M10 rfl rfl rfl rfl (cU rfl) (by decide) (fun b11 w11 M11 => ?_)
          refine dK 1 [aI xb] dD M11 rfl rfl rfl rfl rfl hr rfl (by simpa using ⟨gD xb, fL xb⟩) (cP.ofMem 2 M11 rfl) (by omega) (fun A12 c12 e12 w12 M12 hR12 => ?_)
          refine aA (aD (.slice _ _ _) rfl) rfl rfl ?_
          refine aE ?_
          refine dN ?_
          refine aF (aB ?_)
          refine aA (aC (.int _ _) rfl) rfl rfl ?_
          refine aA (bX rfl rfl (by omega) (by omega)) rfl rfl ?_
          refine aA (aD (.int _ _) rfl) rfl rfl ?_
          refine aE ?_
          refine cH (k + 1, (fF b gone (xs.take (k + 1))).1, (fF b gone (xs.take (k + 1))).2, ⟨A12, r.n + 1, c12, e12⟩) (bS rfl (bS (bv rfl (by rw [dR b gone hxb, heq]; simp [dI, *])) (bS rfl fC))) (cN rfl (cN rfl (cN rfl iS))) ?_ ?_
          · exact ⟨⟨by omega, rfl, by rw [dR b gone hxb, heq]; simpa [dI, *] using hR12⟩, M12.keep [true, true, false]⟩
          · (show n - (k + 1) < n - k; omega)
        · refine aM ?_
          refine dN ?_
          refine aF (aB ?_)
          refine aA (aC (.int _ _) rfl) rfl rfl ?_
          refine aA (bX rfl rfl (by omega) (by omega)) rfl rfl ?_
          refine aA (aD (.int _ _) rfl) rfl rfl ?_
          refine aE ?_
          refine cH (k + 1, (fF b gone (xs.take (k + 1))).1, (fF b gone (xs.take (k + 1))).2, r) (bS rfl (bS (bv rfl (by rw [dR b gone hxb, heq]; simp [dI, *])) (bS rfl fC))) (cN rfl (cN rfl (cN rfl iS))) ?_ ?_
          · exact ⟨⟨by omega, rfl, by rw [dR b gone hxb, heq]; simpa [dI, *] using hr⟩, M10.keep [true, true]⟩
          · (show n - (k + 1) < n - k; omega)
    · have hd : done = true := by simpa using g19
      refine D_s rfl rfl rfl ?_
      refine D_s rfl rfl rfl ?_
      refine aOw rfl rfl rfl ?_
      refine aOw rfl rfl rfl ?_
      refine aOw rfl rfl rfl ?_
      refine D_s rfl rfl rfl ?_
      refine aOw rfl rfl rfl ?_
      refine D_s rfl rfl rfl ?_
      refine aU rfl rfl rfl (fun _ => bM false (.bool false) rfl rfl) ?_
      refine cF ?_
      refine aF ?_
      refine cO rfl ?_
      refine aM (aF (aG ?_))
      refine bY [(0, 0), (1, 0), (2, 1), (3, 1), (4, 1), (5, 0), (6, 1), (7, 0)] mixed rfl (by kernel_rfl) (fun w13 hb13 hh13 => ?_)
      have M13 := M4.drew hb13 hh13
      refine aU rfl rfl rfl (fun _ => aC (.slice _ _ _) rfl) ?_
      refine aU rfl rfl rfl (fun _ => aC (.int _ _) rfl) ?_
      refine cB rfl rfl rfl (bQ (k) dD rfl rfl rfl ((R.mem M13).below_len (aK aI hxb)) ((R.mem M13).someK (aK aI hxb))) ?_
      refine cB rfl rfl rfl (bN 0 dZ (R.mem M13) (Nat.lt_of_le_of_lt (Nat.zero_le _) ((R.mem M13).below_len (aK aI hxb))) rfl) ?_
      refine cB rfl rfl rfl (eK (o := 0) (.int _ _) cX (R.mem M13) (aK aI hxb) rfl rfl) ?_
      refine aU rfl rfl rfl (fun _ => aH 0 dZ rfl) ?_
      refine cB rfl rfl rfl (aY 0 (.int _ _) cX M13 rfl rfl rfl) ?_
      refine aU rfl rfl rfl (fun _ => aO (.bool (decide _)) rfl rfl rfl) ?_
      refine cF ?_
      refine aF ?_
      refine aZ rfl (fun h40 => ?_) (fun h40 => ?_)
      · refine aB ?_
        refine aA (aC (.slice _ _ _) rfl) rfl rfl ?_
        refine aA (aC (.slice _ _ _) rfl) rfl rfl ?_
        refine aA (aC (.int _ _) rfl) rfl rfl ?_
        refine aA (bQ (k) dD rfl rfl rfl ((R.mem M13).below_len (aK aI hxb)) ((R.mem M13).someK (aK aI hxb))) rfl rfl ?_
        refine aA (dO _ bW (R.mem M13) (aK aI hxb) rfl) rfl rfl ?_
        refine cL [.agg (List.toArray _)] _ rfl dD M13 rfl rfl rfl rfl (cU rfl) (by decide) (fun b14 w14 M14 => ?_)
        refine dK 1 [aI xb] dD M14 rfl rfl rfl rfl rfl hr rfl (by simpa using ⟨gD xb, fL xb⟩) (cP.ofMem 2 M14 rfl) (by omega) (fun A15 c15 e15 w15 M15 hR15 => ?_)
        refine aA (aD (.slice _ _ _) rfl) rfl rfl ?_
        refine aE ?_
        refine dN ?_
        refine aF (aB ?_)
        refine aA (aC (.int _ _) rfl) rfl rfl ?_
        refine aA (bX rfl rfl (by omega) (by omega)) rfl rfl ?_
        refine aA (aD (.int _ _) rfl) rfl rfl ?_
        refine aE ?_
        refine cH (k + 1, (fF b gone (xs.take (k + 1))).1, (fF b gone (xs.take (k + 1))).2, ⟨A15, r.n + 1, c15, e15⟩) (bS rfl (bS (bv rfl (by rw [dR b gone hxb, heq]; simp [dI, *])) (bS rfl fC))) (cN rfl (cN rfl (cN rfl iS))) ?_ ?_
        · exact ⟨⟨by omega, rfl, by rw [dR b gone hxb, heq]; simpa [dI, *] using hR15⟩, M15.keep [true, true, false]⟩
        · (show n - (k + 1) < n - k; omega)
      · refine aM ?_
        refine dN ?_
        refine aF (aB ?_)
        refine aA (aC (.int _ _) rfl) rfl rfl ?_
        refine aA (bX rfl rfl (by omega) (by omega)) rfl rfl ?_
        refine aA (aD (.int _ _) rfl) rfl rfl ?_
        refine aE ?_
        refine cH (k + 1, (fF b gone (xs.take (k + 1))).1, (fF b gone (xs.take (k + 1))).2, r) (bS rfl (bS (bv rfl (by rw [dR b gone hxb, heq]; simp [dI, *])) (bS rfl fC))) (cN rfl (cN rfl (cN rfl iS))) ?_ ?_
        · exact ⟨⟨by omega, rfl, by rw [dR b gone hxb, heq]; simpa [dI, *] using hr⟩, M13.keep [true, true]⟩
        · (show n - (k + 1) < n - k; omega)
  · have hkn : k = n := by omega
    subst hkn
    rw [List.take_of_length_le (by omega)] at heq
    refine cM ?_
    refine dG ?_
    refine cZ ?_
    refine eP ?_
    refine aF (aG (aG (aB ?_)))
    refine aA (aC (.bool _) rfl) rfl rfl ?_
    refine aA (jI _ rfl rfl) rfl rfl ?_
    refine aE (aF ?_)
    refine hJ _ rfl (fun h49 => ?_) (fun h49 => ?_)
    · have hd : done = false := by simpa using h49
      refine aB ?_
      refine aA (aC (.slice _ _ _) rfl) rfl rfl ?_
      refine aA (bA 0 bW hM3 rfl rfl rfl) rfl rfl ?_
      refine cL [.agg (List.toArray _)] _ rfl dD hM3 rfl rfl rfl rfl (cU rfl) (by decide) (fun b16 w16 M16 => ?_)
      refine dK 1 [aI b] dD M16 rfl rfl rfl rfl rfl hr rfl (by simpa using ⟨gD b, fL b⟩) (cP.ofMem 2 M16 rfl) (by omega) (fun A17 c17 e17 w17 M17 hR17 => ?_)
      refine aA (aD (.slice _ _ _) rfl) rfl rfl ?_
      refine aE (aF (aG (aB ?_)))
      refine aA (aC (.slice _ _ _) rfl) rfl rfl ?_
      refine aA (aD (.slice _ _ _) rfl) rfl rfl ?_
      refine aE (aF (aQ ?_))
      refine cJ (.slice _ _ _) rfl ?_
      exact ⟨_, _, _, _, rfl, by unfold yP; rw [heq]; simpa [*] using hR17, M17.keep [false, true, false]⟩
    · have hd : done = true := by simpa using h49
      refine aM (aF (aG (aB ?_)))
      refine aA (aC (.slice _ _ _) rfl) rfl rfl ?_
      refine aA (aD (.slice _ _ _) rfl) rfl rfl ?_
      refine aE (aF (aQ ?_))
      refine cJ (.slice _ _ _) rfl ?_
      exact ⟨_, _, _, _, rfl, by unfold yP; rw [heq]; simpa [*] using hr, hM3.keep [false, true]⟩
end Go.Proofs.YtlmcphcgiclanaaGreatDoor

namespace Go.Proofs.YtlmcphcgiclanaaGreatDoor
open Go.Bil
open Go.RowKit (Below)
open Go.Proofs
end Go.Proofs.YtlmcphcgiclanaaGreatDoor

namespace Go.Proofs.YtlmcphcgiclanaaGreatDoor
open Go.Bil
open Go.RowKit (Below)
open Go.Proofs
set_option maxHeartbeats 4000000 in
theorem rX (w : World) (x : Int) :
    Calls Tryz.prog 121 #[.int .u32 x] w (fun ex w' => ∃ v, ex = .returned v ∧ (fun v w' => v = .bool false ∧ w' = w) v w') := by
  refine aJ #[.tmp 2] 6 Tryz.func121 rfl Tryz.results121 Tryz.ntmps121 rfl ?_
  have M0 := Mem.refl w
  refine aG (aB ?_)
  refine aA (aD (.bool false) rfl) rfl rfl ?_
  refine aE (aF (aG (aB ?_)))
  refine aA (aC (.int _ _) rfl) rfl rfl ?_
  refine aA (aC (.int _ _) rfl) rfl rfl ?_
  refine aA (aO (.bool (decide _)) rfl rfl rfl) rfl rfl ?_
  refine aA (aD (.bool (decide _)) rfl) rfl rfl ?_
  refine aE (aF (aQ ?_))
  refine cJ (.bool (decide _)) rfl ?_
  exact ⟨(bF (by omega)).symm, rfl⟩
set_option maxHeartbeats 4000000 in
theorem kY (w : World) (x y : Int) :
    Calls Tryz.prog 97 #[.int .u32 x, .int .u32 y] w (fun ex w' => ∃ v, ex = .returned v ∧ (fun v w' => v = .int .i64 (mO x y) ∧ w' = w) v w') := by
  refine aJ #[.tmp 4] 20 Tryz.func97 rfl Tryz.results97 Tryz.ntmps97 rfl ?_
  have M0 := Mem.refl w
  refine aG (aB ?_)
  refine aA (aD (.int _ _) rfl) rfl rfl ?_
  refine aE (aF (aG (aB ?_)))
  refine aA (aC (.int _ _) rfl) rfl rfl ?_
  refine aL aMm rfl rfl rfl ?_
  refine (rX _ _).mono ?_
  rintro _ w1 ⟨v1, rfl, ⟨rfl, rfl⟩⟩
  refine ⟨_, rfl, ?_⟩
  have M1 : Mem _ _ [] _ := M0
  refine aA (aD (.bool false) rfl) rfl rfl ?_
  refine aE (aF (aG (aB ?_)))
  refine aA (aC (.int _ _) rfl) rfl rfl ?_
  refine aL aMm rfl rfl rfl ?_
  refine (rX _ _).mono ?_
  rintro _ w2 ⟨v2, rfl, ⟨rfl, rfl⟩⟩
  refine ⟨_, rfl, ?_⟩
  have M2 : Mem _ _ [] _ := M1
  refine aA (aD (.bool false) rfl) rfl rfl ?_
  refine aE (aF (aG (aG (aB ?_))))
  refine aA (aC (.bool false) rfl) rfl rfl ?_
  refine aE (aF ?_)
  refine cO rfl ?_
  refine aM (aF (aG (aG (aB ?_))))
  refine aA (aC (.bool false) rfl) rfl rfl ?_
  refine aE (aF ?_)
  refine cO rfl ?_
  refine aM (aF (aG (aG (aB ?_))))
  refine aA (aC (.int _ _) rfl) rfl rfl ?_
  refine aA (aC (.int _ _) rfl) rfl rfl ?_
  refine aA (aO (.bool (decide _)) rfl rfl rfl) rfl rfl ?_
  refine aE (aF ?_)
  refine aZ rfl (fun h16 => ?_) (fun h16 => ?_)
  · refine aG (aB ?_)
    refine aA (aD (.int _ _) rfl) rfl rfl ?_
    refine aE (aF (aQ (cC ?_)))
    refine cJ (.int _ _) rfl ?_
    exact ⟨iE (by unfold mO; (repeat' split) <;> omega), rfl⟩
  · refine aM (aF (aG (aG (aB ?_))))
    refine aA (aC (.int _ _) rfl) rfl rfl ?_
    refine aA (aC (.int _ _) rfl) rfl rfl ?_
    refine aA (aO (.bool (decide _)) rfl rfl rfl) rfl rfl ?_
    refine aE (aF ?_)
    refine aZ rfl (fun h19 => ?_) (fun h19 => ?_)
    · refine aG (aB ?_)
      refine aA (aD (.int _ _) rfl) rfl rfl ?_
      refine aE (aF (aQ (cC ?_)))
      refine cJ (.int _ _) rfl ?_
      exact ⟨iE (by unfold mO; (repeat' split) <;> omega), rfl⟩
    · refine aM (aF (aG (aB ?_)))
      refine aA (aD (.int _ _) rfl) rfl rfl ?_
      refine aE (aF (aQ ?_))
      refine cJ (.int _ _) rfl ?_
      exact ⟨iE (by unfold mO; (repeat' split) <;> omega), rfl⟩
set_option maxHeartbeats 4000000 in
theorem wH (w : World) (A : Option Addr) (n c : Nat) (ls : List (List Value)) (R : Rd w 10 A n ls) (h1 : ∀ y ∈ ls, ∀ u ∈ y, one u = true) (hn : n ≤ 1048576) :
    Calls Tryz.prog 49 #[.slice A n c] w (fun ex w' => ∃ v, ex = .returned v ∧ (fun v w' => ∃ A' n' c' e, v = .slice A' n' c' ∧ aX 40 10 A' n' c' ls e ∧ Mem w [] [e] w' ∧ A'.isSome = A.isSome) v w') := by
  refine aJ #[.tmp 2] 8 Tryz.func49 rfl Tryz.results49 Tryz.ntmps49 rfl ?_
  have M0 := Mem.refl w
  refine aG (aB ?_)
  refine aA (aD (.slice _ _ _) rfl) rfl rfl ?_
  refine aE (aF (aG (aG (aB ?_))))
  refine aA (aC (.slice _ _ _) rfl) rfl rfl ?_
  refine aA (yX _ Tryz.underlying22 rfl rfl) rfl rfl ?_
  refine aE (aF ?_)
  refine hJ _ rfl (fun h4 => ?_) (fun h4 => ?_)
  · refine aG (aB ?_)
    refine aA (aD (.slice _ _ _) rfl) rfl rfl ?_
    refine aE (aF (aQ (cC ?_)))
    refine cJ (.slice _ _ _) rfl ?_
    have hA : A = none := by cases A <;> simp_all
    have hl : ls = [] := by
      rcases Nat.eq_zero_or_pos n with h | h
      · subst h; exact List.eq_nil_of_length_eq_zero R.len
      · have := R.some h; rw [hA] at this; cases this
    subst hA; subst hl
    exact ⟨_, _, _, _, rfl, aX.nil 40 10 default, M0.dummy default, rfl⟩
  · refine aM (aF (aG (aB ?_)))
    refine cL [] [] rfl dD M0 rfl rfl rfl rfl (cU rfl) (by decide) (fun b1 w1 M1 => ?_)
    refine aA (aC (.slice _ _ _) rfl) rfl rfl ?_
    refine aFr 0 ls dD M1 rfl rfl rfl rfl rfl (aX.empty b1) (R.mem M1) h1 (by omega) (fun A2 c2 e2 w2 M2 hR2 hA2 => ?_)
    have hAA := hA2
    refine aA (aD (.slice _ _ _) rfl) rfl rfl ?_
    refine aE (aF (aQ ?_))
    refine cJ (.slice _ _ _) rfl ?_
    refine ⟨_, _, _, _, rfl, by simpa using hR2, M2, ?_⟩
    rw [hAA rfl]; cases A <;> simp_all
end Go.Proofs.YtlmcphcgiclanaaGreatDoor

namespace Go.Proofs.YtlmcphcgiclanaaGreatDoor
open Go.Bil
open Go.RowKit (Below)
open Go.Proofs
end Go.Proofs.YtlmcphcgiclanaaGreatDoor
