/- Part of the proof of the laws of this seat: Ty, T26, T25, T20, T20r, T20l, R5, R6, Bd, Lib, St. No conditions. -/
import Derived.Test.YtlmcphcgiclanaaGreatDoorProg
import Derived.Test.YtlmcphcgiclanaaGreatDoorK2
import Derived.Test.YtlmcphcgiclanaaGreatDoorK3
import Derived.Test.YtlmcphcgiclanaaGreatDoorK4
import Derived.KernelRfl
set_option linter.unusedVariables false
set_option linter.unusedSimpArgs false
set_option linter.unnecessarySimpa false
namespace Go.Proofs.YtlmcphcgiclanaaGreatDoor
open Go.Bil
open Go.Proofs
theorem cV : gL Tryz.prog 36 = true := by kernel_rfl
theorem bH : gL Tryz.prog 21 = true := by kernel_rfl
theorem aFv : ∀ (d : Nat) (w : World) (x0 x1 y0 y1 : Int), (Op.equalIn (d + 2) 38 (.agg [.int .i32 x0, .int .i32 x1].toArray) (.agg [.int .i32 y0, .int .i32 y1].toArray)).run Tryz.prog w = .ok (decide (x0 = y0 ∧ x1 = y1)) w := fun d w x0 x1 y0 y1 => by
    have h := nO (P := Tryz.prog) (T := 38) (dd := d + 1) (xs := [.int .i32 x0, .int .i32 x1]) (ys := [.int .i32 y0, .int .i32 y1]) (w := w) Tryz.underlying38 (by kernel_rfl) (eH rfl (fF bH rfl) (fF bH rfl) (kO (dd := d + 0) Tryz.underlying21) (eH rfl (fF bH rfl) (fF bH rfl) (kO (dd := d + 0) Tryz.underlying21) (sC)))
    refine h.trans (congrArg (fun r => Result.ok r w) ?_)
    simp only [Bool.decide_and, Bool.and_true, Bool.and_assoc]
theorem bI : gU Tryz.prog 38 = some 2 := by kernel_rfl
theorem aWx : ∀ (d : Nat) (w : World) (x0 x1 x2 x3 x4 x5 x6 x7 x8 x9 y0 y1 y2 y3 y4 y5 y6 y7 y8 y9 : Int), (Op.equalIn (d + 3) 40 (.agg [.int .u32 x0, .int .i32 x1, .int .i32 x2, .int .i32 x3, .int .i32 x4, .int .i32 x5, .int .i32 x6, .int .i32 x7, .int .i32 x8, .int .i32 x9].toArray) (.agg [.int .u32 y0, .int .i32 y1, .int .i32 y2, .int .i32 y3, .int .i32 y4, .int .i32 y5, .int .i32 y6, .int .i32 y7, .int .i32 y8, .int .i32 y9].toArray)).run Tryz.prog w = .ok (decide (x0 = y0 ∧ x1 = y1 ∧ x2 = y2 ∧ x3 = y3 ∧ x4 = y4 ∧ x5 = y5 ∧ x6 = y6 ∧ x7 = y7 ∧ x8 = y8 ∧ x9 = y9)) w := fun d w x0 x1 x2 x3 x4 x5 x6 x7 x8 x9 y0 y1 y2 y3 y4 y5 y6 y7 y8 y9 => by
    have h := nO (P := Tryz.prog) (T := 40) (dd := d + 2) (xs := [.int .u32 x0, .int .i32 x1, .int .i32 x2, .int .i32 x3, .int .i32 x4, .int .i32 x5, .int .i32 x6, .int .i32 x7, .int .i32 x8, .int .i32 x9]) (ys := [.int .u32 y0, .int .i32 y1, .int .i32 y2, .int .i32 y3, .int .i32 y4, .int .i32 y5, .int .i32 y6, .int .i32 y7, .int .i32 y8, .int .i32 y9]) (w := w) Tryz.underlying40 (by kernel_rfl) (eH rfl (fF cV rfl) (fF cV rfl) (kO (dd := d + 1) Tryz.underlying36) (eH rfl (fF bH rfl) (fF bH rfl) (kO (dd := d + 1) Tryz.underlying21) (eH rfl (vH bI rfl) (vH bI rfl) (aFv (d + 0) w x2 x3 y2 y3) (eH rfl (fF bH rfl) (fF bH rfl) (kO (dd := d + 1) Tryz.underlying21) (eH rfl (fF bH rfl) (fF bH rfl) (kO (dd := d + 1) Tryz.underlying21) (eH rfl (vH bI rfl) (vH bI rfl) (aFv (d + 0) w x6 x7 y6 y7) (eH rfl (vH bI rfl) (vH bI rfl) (aFv (d + 0) w x8 x9 y8 y9) (sC))))))))
    refine h.trans (congrArg (fun r => Result.ok r w) ?_)
    simp only [Bool.decide_and, Bool.and_true, Bool.and_assoc]
theorem aWn : ∀ (x0 x1 x2 x3 x4 x5 x6 x7 x8 x9 y0 y1 y2 y3 y4 y5 y6 y7 y8 y9 : Int), EqA Tryz.prog 40 [.int .u32 x0, .int .i32 x1, .int .i32 x2, .int .i32 x3, .int .i32 x4, .int .i32 x5, .int .i32 x6, .int .i32 x7, .int .i32 x8, .int .i32 x9] [.int .u32 y0, .int .i32 y1, .int .i32 y2, .int .i32 y3, .int .i32 y4, .int .i32 y5, .int .i32 y6, .int .i32 y7, .int .i32 y8, .int .i32 y9] (decide (x0 = y0 ∧ x1 = y1 ∧ x2 = y2 ∧ x3 = y3 ∧ x4 = y4 ∧ x5 = y5 ∧ x6 = y6 ∧ x7 = y7 ∧ x8 = y8 ∧ x9 = y9)) := fun x0 x1 x2 x3 x4 x5 x6 x7 x8 x9 y0 y1 y2 y3 y4 y5 y6 y7 y8 y9 => ⟨by kernel_rfl, fun w => aWx 9997 w x0 x1 x2 x3 x4 x5 x6 x7 x8 x9 y0 y1 y2 y3 y4 y5 y6 y7 y8 y9⟩
theorem bX : gU Tryz.prog 40 = some 10 := by kernel_rfl
theorem aSn : ∀ (d : Nat) (w : World) (x0 x1 y0 y1 : Int), (Op.equalIn (d + 2) 119 (.agg [.int .u32 x0, .int .u32 x1].toArray) (.agg [.int .u32 y0, .int .u32 y1].toArray)).run Tryz.prog w = .ok (decide (x0 = y0 ∧ x1 = y1)) w := fun d w x0 x1 y0 y1 => by
    have h := nO (P := Tryz.prog) (T := 119) (dd := d + 1) (xs := [.int .u32 x0, .int .u32 x1]) (ys := [.int .u32 y0, .int .u32 y1]) (w := w) Tryz.underlying119 (by kernel_rfl) (eH rfl (fF cV rfl) (fF cV rfl) (kO (dd := d + 0) Tryz.underlying36) (eH rfl (fF cV rfl) (fF cV rfl) (kO (dd := d + 0) Tryz.underlying36) (sC)))
    refine h.trans (congrArg (fun r => Result.ok r w) ?_)
    simp only [Bool.decide_and, Bool.and_true, Bool.and_assoc]
theorem aUt : ∀ (x0 x1 y0 y1 : Int), EqA Tryz.prog 119 [.int .u32 x0, .int .u32 x1] [.int .u32 y0, .int .u32 y1] (decide (x0 = y0 ∧ x1 = y1)) := fun x0 x1 y0 y1 => ⟨by kernel_rfl, fun w => aSn 9998 w x0 x1 y0 y1⟩
theorem eT : gU Tryz.prog 119 = some 2 := by kernel_rfl
theorem aSx : aQ Tryz.prog 170 = true := by kernel_rfl
theorem aVz : iW Tryz.prog 119 = some (.agg [.int .u32 0, .int .u32 0].toArray) := by kernel_rfl
theorem iA : gL Tryz.prog 3 = true := by kernel_rfl
theorem jU : gL Tryz.prog 4 = true := by kernel_rfl
theorem nF : eL Tryz.prog 40 1 1 = true := by kernel_rfl
theorem kE : eL Tryz.prog 40 2 2 = true := by kernel_rfl
theorem dQ : eL Tryz.prog 38 0 0 = true := by kernel_rfl
theorem wF : aQ Tryz.prog 55 = true := by kernel_rfl
theorem dI : eL Tryz.prog 38 1 1 = true := by kernel_rfl
theorem fE : eL Tryz.prog 40 3 4 = true := by kernel_rfl
theorem sJ : eL Tryz.prog 40 4 5 = true := by kernel_rfl
theorem fC : eL Tryz.prog 40 5 6 = true := by kernel_rfl
theorem eO : eL Tryz.prog 40 6 8 = true := by kernel_rfl
theorem dG : eG Tryz.prog 22 40 10 40 = true := by kernel_rfl
theorem eB : eL Tryz.prog 40 0 0 = true := by kernel_rfl
theorem mixed : Tryz.prog.follows .mixedOrders = true := by kernel_rfl
theorem kA : gL Tryz.prog 22 = true := by kernel_rfl
theorem lU : fM Tryz.prog 40 = some [.int .u32 0, .int .i32 0, .int .i32 0, .int .i32 0, .int .i32 0, .int .i32 0, .int .i32 0, .int .i32 0, .int .i32 0, .int .i32 0] := by kernel_rfl
theorem lH : fL Tryz.prog 40 [.int .u32 0, .int .i32 0, .int .i32 0, .int .i32 0, .int .i32 0, .int .i32 0, .int .i32 0, .int .i32 0, .int .i32 0, .int .i32 0] [(0, 1), (1, 1), (2, 2), (4, 1), (5, 1), (6, 2), (8, 2)] := dX Tryz.underlying40 (by kernel_rfl) (by kernel_rfl) (by kernel_rfl)
theorem aKn : aQ Tryz.prog 121 = true := by kernel_rfl
theorem aNa : aQ Tryz.prog 97 = true := by kernel_rfl
theorem aWe : aQ Tryz.prog 49 = true := by kernel_rfl
theorem aJt : aQ Tryz.prog 24 = true := by kernel_rfl
theorem aWz : aQ Tryz.prog 38 = true := by kernel_rfl
theorem aWh : aQ Tryz.prog 90 = true := by kernel_rfl
theorem aWd : aQ Tryz.prog 59 = true := by kernel_rfl
theorem aWu : aQ Tryz.prog 50 = true := by kernel_rfl
theorem aWl : aQ Tryz.prog 36 = true := by kernel_rfl
theorem us3 : (Tryz.prog.underlying 3).isSome = true := by kernel_rfl
theorem aVu : (Tryz.prog.underlying 136).isSome = true := by kernel_rfl
theorem aOd : aQ Tryz.prog 140 = true := by kernel_rfl
theorem aVe : aQ Tryz.prog 139 = true := by kernel_rfl
theorem aLw : aQ Tryz.prog 215 = true := by kernel_rfl
theorem zG : fM Tryz.prog 193 = some [.int .i32 0, .int .i32 0, .int .i32 0, .int .i32 0] := by kernel_rfl
theorem aTc : aQ Tryz.prog 190 = true := by kernel_rfl
theorem wR : fL Tryz.prog 193 [.int .i32 0, .int .i32 0, .int .i32 0, .int .i32 0] [(0, 1), (1, 1), (2, 1), (3, 1)] := dX Tryz.underlying193 (by kernel_rfl) (by kernel_rfl) (by kernel_rfl)
theorem fZ : gU Tryz.prog 193 = some 4 := by kernel_rfl
theorem pF : eL Tryz.prog 193 0 0 = true := by kernel_rfl
theorem qB : eL Tryz.prog 193 2 2 = true := by kernel_rfl
theorem pV : eL Tryz.prog 193 1 1 = true := by kernel_rfl
theorem oT : eL Tryz.prog 193 3 3 = true := by kernel_rfl
theorem aCo : aQ Tryz.prog 192 = true := by kernel_rfl
theorem aVh : aQ Tryz.prog 193 = true := by kernel_rfl
theorem lK : fM Tryz.prog 226 = some [.int .i32 0, .int .i32 0] := by kernel_rfl
theorem xK : fL Tryz.prog 226 [.int .i32 0, .int .i32 0] [(0, 1), (1, 1)] := dX Tryz.underlying226 (by kernel_rfl) (by kernel_rfl) (by kernel_rfl)
theorem fK : gU Tryz.prog 226 = some 2 := by kernel_rfl
theorem dZ : fL Tryz.prog 38 [.int .i32 0, .int .i32 0] [(0, 1), (1, 1)] := dX Tryz.underlying38 (by kernel_rfl) (by kernel_rfl) (by kernel_rfl)
theorem aJx : aQ Tryz.prog 229 = true := by kernel_rfl
theorem aTz : aQ Tryz.prog 216 = true := by kernel_rfl
theorem aNr : fM Tryz.prog 4 = some [.bool false] := by kernel_rfl
theorem tP : eL Tryz.prog 226 1 1 = true := by kernel_rfl
theorem sY : eL Tryz.prog 226 0 0 = true := by kernel_rfl
theorem aPn : fM Tryz.prog 224 = some [.slice none 0 0] := by kernel_rfl
theorem aVb : aQ Tryz.prog 191 = true := by kernel_rfl
theorem aUd : aQ Tryz.prog 217 = true := by kernel_rfl
theorem aEh : gL Tryz.prog 224 = true := by kernel_rfl
theorem aLs : eG Tryz.prog 224 226 2 8 = true := by kernel_rfl
theorem fT : (Tryz.prog.underlying 21).isSome = true := by kernel_rfl
theorem aJy : vT Tryz.prog 270 2 36 1 = true := by kernel_rfl
theorem aXh : (Tryz.prog.underlying 36).isSome = true := by kernel_rfl
theorem aVa : aQ Tryz.prog 206 = true := by kernel_rfl
theorem us2 : (Tryz.prog.underlying 2).isSome = true := by kernel_rfl
theorem xF : (Tryz.prog.underlying 170).isSome = true := by kernel_rfl
theorem mS : aQ Tryz.prog 179 = true := by kernel_rfl
theorem aDd : aQ Tryz.prog 178 = true := by kernel_rfl
theorem aNx : aQ Tryz.prog 180 = true := by kernel_rfl
theorem xZ : aQ Tryz.prog 181 = true := by kernel_rfl
theorem yR : aQ Tryz.prog 207 = true := by kernel_rfl
theorem aKq : aQ Tryz.prog 201 = true := by kernel_rfl
theorem aDp : aQ Tryz.prog 173 = true := by kernel_rfl
theorem aUg : aQ Tryz.prog 203 = true := by kernel_rfl
theorem gA : fM Tryz.prog 38 = some [.int .i32 0, .int .i32 0] := by kernel_rfl
theorem aKx : aQ Tryz.prog 175 = true := by kernel_rfl
theorem aNw : aQ Tryz.prog 202 = true := by kernel_rfl
theorem sR : aQ Tryz.prog 200 = true := by kernel_rfl
theorem jL : gL Tryz.prog 2 = true := by kernel_rfl
theorem zH : aQ Tryz.prog 141 = true := by kernel_rfl
theorem aSr : aQ Tryz.prog 244 = true := by kernel_rfl
theorem uM : fM Tryz.prog 2 = some [.int .i64 0] := by kernel_rfl
theorem aLu : aQ Tryz.prog 245 = true := by kernel_rfl
theorem mF : gL Tryz.prog 170 = true := by kernel_rfl
theorem aOn : fM Tryz.prog 170 = some [.int .u64 0] := by kernel_rfl
theorem qG : vT Tryz.prog 318 2 38 2 = true := by kernel_rfl
theorem aFg : fM Tryz.prog 318 = some [.int .i32 0, .int .i32 0, .int .i32 0, .int .i32 0] := by kernel_rfl
theorem yP : aQ Tryz.prog 239 = true := by kernel_rfl
theorem yY : aQ Tryz.prog 238 = true := by kernel_rfl
theorem aSt : aQ Tryz.prog 221 = true := by kernel_rfl
theorem pO : fM Tryz.prog 239 = some [.int .u32 0, .int .i32 0, .int .i32 0, .int .i32 0, .int .i32 0, .int .i32 0, .int .i32 0, .int .i32 0, .int .i32 0, .int .i32 0, .int .i32 0, .int .i32 0, .int .i32 0, .int .i32 0] := by kernel_rfl
theorem aSo : aQ Tryz.prog 220 = true := by kernel_rfl
theorem aHl : fL Tryz.prog 239 [.int .u32 0, .int .i32 0, .int .i32 0, .int .i32 0, .int .i32 0, .int .i32 0, .int .i32 0, .int .i32 0, .int .i32 0, .int .i32 0, .int .i32 0, .int .i32 0, .int .i32 0, .int .i32 0] [(0, 10), (10, 2), (12, 2)] := dX Tryz.underlying239 (by kernel_rfl) (by kernel_rfl) (by kernel_rfl)
theorem iS : gU Tryz.prog 239 = some 14 := by kernel_rfl
theorem yK : aQ Tryz.prog 198 = true := by kernel_rfl
theorem aAq : eL Tryz.prog 239 1 10 = true := by kernel_rfl
theorem aAy : eL Tryz.prog 239 2 12 = true := by kernel_rfl
theorem aTm : aQ Tryz.prog 199 = true := by kernel_rfl
theorem pP : eL Tryz.prog 239 0 0 = true := by kernel_rfl
theorem pE : fM Tryz.prog 121 = some [.int .u32 0, .int .u32 0, .int .i32 0, .int .i32 0, .int .i32 0] := by kernel_rfl
theorem aUb : aQ Tryz.prog 171 = true := by kernel_rfl
theorem aUj : aQ Tryz.prog 172 = true := by kernel_rfl
theorem xM : fL Tryz.prog 121 [.int .u32 0, .int .u32 0, .int .i32 0, .int .i32 0, .int .i32 0] [(0, 2), (2, 2), (4, 1)] := dX Tryz.underlying121 (by kernel_rfl) (by kernel_rfl) (by kernel_rfl)
theorem fD : gU Tryz.prog 121 = some 5 := by kernel_rfl
theorem wK : fL Tryz.prog 119 [.int .u32 0, .int .u32 0] [(0, 1), (1, 1)] := dX Tryz.underlying119 (by kernel_rfl) (by kernel_rfl) (by kernel_rfl)
theorem nN : fM Tryz.prog 119 = some [.int .u32 0, .int .u32 0] := by kernel_rfl
theorem aTr : aQ Tryz.prog 174 = true := by kernel_rfl
theorem aBi : eL Tryz.prog 191 1 1024 = true := by kernel_rfl
theorem aSh : aQ Tryz.prog 161 = true := by kernel_rfl
theorem aTn : aQ Tryz.prog 162 = true := by kernel_rfl
theorem aLi : aAr Tryz.prog 223 3 4 .i64 = true := by kernel_rfl
theorem zv4 : iW Tryz.prog 4 = some (.bool false) := by kernel_rfl
theorem tN : eL Tryz.prog 191 0 0 = true := by kernel_rfl
theorem aDj : vT Tryz.prog 189 1024 188 1 = true := by kernel_rfl
theorem yS : gL Tryz.prog 188 = true := by kernel_rfl
theorem aCj : eG Tryz.prog 188 36 1 4 = true := by kernel_rfl
theorem aNe : eG Tryz.prog 302 3 1 8 = true := by kernel_rfl
theorem lI : eL Tryz.prog 119 0 0 = true := by kernel_rfl
theorem lG : eL Tryz.prog 119 1 1 = true := by kernel_rfl
theorem aUz : aQ Tryz.prog 197 = true := by kernel_rfl
theorem aUn : gL Tryz.prog 230 = true := by kernel_rfl
theorem aTs : aQ Tryz.prog 196 = true := by kernel_rfl
theorem aEd : gL Tryz.prog 159 = true := by kernel_rfl
theorem pY : eG Tryz.prog 159 119 2 8 = true := by kernel_rfl
theorem aSp : aQ Tryz.prog 218 = true := by kernel_rfl
theorem aSz : aQ Tryz.prog 194 = true := by kernel_rfl
theorem aUq : aQ Tryz.prog 195 = true := by kernel_rfl
theorem aTb : gU Tryz.prog 189 = some 1024 := by kernel_rfl
theorem aUw : aQ Tryz.prog 167 = true := by kernel_rfl
theorem aIw : fL Tryz.prog 231 [] [] := dX Tryz.underlying231 (by kernel_rfl) (by kernel_rfl) (by kernel_rfl)
theorem aSm : aQ Tryz.prog 169 = true := by kernel_rfl
theorem aUy : aQ Tryz.prog 168 = true := by kernel_rfl
theorem aTy : aQ Tryz.prog 160 = true := by kernel_rfl
theorem zC : aAr Tryz.prog 186 36 193 .u32 = true := by kernel_rfl
theorem aVs : fM Tryz.prog 3 = some [.int .i64 0] := by kernel_rfl
theorem aNu : gL Tryz.prog 186 = true := by kernel_rfl
theorem aKr : iW Tryz.prog 193 = some (.agg [.int .i32 0, .int .i32 0, .int .i32 0, .int .i32 0].toArray) := by kernel_rfl
theorem aUs : aQ Tryz.prog 164 = true := by kernel_rfl
theorem aNf : aQ Tryz.prog 163 = true := by kernel_rfl
theorem aTa : aQ Tryz.prog 166 = true := by kernel_rfl
theorem aSq : aQ Tryz.prog 132 = true := by kernel_rfl
theorem aSy : aQ Tryz.prog 133 = true := by kernel_rfl
theorem aTv : aQ Tryz.prog 134 = true := by kernel_rfl
theorem aUo : aQ Tryz.prog 136 = true := by kernel_rfl
theorem aTh : aQ Tryz.prog 135 = true := by kernel_rfl
theorem aTe : aQ Tryz.prog 165 = true := by kernel_rfl
theorem aWv : aQ Tryz.prog 39 = true := by kernel_rfl
theorem uO : eL Tryz.prog 158 0 0 = true := by kernel_rfl
theorem uZ : gL Tryz.prog 156 = true := by kernel_rfl
theorem tM : aAr Tryz.prog 156 36 40 .u32 = true := by kernel_rfl
theorem aRe : iW Tryz.prog 40 = some (.agg [.int .u32 0, .int .i32 0, .int .i32 0, .int .i32 0, .int .i32 0, .int .i32 0, .int .i32 0, .int .i32 0, .int .i32 0, .int .i32 0].toArray) := by kernel_rfl
theorem aNn : aQ Tryz.prog 137 = true := by kernel_rfl
theorem mG : eL Tryz.prog 158 1 1 = true := by kernel_rfl
theorem mN : gL Tryz.prog 82 = true := by kernel_rfl
theorem aIv : eG Tryz.prog 82 121 5 20 = true := by kernel_rfl
theorem aSk : aQ Tryz.prog 107 = true := by kernel_rfl
theorem aHp : fL Tryz.prog 158 [.map none, .slice none 0 0] [(0, 1), (1, 1)] := dX Tryz.underlying158 (by kernel_rfl) (by kernel_rfl) (by kernel_rfl)
theorem aSu : aQ Tryz.prog 105 = true := by kernel_rfl
theorem aTp : aQ Tryz.prog 106 = true := by kernel_rfl
end Go.Proofs.YtlmcphcgiclanaaGreatDoor

namespace Go.Proofs.YtlmcphcgiclanaaGreatDoor
open Go.Bil
open Go.Proofs
end Go.Proofs.YtlmcphcgiclanaaGreatDoor

namespace Go.Proofs.YtlmcphcgiclanaaGreatDoor
open Go.Bil
open Go.Proofs
end Go.Proofs.YtlmcphcgiclanaaGreatDoor

namespace Go.Proofs.YtlmcphcgiclanaaGreatDoor
open Go.Bil
open Go.Proofs
theorem aTx : aQ Tryz.prog 246 = true := by kernel_rfl
theorem aVk : aQ Tryz.prog 240 = true := by kernel_rfl
theorem lB : eL Tryz.prog 121 1 2 = true := by kernel_rfl
theorem aSv : aQ Tryz.prog 222 = true := by kernel_rfl
theorem aTi : aQ Tryz.prog 223 = true := by kernel_rfl
theorem aOe : aQ Tryz.prog 224 = true := by kernel_rfl
theorem aMf : aQ Tryz.prog 225 = true := by kernel_rfl
theorem lE : eL Tryz.prog 246 0 0 = true := by kernel_rfl
theorem pN : eL Tryz.prog 121 0 0 = true := by kernel_rfl
theorem xU : aQ Tryz.prog 109 = true := by kernel_rfl
theorem aTw : aQ Tryz.prog 204 = true := by kernel_rfl
theorem aLv : aQ Tryz.prog 205 = true := by kernel_rfl
theorem kX : eL Tryz.prog 246 1 1 = true := by kernel_rfl
theorem iR : gL Tryz.prog 200 = true := by kernel_rfl
theorem kZ : eL Tryz.prog 246 2 2 = true := by kernel_rfl
theorem jZ : eG Tryz.prog 200 2 1 8 = true := by kernel_rfl
theorem aTl : aQ Tryz.prog 177 = true := by kernel_rfl
theorem wU : fL Tryz.prog 246 [.slice none 0 0, .slice none 0 0, .slice none 0 0] [(0, 1), (1, 1), (2, 1)] := dX Tryz.underlying246 (by kernel_rfl) (by kernel_rfl) (by kernel_rfl)
theorem aMj : aQ Tryz.prog 176 = true := by kernel_rfl
theorem aUx : aQ Tryz.prog 138 = true := by kernel_rfl
theorem aDa : aQ Tryz.prog 118 = true := by kernel_rfl
theorem aVl : aQ Tryz.prog 108 = true := by kernel_rfl
theorem aLx : eL Tryz.prog 121 2 4 = true := by kernel_rfl
theorem aKv : aQ Tryz.prog 142 = true := by kernel_rfl
theorem wO : gL Tryz.prog 97 = true := by kernel_rfl
theorem aAe : eG Tryz.prog 97 135 2 16 = true := by kernel_rfl
theorem tT : eL Tryz.prog 135 0 0 = true := by kernel_rfl
theorem tH : eL Tryz.prog 135 1 1 = true := by kernel_rfl
theorem aFu : fM Tryz.prog 135 = some [.int .i64 0, .int .i64 0] := by kernel_rfl
theorem aTo : fM Tryz.prog 97 = some [.slice none 0 0] := by kernel_rfl
theorem aNh : aQ Tryz.prog 111 = true := by kernel_rfl
theorem aNz : aQ Tryz.prog 110 = true := by kernel_rfl
theorem aFm : eG Tryz.prog 175 133 1 8 = true := by kernel_rfl
theorem aTd : gL Tryz.prog 133 = true := by kernel_rfl
theorem aWk : aQ Tryz.prog 84 = true := by kernel_rfl
theorem aNs : aQ Tryz.prog 85 = true := by kernel_rfl
theorem aVx : aQ Tryz.prog 83 = true := by kernel_rfl
theorem aRm : aQ Tryz.prog 82 = true := by kernel_rfl
theorem aVt : aQ Tryz.prog 86 = true := by kernel_rfl
theorem aRj : aQ Tryz.prog 53 = true := by kernel_rfl
theorem aRx : aQ Tryz.prog 54 = true := by kernel_rfl
theorem sG : eL Tryz.prog 84 1 1 = true := by kernel_rfl
theorem nM : eL Tryz.prog 84 3 3 = true := by kernel_rfl
theorem iI : eL Tryz.prog 27 2 2 = true := by kernel_rfl
theorem yV : eL Tryz.prog 84 0 0 = true := by kernel_rfl
theorem aWw : aQ Tryz.prog 71 = true := by kernel_rfl
theorem sK : eL Tryz.prog 84 2 2 = true := by kernel_rfl
theorem nQ : eL Tryz.prog 27 0 0 = true := by kernel_rfl
theorem iX : eL Tryz.prog 27 1 1 = true := by kernel_rfl
theorem aJw : aQ Tryz.prog 72 = true := by kernel_rfl
theorem aWi : aQ Tryz.prog 73 = true := by kernel_rfl
theorem aWs : aQ Tryz.prog 74 = true := by kernel_rfl
theorem jF : fM Tryz.prog 27 = some [.int .i64 0, .int .i64 0, .bool false] := by kernel_rfl
theorem aNo : fL Tryz.prog 84 [.slice none 0 0, .slice none 0 0, .slice none 0 0, .int .i64 0, .int .i64 0, .bool false] [(0, 1), (1, 1), (2, 1), (3, 3)] := dX Tryz.underlying84 (by kernel_rfl) (by kernel_rfl) (by kernel_rfl)
theorem aAf : vT Tryz.prog 86 4 85 1 = true := by kernel_rfl
theorem aVg : fM Tryz.prog 86 = some [.nilFunc, .nilFunc, .nilFunc, .nilFunc] := by kernel_rfl
theorem aGd : gL Tryz.prog 85 = true := by kernel_rfl
theorem aWp : aQ Tryz.prog 40 = true := by kernel_rfl
theorem aWr : aQ Tryz.prog 41 = true := by kernel_rfl
theorem aWm : aQ Tryz.prog 42 = true := by kernel_rfl
theorem aWf : aQ Tryz.prog 43 = true := by kernel_rfl
theorem hJ : gU Tryz.prog 27 = some 3 := by kernel_rfl
theorem aKg : aQ Tryz.prog 16 = true := by kernel_rfl
end Go.Proofs.YtlmcphcgiclanaaGreatDoor

namespace Go.Proofs.YtlmcphcgiclanaaGreatDoor
open Go.Bil
open Go.Proofs
theorem zV : aQ Tryz.prog 19 = true := by kernel_rfl
theorem aAx : ∀ (x0 x1 y0 y1 : Int), EqA Tryz.prog 38 [.int .i32 x0, .int .i32 x1] [.int .i32 y0, .int .i32 y1] (decide (x0 = y0 ∧ x1 = y1)) := fun x0 x1 y0 y1 => ⟨by kernel_rfl, fun w => aFv 9998 w x0 x1 y0 y1⟩
theorem oV : fL Tryz.prog 27 [.int .i64 0, .int .i64 0, .bool false] [(0, 1), (1, 1), (2, 1)] := dX Tryz.underlying27 (by kernel_rfl) (by kernel_rfl) (by kernel_rfl)
theorem aRs : aQ Tryz.prog 23 = true := by kernel_rfl
end Go.Proofs.YtlmcphcgiclanaaGreatDoor

namespace Go.Proofs.YtlmcphcgiclanaaGreatDoor
open Go.Bil
open Go.Proofs
theorem aXc : aQ Tryz.prog 14 = true := by kernel_rfl
theorem aRn : aQ Tryz.prog 15 = true := by kernel_rfl
theorem aMb : aQ Tryz.prog 18 = true := by kernel_rfl
theorem aKy : mP Tryz.prog 4 40 = some [.u32, .i32, .i32, .i32, .i32, .i32, .i32, .i32, .i32, .i32] := by kernel_rfl
theorem us5 : (Tryz.prog.underlying 5).isSome = true := by kernel_rfl
end Go.Proofs.YtlmcphcgiclanaaGreatDoor

namespace Go.Proofs.YtlmcphcgiclanaaGreatDoor
open Go.Bil
open Go.RowKit (Below)
open Go.Proofs
set_option maxHeartbeats 4000000 in
theorem lA (w : World) (n l : Int) (h0 : 0 ≤ l) (h1 : l ≤ 2147483647) :
    Calls Tryz.prog 55 #[.int .i32 n, .int .i32 l] w (fun ex w' => ∃ v, ex = .returned v ∧ (fun v w' => v = .bool (decide (oS n l)) ∧ Below w.heap.size w w') v w') := by
  have hneg : IntKind.i32.wrap (-l) = -l := jX _ (by omega) (by omega)
  refine aJ #[.tmp 4] 14 Tryz.func55 rfl Tryz.results55 Tryz.ntmps55 rfl ?_
  have M0 := Mem.refl w
  refine aG (aB ?_)
  refine aA (aD (.bool false) rfl) rfl rfl ?_
  refine aE (aF (aG (aB ?_)))
  refine aA (aC (.int _ _) rfl) rfl rfl ?_
  refine aA (aC (.int _ _) rfl) rfl rfl ?_
  refine aA (aAo rfl) rfl rfl ?_
  refine aM 7 (.int .i32 (-l)) (iE hneg) ?_
  refine aA (aO (.bool (decide _)) rfl rfl rfl) rfl rfl ?_
  refine aA (aC (.bool (decide _)) rfl) rfl rfl ?_
  refine dN 9 rfl (fun g9 => ?_) (fun g9 => ?_)
  · refine aA (aC (.int _ _) rfl) rfl rfl ?_
    refine aA (aC (.int _ _) rfl) rfl rfl ?_
    refine aA (aO (.bool (decide _)) rfl rfl rfl) rfl rfl ?_
    refine aA (bL true (.bool (decide _)) rfl rfl) rfl rfl ?_
    refine aA (aD (.bool (decide _)) rfl) rfl rfl ?_
    refine aE (aF (aR ?_))
    refine cH (.bool (decide _)) rfl ?_
    exact ⟨by unfold oS; first | exact bF (by omega) | exact bD (by omega), M0.below⟩
  · refine aT rfl rfl ?_
    refine aT rfl rfl ?_
    refine aT rfl rfl ?_
    refine aA (bL false (.bool false) rfl rfl) rfl rfl ?_
    refine aA (aD (.bool false) rfl) rfl rfl ?_
    refine aE (aF (aR ?_))
    refine cH (.bool false) rfl ?_
    exact ⟨by unfold oS; first | exact bF (by omega) | exact bD (by omega), M0.below⟩
set_option maxHeartbeats 4000000 in
theorem mO (w : World) (b : Body) :
    Calls Tryz.prog 24 #[(.agg (aI b).toArray)] w (fun ex w' => ∃ v, ex = .returned v ∧ (fun v w' => v = .int .i64 (check b) ∧ Below w.heap.size w w') v w') := by
  refine aJ #[.tmp 2] 63 Tryz.func24 rfl Tryz.results24 Tryz.ntmps24 rfl ?_
  have M0 := Mem.refl w
  refine aG (aB ?_)
  refine bK (.agg (List.toArray _)) M0 rfl rfl rfl (fun b1 w1 M1 => ?_)
  refine aA (aD (.int _ _) rfl) rfl rfl ?_
  refine aE (aF (aG (aG (aB ?_))))
  refine aA (aH 1 nF rfl) rfl rfl ?_
  refine aA (aW 0 (.int _ _) bH M1 rfl rfl rfl) rfl rfl ?_
  refine aA (aO (.bool (decide _)) rfl rfl rfl) rfl rfl ?_
  refine aA (aC (.bool (decide _)) rfl) rfl rfl ?_
  refine dN 6 rfl (fun g6 => ?_) (fun g6 => ?_)
  · refine aT rfl rfl ?_
    refine aT rfl rfl ?_
    refine aT rfl rfl ?_
    refine aA (bL true (.bool true) rfl rfl) rfl rfl ?_
    refine aE (aF ?_)
    refine dR rfl ?_
    refine aG (aB ?_)
    refine aA (aD (.int _ _) rfl) rfl rfl ?_
    refine aE (aF (aR (cP ?_)))
    refine cH (.int _ _) rfl ?_
    exact ⟨iE (by unfold check; unfold oS at *; (repeat' split) <;> omega), M1.below⟩
  · refine aA (aH 1 nF rfl) rfl rfl ?_
    refine aA (aW 0 (.int _ _) bH M1 rfl rfl rfl) rfl rfl ?_
    refine aA (aO (.bool (decide _)) rfl rfl rfl) rfl rfl ?_
    refine aA (bL false (.bool (decide _)) rfl rfl) rfl rfl ?_
    refine aE (aF ?_)
    refine aZ rfl (fun h10 => ?_) (fun h10 => ?_)
    · refine aG (aB ?_)
      refine aA (aD (.int _ _) rfl) rfl rfl ?_
      refine aE (aF (aR (cP ?_)))
      refine cH (.int _ _) rfl ?_
      exact ⟨iE (by unfold check; unfold oS at *; (repeat' split) <;> omega), M1.below⟩
    · refine aN (aF (aG (aG (aB ?_))))
      refine aA (aH 2 kE rfl) rfl rfl ?_
      refine aA (aH 0 dQ rfl) rfl rfl ?_
      refine aA (aW 0 (.int _ _) bH M1 rfl rfl rfl) rfl rfl ?_
      refine aK wF rfl rfl rfl ?_
      refine (lA _ _ _ (by omega) (by omega)).mono ?_
      rintro _ w2 ⟨v2, rfl, ⟨rfl, hb2⟩⟩
      refine ⟨_, rfl, ?_⟩
      have M2 := M1.callB hb2
      refine aA (oD rfl) rfl rfl ?_
      refine aA (aC (.bool (decide _)) rfl) rfl rfl ?_
      refine dN 16 rfl (fun g16 => ?_) (fun g16 => ?_)
      · refine aT rfl rfl ?_
        refine aT rfl rfl ?_
        refine aT rfl rfl ?_
        refine aT rfl rfl ?_
        refine aT rfl rfl ?_
        refine aA (bL true (.bool true) rfl rfl) rfl rfl ?_
        refine aE (aF ?_)
        refine dR rfl ?_
        refine aG (aB ?_)
        refine aA (aD (.int _ _) rfl) rfl rfl ?_
        refine aE (aF (aR (cP ?_)))
        refine cH (.int _ _) rfl ?_
        exact ⟨iE (by unfold check; unfold oS at *; (repeat' split) <;> omega), M2.below⟩
      · refine aA (aH 2 kE rfl) rfl rfl ?_
        refine aA (aH 1 dI rfl) rfl rfl ?_
        refine aA (aW 0 (.int _ _) bH M2 rfl rfl rfl) rfl rfl ?_
        refine aK wF rfl rfl rfl ?_
        refine (lA _ _ _ (by omega) (by omega)).mono ?_
        rintro _ w3 ⟨v3, rfl, ⟨rfl, hb3⟩⟩
        refine ⟨_, rfl, ?_⟩
        have M3 := M2.callB hb3
        refine aA (oD rfl) rfl rfl ?_
        refine aA (bL false (.bool (decide _)) rfl rfl) rfl rfl ?_
        refine aE (aF ?_)
        refine aZ rfl (fun h22 => ?_) (fun h22 => ?_)
        · refine aG (aB ?_)
          refine aA (aD (.int _ _) rfl) rfl rfl ?_
          refine aE (aF (aR (cP ?_)))
          refine cH (.int _ _) rfl ?_
          exact ⟨iE (by unfold check; unfold oS at *; (repeat' split) <;> omega), M3.below⟩
        · refine aN (aF (aG (aG (aB ?_))))
          refine aA (aH 4 fE rfl) rfl rfl ?_
          refine aA (aW 0 (.int _ _) bH M3 rfl rfl rfl) rfl rfl ?_
          refine aA (aO (.bool (decide _)) rfl rfl rfl) rfl rfl ?_
          refine aA (aC (.bool (decide _)) rfl) rfl rfl ?_
          refine dN 26 rfl (fun g26 => ?_) (fun g26 => ?_)
          · refine aT rfl rfl ?_
            refine aT rfl rfl ?_
            refine aT rfl rfl ?_
            refine aA (bL true (.bool true) rfl rfl) rfl rfl ?_
            refine aE (aF ?_)
            refine dR rfl ?_
            refine aG (aB ?_)
            refine aA (aD (.int _ _) rfl) rfl rfl ?_
            refine aE (aF (aR (cP ?_)))
            refine cH (.int _ _) rfl ?_
            exact ⟨iE (by unfold check; unfold oS at *; (repeat' split) <;> omega), M3.below⟩
          · refine aA (aH 4 fE rfl) rfl rfl ?_
            refine aA (aW 0 (.int _ _) bH M3 rfl rfl rfl) rfl rfl ?_
            refine aA (aO (.bool (decide _)) rfl rfl rfl) rfl rfl ?_
            refine aA (bL false (.bool (decide _)) rfl rfl) rfl rfl ?_
            refine aE (aF ?_)
            refine aZ rfl (fun h30 => ?_) (fun h30 => ?_)
            · refine aG (aB ?_)
              refine aA (aD (.int _ _) rfl) rfl rfl ?_
              refine aE (aF (aR (cP ?_)))
              refine cH (.int _ _) rfl ?_
              exact ⟨iE (by unfold check; unfold oS at *; (repeat' split) <;> omega), M3.below⟩
            · refine aN (aF (aG (aG (aB ?_))))
              refine aA (aH 5 sJ rfl) rfl rfl ?_
              refine aA (aW 0 (.int _ _) bH M3 rfl rfl rfl) rfl rfl ?_
              refine aA (aO (.bool (decide _)) rfl rfl rfl) rfl rfl ?_
              refine aA (aC (.bool (decide _)) rfl) rfl rfl ?_
              refine dN 34 rfl (fun g34 => ?_) (fun g34 => ?_)
              · refine aT rfl rfl ?_
                refine aT rfl rfl ?_
                refine aT rfl rfl ?_
                refine aA (bL true (.bool true) rfl rfl) rfl rfl ?_
                refine aE (aF ?_)
                refine dR rfl ?_
                refine aG (aB ?_)
                refine aA (aD (.int _ _) rfl) rfl rfl ?_
                refine aE (aF (aR (cP ?_)))
                refine cH (.int _ _) rfl ?_
                exact ⟨iE (by unfold check; unfold oS at *; (repeat' split) <;> omega), M3.below⟩
              · refine aA (aH 5 sJ rfl) rfl rfl ?_
                refine aA (aW 0 (.int _ _) bH M3 rfl rfl rfl) rfl rfl ?_
                refine aA (aO (.bool (decide _)) rfl rfl rfl) rfl rfl ?_
                refine aA (bL false (.bool (decide _)) rfl rfl) rfl rfl ?_
                refine aE (aF ?_)
                refine aZ rfl (fun h38 => ?_) (fun h38 => ?_)
                · refine aG (aB ?_)
                  refine aA (aD (.int _ _) rfl) rfl rfl ?_
                  refine aE (aF (aR (cP ?_)))
                  refine cH (.int _ _) rfl ?_
                  exact ⟨iE (by unfold check; unfold oS at *; (repeat' split) <;> omega), M3.below⟩
                · refine aN (aF (aG (aG (aB ?_))))
                  refine aA (aH 6 fC rfl) rfl rfl ?_
                  refine aA (aH 0 dQ rfl) rfl rfl ?_
                  refine aA (aW 0 (.int _ _) bH M3 rfl rfl rfl) rfl rfl ?_
                  refine aK wF rfl rfl rfl ?_
                  refine (lA _ _ _ (by omega) (by omega)).mono ?_
                  rintro _ w4 ⟨v4, rfl, ⟨rfl, hb4⟩⟩
                  refine ⟨_, rfl, ?_⟩
                  have M4 := M3.callB hb4
                  refine aA (oD rfl) rfl rfl ?_
                  refine aA (aC (.bool (decide _)) rfl) rfl rfl ?_
                  refine dN 44 rfl (fun g44 => ?_) (fun g44 => ?_)
                  · refine aT rfl rfl ?_
                    refine aT rfl rfl ?_
                    refine aT rfl rfl ?_
                    refine aT rfl rfl ?_
                    refine aT rfl rfl ?_
                    refine aA (bL true (.bool true) rfl rfl) rfl rfl ?_
                    refine aE (aF ?_)
                    refine dR rfl ?_
                    refine aG (aB ?_)
                    refine aA (aD (.int _ _) rfl) rfl rfl ?_
                    refine aE (aF (aR (cP ?_)))
                    refine cH (.int _ _) rfl ?_
                    exact ⟨iE (by unfold check; unfold oS at *; (repeat' split) <;> omega), M4.below⟩
                  · refine aA (aH 6 fC rfl) rfl rfl ?_
                    refine aA (aH 1 dI rfl) rfl rfl ?_
                    refine aA (aW 0 (.int _ _) bH M4 rfl rfl rfl) rfl rfl ?_
                    refine aK wF rfl rfl rfl ?_
                    refine (lA _ _ _ (by omega) (by omega)).mono ?_
                    rintro _ w5 ⟨v5, rfl, ⟨rfl, hb5⟩⟩
                    refine ⟨_, rfl, ?_⟩
                    have M5 := M4.callB hb5
                    refine aA (oD rfl) rfl rfl ?_
                    refine aA (bL false (.bool (decide _)) rfl rfl) rfl rfl ?_
                    refine aE (aF ?_)
                    refine aZ rfl (fun h50 => ?_) (fun h50 => ?_)
                    · refine aG (aB ?_)
                      refine aA (aD (.int _ _) rfl) rfl rfl ?_
                      refine aE (aF (aR (cP ?_)))
                      refine cH (.int _ _) rfl ?_
                      exact ⟨iE (by unfold check; unfold oS at *; (repeat' split) <;> omega), M5.below⟩
                    · refine aN (aF (aG (aG (aB ?_))))
                      refine aA (aH 8 eO rfl) rfl rfl ?_
                      refine aA (aH 0 dQ rfl) rfl rfl ?_
                      refine aA (aW 0 (.int _ _) bH M5 rfl rfl rfl) rfl rfl ?_
                      refine aK wF rfl rfl rfl ?_
                      refine (lA _ _ _ (by omega) (by omega)).mono ?_
                      rintro _ w6 ⟨v6, rfl, ⟨rfl, hb6⟩⟩
                      refine ⟨_, rfl, ?_⟩
                      have M6 := M5.callB hb6
                      refine aA (oD rfl) rfl rfl ?_
                      refine aA (aC (.bool (decide _)) rfl) rfl rfl ?_
                      refine dN 56 rfl (fun g56 => ?_) (fun g56 => ?_)
                      · refine aT rfl rfl ?_
                        refine aT rfl rfl ?_
                        refine aT rfl rfl ?_
                        refine aT rfl rfl ?_
                        refine aT rfl rfl ?_
                        refine aA (bL true (.bool true) rfl rfl) rfl rfl ?_
                        refine aE (aF ?_)
                        refine dR rfl ?_
                        refine aG (aB ?_)
                        refine aA (aD (.int _ _) rfl) rfl rfl ?_
                        refine aE (aF (aR (cP ?_)))
                        refine cH (.int _ _) rfl ?_
                        exact ⟨iE (by unfold check; unfold oS at *; (repeat' split) <;> omega), M6.below⟩
                      · refine aA (aH 8 eO rfl) rfl rfl ?_
                        refine aA (aH 1 dI rfl) rfl rfl ?_
                        refine aA (aW 0 (.int _ _) bH M6 rfl rfl rfl) rfl rfl ?_
                        refine aK wF rfl rfl rfl ?_
                        refine (lA _ _ _ (by omega) (by omega)).mono ?_
                        rintro _ w7 ⟨v7, rfl, ⟨rfl, hb7⟩⟩
                        refine ⟨_, rfl, ?_⟩
                        have M7 := M6.callB hb7
                        refine aA (oD rfl) rfl rfl ?_
                        refine aA (bL false (.bool (decide _)) rfl rfl) rfl rfl ?_
                        refine aE (aF ?_)
                        refine aZ rfl (fun h62 => ?_) (fun h62 => ?_)
                        · refine aG (aB ?_)
                          refine aA (aD (.int _ _) rfl) rfl rfl ?_
                          refine aE (aF (aR (cP ?_)))
                          refine cH (.int _ _) rfl ?_
                          exact ⟨iE (by unfold check; unfold oS at *; (repeat' split) <;> omega), M7.below⟩
                        · refine aN (aF (aG (aB ?_)))
                          refine aA (aD (.int _ _) rfl) rfl rfl ?_
                          refine aE (aF (aR ?_))
                          refine cH (.int _ _) rfl ?_
                          exact ⟨iE (by unfold check; unfold oS at *; (repeat' split) <;> omega), M7.below⟩
end Go.Proofs.YtlmcphcgiclanaaGreatDoor

namespace Go.Proofs.YtlmcphcgiclanaaGreatDoor
open Go.Bil
open Go.RowKit (Below)
open Go.Proofs
theorem aNg (a b : Body) : EqA Tryz.prog 40 (aI a) (aI b) (decide (a = b)) := by
  have h := aWn a.key a.radius a.ax a.ay a.mass a.bounce a.px a.py a.vx a.vy b.key b.radius b.ax b.ay b.mass b.bounce b.px b.py b.vx b.vy
  rw [decide_eq_decide.2 (aNc (a := a) (b := b))]
  exact h
set_option maxHeartbeats 4000000 in
theorem aEr (w : World) (key : Int) (A : Option Addr) (n c : Nat) (xs : List Body) (R : Rd w 10 A n (xs.map aI)) :
    Calls Tryz.prog 38 #[.slice A n c, .int .u32 key] w (fun ex w' => ∃ v, ex = .returned v ∧ (fun v w' => v = .int .i64 (cG key xs) ∧ Below w.heap.size w w') v w') := by
  have hlen : xs.length = n := by simpa using R.len
  have hbd := R.bound
  refine aJ #[.tmp 4] 20 Tryz.func38 rfl Tryz.results38 Tryz.ntmps38 rfl ?_
  have M0 := Mem.refl w
  refine aG (aB ?_)
  refine aA (aD (.int _ _) rfl) rfl rfl ?_
  refine aE (aF (aG (aG (aB ?_))))
  refine aA (aD (.int _ _) rfl) rfl rfl ?_
  refine aE (aF (bA ?_))
  refine dJ (σ := Nat) [0, 1] (fun k => [(5, .int .i64 (k : Int))]) (fun k w' => (k ≤ n ∧ ∀ (j : Nat) (c : Body), j < k → xs[j]? = some c → c.key ≠ key) ∧ Mem w [] [] w') (fun k => n - k) 0 (bV rfl eX) (⟨⟨by omega, fun j c hj => by omega⟩, M0⟩) ?_
  rintro k ρ1 w1 ⟨⟨hk, hne⟩, hM1⟩
  refine aG (aG (aB ?_))
  refine aA (aC (.int _ _) rfl) rfl rfl ?_
  refine aA (aC (.slice _ _ _) rfl) rfl rfl ?_
  refine aA (cR Tryz.underlying22 rfl) rfl rfl ?_
  refine aA (aO (.bool (decide _)) rfl rfl rfl) rfl rfl ?_
  refine aE (aF ?_)
  refine aZ rfl (fun h9 => ?_) (fun h9 => ?_)
  · obtain ⟨xb, hxb⟩ := cN (k := k) hlen (by omega)
    refine aN (aF (aG (bA (aG (aB ?_)))))
    refine aA (aC (.slice _ _ _) rfl) rfl rfl ?_
    refine aA (aC (.int _ _) rfl) rfl rfl ?_
    refine aA (bO (k) dG rfl rfl rfl ((R.mem hM1).below_len (aL aI hxb)) ((R.mem hM1).someK (aL aI hxb))) rfl rfl ?_
    refine aA (bR 0 eB (R.mem hM1) (Nat.lt_of_le_of_lt (Nat.zero_le _) ((R.mem hM1).below_len (aL aI hxb))) rfl) rfl rfl ?_
    refine aA (eV (o := 0) (.int _ _) cV (R.mem hM1) (aL aI hxb) rfl rfl) rfl rfl ?_
    refine aA (aC (.int _ _) rfl) rfl rfl ?_
    refine aA (aO (.bool (decide _)) rfl rfl rfl) rfl rfl ?_
    refine aE (aF ?_)
    refine aZ rfl (fun h18 => ?_) (fun h18 => ?_)
    · refine aG (aB ?_)
      refine aA (aC (.int _ _) rfl) rfl rfl ?_
      refine aA (aD (.int _ _) rfl) rfl rfl ?_
      refine aE (aF (aR ?_))
      refine rW ?_
      refine cP ?_
      refine yC ?_
      refine rW ?_
      refine cP ?_
      refine cH (.int _ _) rfl ?_
      exact ⟨iE (pX hxb h18 hne).symm, hM1.below⟩
    · refine aN ?_
      refine dL ?_
      refine aF (aB ?_)
      refine aA (aC (.int _ _) rfl) rfl rfl ?_
      refine aA (bW rfl rfl (by omega) (by omega)) rfl rfl ?_
      refine aA (aD (.int _ _) rfl) rfl rfl ?_
      refine aE ?_
      refine cE (k + 1) (bV rfl eX) (cI rfl (cI rfl iO)) ?_ ?_
      · exact ⟨⟨by omega, sQ hne hxb h18⟩, hM1⟩
      · omega
  · refine cL ?_
    refine dD ?_
    refine cY ?_
    refine eM ?_
    refine aF (aG (aB ?_))
    refine aA (aD (.int _ _) rfl) rfl rfl ?_
    refine aE (aF (aR ?_))
    refine cH (.int _ _) rfl ?_
    have hkn : k = n := by omega
    exact ⟨iE (wN (fun j b hj => hne j b (by have := (List.getElem?_eq_some_iff.1 hj).1; omega) hj)).symm, hM1.below⟩
set_option maxHeartbeats 4000000 in
theorem oQ (w : World) (A : Option Addr) (n c : Nat) (xs : List Body) (R : Rd w 10 A n (xs.map aI)) (B : Option Addr) (m c' : Nat) (ys : List Body) (R' : Rd w 10 B m (ys.map aI)) :
    Calls Tryz.prog 18 #[.slice A n c, .slice B m c'] w (fun ex w' => ∃ v, ex = .returned v ∧ (fun v w' => v = .bool (decide (xs = ys)) ∧ Below w.heap.size w w') v w') := by
  have hlen : xs.length = n := by simpa using R.len
  have hbd := R.bound
  have hlen' : ys.length = m := by simpa using R'.len
  have hbd' := R'.bound
  refine aJ #[.tmp 4] 26 Tryz.func18 rfl Tryz.results18 Tryz.ntmps18 rfl ?_
  have M0 := Mem.refl w
  refine aG (aB ?_)
  refine aA (aD (.bool false) rfl) rfl rfl ?_
  refine aE (aF (aG (aG (aB ?_))))
  refine aA (aC (.slice _ _ _) rfl) rfl rfl ?_
  refine aA (cR Tryz.underlying22 rfl) rfl rfl ?_
  refine aA (aC (.slice _ _ _) rfl) rfl rfl ?_
  refine aA (cR Tryz.underlying22 rfl) rfl rfl ?_
  refine aA (aO (.bool (decide _)) rfl rfl rfl) rfl rfl ?_
  refine aE (aF ?_)
  refine aZ rfl (fun h10 => ?_) (fun h10 => ?_)
  · refine aG (aB ?_)
    refine aA (aD (.bool false) rfl) rfl rfl ?_
    refine aE (aF (aR (cP ?_)))
    refine cH (.bool false) rfl ?_
    exact ⟨bF (fun e => h10 (by rw [← hlen, ← hlen', e])), M0.below⟩
  · have hnm : n = m := by omega
    refine aN (aF (aG (aG (aB ?_))))
    refine aA (aD (.int _ _) rfl) rfl rfl ?_
    refine aE (aF (bA ?_))
    refine dJ (σ := Nat) [0, 1] (fun k => [(5, .int .i64 (k : Int))]) (fun k w' => (k ≤ n ∧ ∀ (j : Nat) (x : Body), j < k → xs[j]? = some x → ys[j]? = some x) ∧ Mem w [] [] w') (fun k => n - k) 0 (bV rfl eX) (⟨⟨by omega, fun j c hj => by omega⟩, M0⟩) ?_
    rintro k ρ1 w1 ⟨⟨hk, hne⟩, hM1⟩
    refine aG (aG (aB ?_))
    refine aA (aC (.int _ _) rfl) rfl rfl ?_
    refine aA (aC (.slice _ _ _) rfl) rfl rfl ?_
    refine aA (cR Tryz.underlying22 rfl) rfl rfl ?_
    refine aA (aO (.bool (decide _)) rfl rfl rfl) rfl rfl ?_
    refine aE (aF ?_)
    refine aZ rfl (fun h14 => ?_) (fun h14 => ?_)
    · obtain ⟨xb, hxb⟩ := cN (k := k) hlen (by omega)
      obtain ⟨yb, hyb⟩ := cN (k := k) hlen' (by omega)
      refine aN (aF (aG (bA (aG ?_))))
      refine bZ [(0, 0), (1, 0), (2, 1), (3, 1), (4, 0), (5, 0), (6, 1), (7, 1), (8, 0)] mixed rfl (by kernel_rfl) (fun w2 hb2 hh2 => ?_)
      have M2 := hM1.drew hb2 hh2
      refine aX rfl rfl rfl (fun _ => aC (.slice _ _ _) rfl) ?_
      refine aX rfl rfl rfl (fun _ => aC (.int _ _) rfl) ?_
      refine cC rfl rfl rfl (bO (k) dG rfl rfl rfl ((R.mem M2).below_len (aL aI hxb)) ((R.mem M2).someK (aL aI hxb))) ?_
      refine cC rfl rfl rfl (dK _ bX (R.mem M2) (aL aI hxb) rfl) ?_
      refine aX rfl rfl rfl (fun _ => aC (.slice _ _ _) rfl) ?_
      refine aX rfl rfl rfl (fun _ => aC (.int _ _) rfl) ?_
      refine cC rfl rfl rfl (bO (k) dG rfl rfl rfl ((R'.mem M2).below_len (aL aI hyb)) ((R'.mem M2).someK (aL aI hyb))) ?_
      refine cC rfl rfl rfl (dK _ bX (R'.mem M2) (aL aI hyb) rfl) ?_
      refine aX rfl rfl rfl (fun _ => aWq (aNg xb yb) rfl rfl) ?_
      refine cF ?_
      refine aF ?_
      refine aZ rfl (fun h25 => ?_) (fun h25 => ?_)
      · refine aG (aB ?_)
        refine aA (aD (.bool false) rfl) rfl rfl ?_
        refine aE (aF (aR ?_))
        refine rW ?_
        refine cP ?_
        refine yC ?_
        refine rW ?_
        refine cP ?_
        refine cH (.bool false) rfl ?_
        exact ⟨bF (fun e => h25 (by rw [e] at hxb; rw [hxb] at hyb; injection hyb)), M2.below⟩
      · refine aN ?_
        refine dL ?_
        refine aF (aB ?_)
        refine aA (aC (.int _ _) rfl) rfl rfl ?_
        refine aA (bW rfl rfl (by omega) (by omega)) rfl rfl ?_
        refine aA (aD (.int _ _) rfl) rfl rfl ?_
        refine aE ?_
        refine cE (k + 1) (bV rfl eX) (cI rfl (cI rfl iO)) ?_ ?_
        · exact ⟨⟨by omega, sQ (p := fun j x => ys[j]? = some x) hne hxb (by rw [hyb, Decidable.not_not.1 h25])⟩, M2⟩
        · omega
    · refine cL ?_
      refine dD ?_
      refine cY ?_
      refine eM ?_
      refine aF (aG (aB ?_))
      refine aA (aD (.bool true) rfl) rfl rfl ?_
      refine aE (aF (aR ?_))
      refine cH (.bool true) rfl ?_
      exact ⟨bT (List.ext_getElem? fun j => by
      by_cases hj : j < xs.length
      · obtain ⟨x, hx⟩ := cN (k := j) rfl hj
        rw [hx, hne j x (by omega) hx]
      · rw [List.getElem?_eq_none (by omega), List.getElem?_eq_none (by omega)]), hM1.below⟩
set_option maxHeartbeats 4000000 in
theorem aJb (w : World) (b : Body) (gone : Bool) (A : Option Addr) (n c : Nat) (xs : List Body) (R : Rd w 10 A n (xs.map aI)) (hn : n ≤ 1048576) :
    Calls Tryz.prog 90 #[.slice A n c, (.agg (aI b).toArray), .bool gone] w (fun ex w' => ∃ v, ex = .returned v ∧ (fun v w' => ∃ A' n' c' e, v = .slice A' n' c' ∧ aY 40 10 A' n' c' ((xV xs b gone).map aI) e ∧ Mem w [] [e] w') v w') := by
  have hlen : xs.length = n := by simpa using R.len
  have hbd := R.bound
  refine aJ #[.tmp 6] 55 Tryz.func90 rfl Tryz.results90 Tryz.ntmps90 rfl ?_
  have M0 := Mem.refl w
  refine aG (aB ?_)
  refine bK (.agg (List.toArray _)) M0 rfl rfl rfl (fun b1 w1 M1 => ?_)
  refine aA (aD (.slice _ _ _) rfl) rfl rfl ?_
  refine aE (aF (aG (aB ?_)))
  refine aA (aD (.slice _ _ _) rfl) rfl rfl ?_
  have M2 := M1.dummy default
  refine aE (aF (aG (aB ?_)))
  refine aA (aC (.bool _) rfl) rfl rfl ?_
  refine aA (aD (.bool _) rfl) rfl rfl ?_
  refine aE (aF (aG (aG (aB ?_))))
  refine aA (aD (.int _ _) rfl) rfl rfl ?_
  refine aE (aF (bA ?_))
  refine dJ (σ := Nat × List Body × Bool × Row) [0, 4, 6] (fun (k, acc, done, r) => [(7, .slice r.A r.n r.c), (8, .bool done), (9, .int .i64 (k : Int))]) (fun (k, acc, done, r) w' => (k ≤ n ∧ eZ b gone (xs.take k) = (acc, done) ∧ aY 40 10 r.A r.n r.c (acc.map aI) r.e) ∧ Mem w [] [(some b1, bc (aI b) 40), r.e] w') (fun (k, acc, done, r) => n - k) (0, [], gone, ⟨none, 0, 0, (none, default)⟩) (bV rfl (bV rfl (bV rfl eX))) (⟨⟨by omega, rfl, aY.nil _ _ _⟩, M2⟩) ?_
  rintro ⟨k, acc, done, r⟩ ρ3 w3 ⟨⟨hk, heq, hr⟩, hM3⟩
  have hra : acc.length = r.n := by simpa using hr.1
  have hrl : acc.length ≤ k + 1 := by have h := aDq b gone xs k; rw [heq] at h; exact h
  refine aG (aG (aB ?_))
  refine aA (aC (.int _ _) rfl) rfl rfl ?_
  refine aA (aC (.slice _ _ _) rfl) rfl rfl ?_
  refine aA (cR Tryz.underlying22 rfl) rfl rfl ?_
  refine aA (aO (.bool (decide _)) rfl rfl rfl) rfl rfl ?_
  refine aE (aF ?_)
  refine aZ rfl (fun h14 => ?_) (fun h14 => ?_)
  · obtain ⟨xb, hxb⟩ := cN (k := k) hlen (by omega)
    refine aN (aF (aG (bA (aG (aG ?_)))))
    refine bZ [(0, 0), (1, 0), (2, 0), (3, 0), (4, 0), (5, 1), (6, 1), (7, 1), (8, 0), (9, 1), (10, 0), (11, 0)] mixed rfl (by kernel_rfl) (fun w4 hb4 hh4 => ?_)
    have M4 := hM3.drew hb4 hh4
    refine aX rfl rfl rfl (fun _ => aC (.bool _) rfl) ?_
    refine aX rfl rfl rfl (fun _ => kT _ rfl rfl) ?_
    refine aX rfl rfl rfl (fun _ => aC (.bool _) rfl) ?_
    refine aOm 19 _ rfl (fun g19 => ?_) (fun g19 => ?_)
    · have hd : done = false := by simpa using g19
      refine aX rfl rfl rfl (fun _ => aC (.slice _ _ _) rfl) ?_
      refine aX rfl rfl rfl (fun _ => aC (.int _ _) rfl) ?_
      refine cC rfl rfl rfl (bO (k) dG rfl rfl rfl ((R.mem M4).below_len (aL aI hxb)) ((R.mem M4).someK (aL aI hxb))) ?_
      refine cC rfl rfl rfl (bR 0 eB (R.mem M4) (Nat.lt_of_le_of_lt (Nat.zero_le _) ((R.mem M4).below_len (aL aI hxb))) rfl) ?_
      refine cC rfl rfl rfl (eV (o := 0) (.int _ _) cV (R.mem M4) (aL aI hxb) rfl rfl) ?_
      refine aX rfl rfl rfl (fun _ => aH 0 eB rfl) ?_
      refine cC rfl rfl rfl (aW 0 (.int _ _) cV M4 rfl rfl rfl) ?_
      refine aX rfl rfl rfl (fun _ => aO (.bool (decide _)) rfl rfl rfl) ?_
      refine aX rfl rfl rfl (fun _ => bL true (.bool (decide _)) rfl rfl) ?_
      refine cF ?_
      refine aF ?_
      refine aZ rfl (fun h28 => ?_) (fun h28 => ?_)
      · refine aG (aB ?_)
        refine aA (aD (.bool true) rfl) rfl rfl ?_
        refine aE (aF (aB ?_))
        refine aA (aC (.slice _ _ _) rfl) rfl rfl ?_
        refine aA (bB 0 bX M4 rfl rfl rfl) rfl rfl ?_
        refine cM [.agg (List.toArray _)] _ rfl dG M4 rfl rfl rfl rfl (cW rfl) (by decide) (fun b5 w5 M5 => ?_)
        refine dO 1 [aI b] dG M5 rfl rfl rfl rfl rfl hr rfl (by simpa using ⟨gD b, fG b⟩) (cO.ofMem 2 M5 rfl) (by omega) (fun A6 c6 e6 w6 M6 hR6 => ?_)
        refine aA (aD (.slice _ _ _) rfl) rfl rfl ?_
        refine aE (aF (aG ?_))
        refine bZ [(0, 0), (1, 0), (2, 1), (3, 1), (4, 1), (5, 0), (6, 1), (7, 0)] mixed rfl (by kernel_rfl) (fun w7 hb7 hh7 => ?_)
        have M7 := M6.drew hb7 hh7
        refine aX rfl rfl rfl (fun _ => aC (.slice _ _ _) rfl) ?_
        refine aX rfl rfl rfl (fun _ => aC (.int _ _) rfl) ?_
        refine cC rfl rfl rfl (bO (k) dG rfl rfl rfl ((R.mem M7).below_len (aL aI hxb)) ((R.mem M7).someK (aL aI hxb))) ?_
        refine cC rfl rfl rfl (bR 0 eB (R.mem M7) (Nat.lt_of_le_of_lt (Nat.zero_le _) ((R.mem M7).below_len (aL aI hxb))) rfl) ?_
        refine cC rfl rfl rfl (eV (o := 0) (.int _ _) cV (R.mem M7) (aL aI hxb) rfl rfl) ?_
        refine aX rfl rfl rfl (fun _ => aH 0 eB rfl) ?_
        refine cC rfl rfl rfl (aW 0 (.int _ _) cV M7 rfl rfl rfl) ?_
        refine aX rfl rfl rfl (fun _ => aO (.bool (decide _)) rfl rfl rfl) ?_
        refine cF ?_
        refine aF ?_
        refine aZ rfl (fun h40 => ?_) (fun h40 => ?_)
        · refine aB ?_
          refine aA (aC (.slice _ _ _) rfl) rfl rfl ?_
          refine aA (aC (.slice _ _ _) rfl) rfl rfl ?_
          refine aA (aC (.int _ _) rfl) rfl rfl ?_
          refine aA (bO (k) dG rfl rfl rfl ((R.mem M7).below_len (aL aI hxb)) ((R.mem M7).someK (aL aI hxb))) rfl rfl ?_
          refine aA (dK _ bX (R.mem M7) (aL aI hxb) rfl) rfl rfl ?_
          refine cM [.agg (List.toArray _)] _ rfl dG M7 rfl rfl rfl rfl (cW rfl) (by decide) (fun b8 w8 M8 => ?_)
          refine dO 1 [aI xb] dG M8 rfl rfl rfl rfl rfl hR6 rfl (by simpa using ⟨gD xb, fG xb⟩) (cO.ofMem 3 M8 rfl) (by omega) (fun A9 c9 e9 w9 M9 hR9 => ?_)
          refine aA (aD (.slice _ _ _) rfl) rfl rfl ?_
          refine aE ?_
          refine dL ?_
          refine aF (aB ?_)
          refine aA (aC (.int _ _) rfl) rfl rfl ?_
          refine aA (bW rfl rfl (by omega) (by omega)) rfl rfl ?_
          refine aA (aD (.int _ _) rfl) rfl rfl ?_
          refine aE ?_
          refine cE (k + 1, (eZ b gone (xs.take (k + 1))).1, (eZ b gone (xs.take (k + 1))).2, ⟨A9, r.n + 1 + 1, c9, e9⟩) (bV rfl (bV (bv rfl (by rw [dP b gone hxb, heq]; simp [dE, *])) (bV rfl eX))) (cI rfl (cI rfl (cI rfl iO))) ?_ ?_
          · exact ⟨⟨by omega, rfl, by rw [dP b gone hxb, heq]; simpa [dE, *] using hR9⟩, M9.keep [true, true, false, false]⟩
          · (show n - (k + 1) < n - k; omega)
        · refine aN ?_
          refine dL ?_
          refine aF (aB ?_)
          refine aA (aC (.int _ _) rfl) rfl rfl ?_
          refine aA (bW rfl rfl (by omega) (by omega)) rfl rfl ?_
          refine aA (aD (.int _ _) rfl) rfl rfl ?_
          refine aE ?_
          refine cE (k + 1, (eZ b gone (xs.take (k + 1))).1, (eZ b gone (xs.take (k + 1))).2, ⟨A6, r.n + 1, c6, e6⟩) (bV rfl (bV (bv rfl (by rw [dP b gone hxb, heq]; simp [dE, *])) (bV rfl eX))) (cI rfl (cI rfl (cI rfl iO))) ?_ ?_
          · exact ⟨⟨by omega, rfl, by rw [dP b gone hxb, heq]; simpa [dE, *] using hR6⟩, M7.keep [true, true, false]⟩
          · (show n - (k + 1) < n - k; omega)
      · refine aN (aF (aG ?_))
        refine bZ [(0, 0), (1, 0), (2, 1), (3, 1), (4, 1), (5, 0), (6, 1), (7, 0)] mixed rfl (by kernel_rfl) (fun w10 hb10 hh10 => ?_)
        have M10 := M4.drew hb10 hh10
        refine aX rfl rfl rfl (fun _ => aC (.slice _ _ _) rfl) ?_
        refine aX rfl rfl rfl (fun _ => aC (.int _ _) rfl) ?_
        refine cC rfl rfl rfl (bO (k) dG rfl rfl rfl ((R.mem M10).below_len (aL aI hxb)) ((R.mem M10).someK (aL aI hxb))) ?_
        refine cC rfl rfl rfl (bR 0 eB (R.mem M10) (Nat.lt_of_le_of_lt (Nat.zero_le _) ((R.mem M10).below_len (aL aI hxb))) rfl) ?_
        refine cC rfl rfl rfl (eV (o := 0) (.int _ _) cV (R.mem M10) (aL aI hxb) rfl rfl) ?_
        refine aX rfl rfl rfl (fun _ => aH 0 eB rfl) ?_
        refine cC rfl rfl rfl (aW 0 (.int _ _) cV M10 rfl rfl rfl) ?_
        refine aX rfl rfl rfl (fun _ => aO (.bool (decide _)) rfl rfl rfl) ?_
        refine cF ?_
        refine aF ?_
        refine aZ rfl (fun h40 => ?_) (fun h40 => ?_)
        · refine aB ?_
          refine aA (aC (.slice _ _ _) rfl) rfl rfl ?_
          refine aA (aC (.slice _ _ _) rfl) rfl rfl ?_
          refine aA (aC (.int _ _) rfl) rfl rfl ?_
          refine aA (bO (k) dG rfl rfl rfl ((R.mem M10).below_len (aL aI hxb)) ((R.mem M10).someK (aL aI hxb))) rfl rfl ?_
          refine aA (dK _ bX (R.mem M10) (aL aI hxb) rfl) rfl rfl ?_
          refine cM [.agg (List.toArray _)] _ rfl dG M10 rfl rfl rfl rfl (cW rfl) (by decide) (fun b11 w11 M11 => ?_)
          refine dO 1 [aI xb] dG M11 rfl rfl rfl rfl rfl hr rfl (by simpa using ⟨gD xb, fG xb⟩) (cO.ofMem 2 M11 rfl) (by omega) (fun A12 c12 e12 w12 M12 hR12 => ?_)
          refine aA (aD (.slice _ _ _) rfl) rfl rfl ?_
          refine aE ?_
          refine dL ?_
          refine aF (aB ?_)
          refine aA (aC (.int _ _) rfl) rfl rfl ?_
          refine aA (bW rfl rfl (by omega) (by omega)) rfl rfl ?_
          refine aA (aD (.int _ _) rfl) rfl rfl ?_
          refine aE ?_
          refine cE (k + 1, (eZ b gone (xs.take (k + 1))).1, (eZ b gone (xs.take (k + 1))).2, ⟨A12, r.n + 1, c12, e12⟩) (bV rfl (bV (bv rfl (by rw [dP b gone hxb, heq]; simp [dE, *])) (bV rfl eX))) (cI rfl (cI rfl (cI rfl iO))) ?_ ?_
          · exact ⟨⟨by omega, rfl, by rw [dP b gone hxb, heq]; simpa [dE, *] using hR12⟩, M12.keep [true, true, false]⟩
          · (show n - (k + 1) < n - k; omega)
        · refine aN ?_
          refine dL ?_
          refine aF (aB ?_)
          refine aA (aC (.int _ _) rfl) rfl rfl ?_
          refine aA (bW rfl rfl (by omega) (by omega)) rfl rfl ?_
          refine aA (aD (.int _ _) rfl) rfl rfl ?_
          refine aE ?_
          refine cE (k + 1, (eZ b gone (xs.take (k + 1))).1, (eZ b gone (xs.take (k + 1))).2, r) (bV rfl (bV (bv rfl (by rw [dP b gone hxb, heq]; simp [dE, *])) (bV rfl eX))) (cI rfl (cI rfl (cI rfl iO))) ?_ ?_
          · exact ⟨⟨by omega, rfl, by rw [dP b gone hxb, heq]; simpa [dE, *] using hr⟩, M10.keep [true, true]⟩
          · (show n - (k + 1) < n - k; omega)
    · have hd : done = true := by simpa using g19
      refine D_s rfl rfl rfl ?_
      refine D_s rfl rfl rfl ?_
      refine aPr rfl rfl rfl ?_
      refine aPr rfl rfl rfl ?_
      refine aPr rfl rfl rfl ?_
      refine D_s rfl rfl rfl ?_
      refine aPr rfl rfl rfl ?_
      refine D_s rfl rfl rfl ?_
      refine aX rfl rfl rfl (fun _ => bL false (.bool false) rfl rfl) ?_
      refine cF ?_
      refine aF ?_
      refine cJ rfl ?_
      refine aN (aF (aG ?_))
      refine bZ [(0, 0), (1, 0), (2, 1), (3, 1), (4, 1), (5, 0), (6, 1), (7, 0)] mixed rfl (by kernel_rfl) (fun w13 hb13 hh13 => ?_)
      have M13 := M4.drew hb13 hh13
      refine aX rfl rfl rfl (fun _ => aC (.slice _ _ _) rfl) ?_
      refine aX rfl rfl rfl (fun _ => aC (.int _ _) rfl) ?_
      refine cC rfl rfl rfl (bO (k) dG rfl rfl rfl ((R.mem M13).below_len (aL aI hxb)) ((R.mem M13).someK (aL aI hxb))) ?_
      refine cC rfl rfl rfl (bR 0 eB (R.mem M13) (Nat.lt_of_le_of_lt (Nat.zero_le _) ((R.mem M13).below_len (aL aI hxb))) rfl) ?_
      refine cC rfl rfl rfl (eV (o := 0) (.int _ _) cV (R.mem M13) (aL aI hxb) rfl rfl) ?_
      refine aX rfl rfl rfl (fun _ => aH 0 eB rfl) ?_
      refine cC rfl rfl rfl (aW 0 (.int _ _) cV M13 rfl rfl rfl) ?_
      refine aX rfl rfl rfl (fun _ => aO (.bool (decide _)) rfl rfl rfl) ?_
      refine cF ?_
      refine aF ?_
      refine aZ rfl (fun h40 => ?_) (fun h40 => ?_)
      · refine aB ?_
        refine aA (aC (.slice _ _ _) rfl) rfl rfl ?_
        refine aA (aC (.slice _ _ _) rfl) rfl rfl ?_
        refine aA (aC (.int _ _) rfl) rfl rfl ?_
        refine aA (bO (k) dG rfl rfl rfl ((R.mem M13).below_len (aL aI hxb)) ((R.mem M13).someK (aL aI hxb))) rfl rfl ?_
        refine aA (dK _ bX (R.mem M13) (aL aI hxb) rfl) rfl rfl ?_
        refine cM [.agg (List.toArray _)] _ rfl dG M13 rfl rfl rfl rfl (cW rfl) (by decide) (fun b14 w14 M14 => ?_)
        refine dO 1 [aI xb] dG M14 rfl rfl rfl rfl rfl hr rfl (by simpa using ⟨gD xb, fG xb⟩) (cO.ofMem 2 M14 rfl) (by omega) (fun A15 c15 e15 w15 M15 hR15 => ?_)
        refine aA (aD (.slice _ _ _) rfl) rfl rfl ?_
        refine aE ?_
        refine dL ?_
        refine aF (aB ?_)
        refine aA (aC (.int _ _) rfl) rfl rfl ?_
        refine aA (bW rfl rfl (by omega) (by omega)) rfl rfl ?_
        refine aA (aD (.int _ _) rfl) rfl rfl ?_
        refine aE ?_
        refine cE (k + 1, (eZ b gone (xs.take (k + 1))).1, (eZ b gone (xs.take (k + 1))).2, ⟨A15, r.n + 1, c15, e15⟩) (bV rfl (bV (bv rfl (by rw [dP b gone hxb, heq]; simp [dE, *])) (bV rfl eX))) (cI rfl (cI rfl (cI rfl iO))) ?_ ?_
        · exact ⟨⟨by omega, rfl, by rw [dP b gone hxb, heq]; simpa [dE, *] using hR15⟩, M15.keep [true, true, false]⟩
        · (show n - (k + 1) < n - k; omega)
      · refine aN ?_
        refine dL ?_
        refine aF (aB ?_)
        refine aA (aC (.int _ _) rfl) rfl rfl ?_
        refine aA (bW rfl rfl (by omega) (by omega)) rfl rfl ?_
        refine aA (aD (.int _ _) rfl) rfl rfl ?_
        refine aE ?_
        refine cE (k + 1, (eZ b gone (xs.take (k + 1))).1, (eZ b gone (xs.take (k + 1))).2, r) (bV rfl (bV (bv rfl (by rw [dP b gone hxb, heq]; simp [dE, *])) (bV rfl eX))) (cI rfl (cI rfl (cI rfl iO))) ?_ ?_
        · exact ⟨⟨by omega, rfl, by rw [dP b gone hxb, heq]; simpa [dE, *] using hr⟩, M13.keep [true, true]⟩
        · (show n - (k + 1) < n - k; omega)
  · have hkn : k = n := by omega
    subst hkn
    rw [List.take_of_length_le (by omega)] at heq
    refine cL ?_
    refine dD ?_
    refine cY ?_
    refine eM ?_
    refine aF (aG (aG (aB ?_)))
    refine aA (aC (.bool _) rfl) rfl rfl ?_
    refine aA (kT _ rfl rfl) rfl rfl ?_
    refine aE (aF ?_)
    refine iQ _ rfl (fun h49 => ?_) (fun h49 => ?_)
    · have hd : done = false := by simpa using h49
      refine aB ?_
      refine aA (aC (.slice _ _ _) rfl) rfl rfl ?_
      refine aA (bB 0 bX hM3 rfl rfl rfl) rfl rfl ?_
      refine cM [.agg (List.toArray _)] _ rfl dG hM3 rfl rfl rfl rfl (cW rfl) (by decide) (fun b16 w16 M16 => ?_)
      refine dO 1 [aI b] dG M16 rfl rfl rfl rfl rfl hr rfl (by simpa using ⟨gD b, fG b⟩) (cO.ofMem 2 M16 rfl) (by omega) (fun A17 c17 e17 w17 M17 hR17 => ?_)
      refine aA (aD (.slice _ _ _) rfl) rfl rfl ?_
      refine aE (aF (aG (aB ?_)))
      refine aA (aC (.slice _ _ _) rfl) rfl rfl ?_
      refine aA (aD (.slice _ _ _) rfl) rfl rfl ?_
      refine aE (aF (aR ?_))
      refine cH (.slice _ _ _) rfl ?_
      exact ⟨_, _, _, _, rfl, by unfold xV; rw [heq]; simpa [*] using hR17, M17.keep [false, true, false]⟩
    · have hd : done = true := by simpa using h49
      refine aN (aF (aG (aB ?_)))
      refine aA (aC (.slice _ _ _) rfl) rfl rfl ?_
      refine aA (aD (.slice _ _ _) rfl) rfl rfl ?_
      refine aE (aF (aR ?_))
      refine cH (.slice _ _ _) rfl ?_
      exact ⟨_, _, _, _, rfl, by unfold xV; rw [heq]; simpa [*] using hr, hM3.keep [false, true]⟩
end Go.Proofs.YtlmcphcgiclanaaGreatDoor

namespace Go.Proofs.YtlmcphcgiclanaaGreatDoor
open Go.Bil
open Go.RowKit (Below)
open Go.Proofs
end Go.Proofs.YtlmcphcgiclanaaGreatDoor

namespace Go.Proofs.YtlmcphcgiclanaaGreatDoor
open Go.Bil
open Go.RowKit (Below)
open Go.Proofs
set_option maxHeartbeats 4000000 in
theorem rN (w : World) (x : Int) :
    Calls Tryz.prog 121 #[.int .u32 x] w (fun ex w' => ∃ v, ex = .returned v ∧ (fun v w' => v = .bool false ∧ w' = w) v w') := by
  refine aJ #[.tmp 2] 6 Tryz.func121 rfl Tryz.results121 Tryz.ntmps121 rfl ?_
  have M0 := Mem.refl w
  refine aG (aB ?_)
  refine aA (aD (.bool false) rfl) rfl rfl ?_
  refine aE (aF (aG (aB ?_)))
  refine aA (aC (.int _ _) rfl) rfl rfl ?_
  refine aA (aC (.int _ _) rfl) rfl rfl ?_
  refine aA (aO (.bool (decide _)) rfl rfl rfl) rfl rfl ?_
  refine aA (aD (.bool (decide _)) rfl) rfl rfl ?_
  refine aE (aF (aR ?_))
  refine cH (.bool (decide _)) rfl ?_
  exact ⟨(bF (by omega)).symm, rfl⟩
set_option maxHeartbeats 4000000 in
theorem kV (w : World) (x y : Int) :
    Calls Tryz.prog 97 #[.int .u32 x, .int .u32 y] w (fun ex w' => ∃ v, ex = .returned v ∧ (fun v w' => v = .int .i64 (mE x y) ∧ w' = w) v w') := by
  refine aJ #[.tmp 4] 20 Tryz.func97 rfl Tryz.results97 Tryz.ntmps97 rfl ?_
  have M0 := Mem.refl w
  refine aG (aB ?_)
  refine aA (aD (.int _ _) rfl) rfl rfl ?_
  refine aE (aF (aG (aB ?_)))
  refine aA (aC (.int _ _) rfl) rfl rfl ?_
  refine aK aKn rfl rfl rfl ?_
  refine (rN _ _).mono ?_
  rintro _ w1 ⟨v1, rfl, ⟨rfl, rfl⟩⟩
  refine ⟨_, rfl, ?_⟩
  have M1 : Mem _ _ [] _ := M0
  refine aA (aD (.bool false) rfl) rfl rfl ?_
  refine aE (aF (aG (aB ?_)))
  refine aA (aC (.int _ _) rfl) rfl rfl ?_
  refine aK aKn rfl rfl rfl ?_
  refine (rN _ _).mono ?_
  rintro _ w2 ⟨v2, rfl, ⟨rfl, rfl⟩⟩
  refine ⟨_, rfl, ?_⟩
  have M2 : Mem _ _ [] _ := M1
  refine aA (aD (.bool false) rfl) rfl rfl ?_
  refine aE (aF (aG (aG (aB ?_))))
  refine aA (aC (.bool false) rfl) rfl rfl ?_
  refine aE (aF ?_)
  refine cJ rfl ?_
  refine aN (aF (aG (aG (aB ?_))))
  refine aA (aC (.bool false) rfl) rfl rfl ?_
  refine aE (aF ?_)
  refine cJ rfl ?_
  refine aN (aF (aG (aG (aB ?_))))
  refine aA (aC (.int _ _) rfl) rfl rfl ?_
  refine aA (aC (.int _ _) rfl) rfl rfl ?_
  refine aA (aO (.bool (decide _)) rfl rfl rfl) rfl rfl ?_
  refine aE (aF ?_)
  refine aZ rfl (fun h16 => ?_) (fun h16 => ?_)
  · refine aG (aB ?_)
    refine aA (aD (.int _ _) rfl) rfl rfl ?_
    refine aE (aF (aR (cP ?_)))
    refine cH (.int _ _) rfl ?_
    exact ⟨iE (by unfold mE; (repeat' split) <;> omega), rfl⟩
  · refine aN (aF (aG (aG (aB ?_))))
    refine aA (aC (.int _ _) rfl) rfl rfl ?_
    refine aA (aC (.int _ _) rfl) rfl rfl ?_
    refine aA (aO (.bool (decide _)) rfl rfl rfl) rfl rfl ?_
    refine aE (aF ?_)
    refine aZ rfl (fun h19 => ?_) (fun h19 => ?_)
    · refine aG (aB ?_)
      refine aA (aD (.int _ _) rfl) rfl rfl ?_
      refine aE (aF (aR (cP ?_)))
      refine cH (.int _ _) rfl ?_
      exact ⟨iE (by unfold mE; (repeat' split) <;> omega), rfl⟩
    · refine aN (aF (aG (aB ?_)))
      refine aA (aD (.int _ _) rfl) rfl rfl ?_
      refine aE (aF (aR ?_))
      refine cH (.int _ _) rfl ?_
      exact ⟨iE (by unfold mE; (repeat' split) <;> omega), rfl⟩
set_option maxHeartbeats 4000000 in
theorem wC (w : World) (A : Option Addr) (n c : Nat) (ls : List (List Value)) (R : Rd w 10 A n ls) (h1 : ∀ y ∈ ls, ∀ u ∈ y, one u = true) (hn : n ≤ 1048576) :
    Calls Tryz.prog 49 #[.slice A n c] w (fun ex w' => ∃ v, ex = .returned v ∧ (fun v w' => ∃ A' n' c' e, v = .slice A' n' c' ∧ aY 40 10 A' n' c' ls e ∧ Mem w [] [e] w' ∧ A'.isSome = A.isSome) v w') := by
  refine aJ #[.tmp 2] 8 Tryz.func49 rfl Tryz.results49 Tryz.ntmps49 rfl ?_
  have M0 := Mem.refl w
  refine aG (aB ?_)
  refine aA (aD (.slice _ _ _) rfl) rfl rfl ?_
  refine aE (aF (aG (aG (aB ?_))))
  refine aA (aC (.slice _ _ _) rfl) rfl rfl ?_
  refine aA (yQ _ Tryz.underlying22 rfl rfl) rfl rfl ?_
  refine aE (aF ?_)
  refine iQ _ rfl (fun h4 => ?_) (fun h4 => ?_)
  · refine aG (aB ?_)
    refine aA (aD (.slice _ _ _) rfl) rfl rfl ?_
    refine aE (aF (aR (cP ?_)))
    refine cH (.slice _ _ _) rfl ?_
    have hA : A = none := by cases A <;> simp_all
    have hl : ls = [] := by
      rcases Nat.eq_zero_or_pos n with h | h
      · subst h; exact List.eq_nil_of_length_eq_zero R.len
      · have := R.some h; rw [hA] at this; cases this
    subst hA; subst hl
    exact ⟨_, _, _, _, rfl, aY.nil 40 10 default, M0.dummy default, rfl⟩
  · refine aN (aF (aG (aB ?_)))
    refine cM [] [] rfl dG M0 rfl rfl rfl rfl (cW rfl) (by decide) (fun b1 w1 M1 => ?_)
    refine aA (aC (.slice _ _ _) rfl) rfl rfl ?_
    refine aEt 0 ls dG M1 rfl rfl rfl rfl rfl (aY.empty b1) (R.mem M1) h1 (by omega) (fun A2 c2 e2 w2 M2 hR2 hA2 => ?_)
    have hAA := hA2
    refine aA (aD (.slice _ _ _) rfl) rfl rfl ?_
    refine aE (aF (aR ?_))
    refine cH (.slice _ _ _) rfl ?_
    refine ⟨_, _, _, _, rfl, by simpa using hR2, M2, ?_⟩
    rw [hAA rfl]; cases A <;> simp_all
end Go.Proofs.YtlmcphcgiclanaaGreatDoor

namespace Go.Proofs.YtlmcphcgiclanaaGreatDoor
open Go.Bil
open Go.RowKit (Below)
open Go.Proofs
end Go.Proofs.YtlmcphcgiclanaaGreatDoor
