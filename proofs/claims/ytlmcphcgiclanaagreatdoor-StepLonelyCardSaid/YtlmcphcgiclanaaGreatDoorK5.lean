/- Part of the proof of the laws of this seat: Ty, T26, T25, T20, T20r, T20l, R5, R6, Bd, Lib, St. No conditions. -/
import Derived.Test.YtlmcphcgiclanaaGreatDoorProg
import Derived.Test.YtlmcphcgiclanaaGreatDoorK2
import Derived.Test.YtlmcphcgiclanaaGreatDoorK3
import Derived.Test.YtlmcphcgiclanaaGreatDoorK4
import Derived.KernelRfl
set_option linter.unusedVariables false
set_option linter.unusedSimpArgs false
set_option linter.unnecessarySimpa false
namespace Go.Proofs.YtlmcphcgiclanaaGreatDoor
open Go.Bil
open Go.Proofs
theorem dD : gV Tryz.prog 36 = true := by kernel_rfl
theorem aZ : gV Tryz.prog 21 = true := by kernel_rfl
theorem aHi : ∀ (d : Nat) (w : World) (x0 x1 y0 y1 : Int), (Op.equalIn (d + 2) 38 (.agg [.int .i32 x0, .int .i32 x1].toArray) (.agg [.int .i32 y0, .int .i32 y1].toArray)).run Tryz.prog w = .ok (decide (x0 = y0 ∧ x1 = y1)) w := fun d w x0 x1 y0 y1 => by
    have h := oK (P := Tryz.prog) (T := 38) (dd := d + 1) (xs := [.int .i32 x0, .int .i32 x1]) (ys := [.int .i32 y0, .int .i32 y1]) (w := w) Tryz.underlying38 (by kernel_rfl) (eV rfl (fQ aZ rfl) (fQ aZ rfl) (lN (dd := d + 0) Tryz.underlying21) (eV rfl (fQ aZ rfl) (fQ aZ rfl) (lN (dd := d + 0) Tryz.underlying21) (tL)))
    refine h.trans (congrArg (fun r => Result.ok r w) ?_)
    simp only [Bool.decide_and, Bool.and_true, Bool.and_assoc]
theorem bJ : gZ Tryz.prog 38 = some 2 := by kernel_rfl
theorem aYp : ∀ (d : Nat) (w : World) (x0 x1 x2 x3 x4 x5 x6 x7 x8 x9 y0 y1 y2 y3 y4 y5 y6 y7 y8 y9 : Int), (Op.equalIn (d + 3) 40 (.agg [.int .u32 x0, .int .i32 x1, .int .i32 x2, .int .i32 x3, .int .i32 x4, .int .i32 x5, .int .i32 x6, .int .i32 x7, .int .i32 x8, .int .i32 x9].toArray) (.agg [.int .u32 y0, .int .i32 y1, .int .i32 y2, .int .i32 y3, .int .i32 y4, .int .i32 y5, .int .i32 y6, .int .i32 y7, .int .i32 y8, .int .i32 y9].toArray)).run Tryz.prog w = .ok (decide (x0 = y0 ∧ x1 = y1 ∧ x2 = y2 ∧ x3 = y3 ∧ x4 = y4 ∧ x5 = y5 ∧ x6 = y6 ∧ x7 = y7 ∧ x8 = y8 ∧ x9 = y9)) w := fun d w x0 x1 x2 x3 x4 x5 x6 x7 x8 x9 y0 y1 y2 y3 y4 y5 y6 y7 y8 y9 => by
    have h := oK (P := Tryz.prog) (T := 40) (dd := d + 2) (xs := [.int .u32 x0, .int .i32 x1, .int .i32 x2, .int .i32 x3, .int .i32 x4, .int .i32 x5, .int .i32 x6, .int .i32 x7, .int .i32 x8, .int .i32 x9]) (ys := [.int .u32 y0, .int .i32 y1, .int .i32 y2, .int .i32 y3, .int .i32 y4, .int .i32 y5, .int .i32 y6, .int .i32 y7, .int .i32 y8, .int .i32 y9]) (w := w) Tryz.underlying40 (by kernel_rfl) (eV rfl (fQ dD rfl) (fQ dD rfl) (lN (dd := d + 1) Tryz.underlying36) (eV rfl (fQ aZ rfl) (fQ aZ rfl) (lN (dd := d + 1) Tryz.underlying21) (eV rfl (uI bJ rfl) (uI bJ rfl) (aHi (d + 0) w x2 x3 y2 y3) (eV rfl (fQ aZ rfl) (fQ aZ rfl) (lN (dd := d + 1) Tryz.underlying21) (eV rfl (fQ aZ rfl) (fQ aZ rfl) (lN (dd := d + 1) Tryz.underlying21) (eV rfl (uI bJ rfl) (uI bJ rfl) (aHi (d + 0) w x6 x7 y6 y7) (eV rfl (uI bJ rfl) (uI bJ rfl) (aHi (d + 0) w x8 x9 y8 y9) (tL))))))))
    refine h.trans (congrArg (fun r => Result.ok r w) ?_)
    simp only [Bool.decide_and, Bool.and_true, Bool.and_assoc]
theorem aZc : ∀ (x0 x1 x2 x3 x4 x5 x6 x7 x8 x9 y0 y1 y2 y3 y4 y5 y6 y7 y8 y9 : Int), EqA Tryz.prog 40 [.int .u32 x0, .int .i32 x1, .int .i32 x2, .int .i32 x3, .int .i32 x4, .int .i32 x5, .int .i32 x6, .int .i32 x7, .int .i32 x8, .int .i32 x9] [.int .u32 y0, .int .i32 y1, .int .i32 y2, .int .i32 y3, .int .i32 y4, .int .i32 y5, .int .i32 y6, .int .i32 y7, .int .i32 y8, .int .i32 y9] (decide (x0 = y0 ∧ x1 = y1 ∧ x2 = y2 ∧ x3 = y3 ∧ x4 = y4 ∧ x5 = y5 ∧ x6 = y6 ∧ x7 = y7 ∧ x8 = y8 ∧ x9 = y9)) := fun x0 x1 x2 x3 x4 x5 x6 x7 x8 x9 y0 y1 y2 y3 y4 y5 y6 y7 y8 y9 => ⟨by kernel_rfl, fun w => aYp 9997 w x0 x1 x2 x3 x4 x5 x6 x7 x8 x9 y0 y1 y2 y3 y4 y5 y6 y7 y8 y9⟩
theorem bO : gZ Tryz.prog 40 = some 10 := by kernel_rfl
theorem aUt : ∀ (d : Nat) (w : World) (x0 x1 y0 y1 : Int), (Op.equalIn (d + 2) 119 (.agg [.int .u32 x0, .int .u32 x1].toArray) (.agg [.int .u32 y0, .int .u32 y1].toArray)).run Tryz.prog w = .ok (decide (x0 = y0 ∧ x1 = y1)) w := fun d w x0 x1 y0 y1 => by
    have h := oK (P := Tryz.prog) (T := 119) (dd := d + 1) (xs := [.int .u32 x0, .int .u32 x1]) (ys := [.int .u32 y0, .int .u32 y1]) (w := w) Tryz.underlying119 (by kernel_rfl) (eV rfl (fQ dD rfl) (fQ dD rfl) (lN (dd := d + 0) Tryz.underlying36) (eV rfl (fQ dD rfl) (fQ dD rfl) (lN (dd := d + 0) Tryz.underlying36) (tL)))
    refine h.trans (congrArg (fun r => Result.ok r w) ?_)
    simp only [Bool.decide_and, Bool.and_true, Bool.and_assoc]
theorem aXb : ∀ (x0 x1 y0 y1 : Int), EqA Tryz.prog 119 [.int .u32 x0, .int .u32 x1] [.int .u32 y0, .int .u32 y1] (decide (x0 = y0 ∧ x1 = y1)) := fun x0 x1 y0 y1 => ⟨by kernel_rfl, fun w => aUt 9998 w x0 x1 y0 y1⟩
theorem fI : gZ Tryz.prog 119 = some 2 := by kernel_rfl
theorem aUq : aT Tryz.prog 170 = true := by kernel_rfl
theorem aYn : jQ Tryz.prog 119 = some (.agg [.int .u32 0, .int .u32 0].toArray) := by kernel_rfl
theorem mA : gV Tryz.prog 3 = true := by kernel_rfl
theorem mL : gV Tryz.prog 4 = true := by kernel_rfl
theorem kW : eO Tryz.prog 40 1 1 = true := by kernel_rfl
theorem jE : eO Tryz.prog 40 2 2 = true := by kernel_rfl
theorem dO : eO Tryz.prog 38 0 0 = true := by kernel_rfl
theorem xP : aT Tryz.prog 55 = true := by kernel_rfl
theorem dJ : eO Tryz.prog 38 1 1 = true := by kernel_rfl
theorem fP : eO Tryz.prog 40 3 4 = true := by kernel_rfl
theorem tH : eO Tryz.prog 40 4 5 = true := by kernel_rfl
theorem eK : eO Tryz.prog 40 5 6 = true := by kernel_rfl
theorem fD : eO Tryz.prog 40 6 8 = true := by kernel_rfl
theorem cA : eN Tryz.prog 22 40 10 40 = true := by kernel_rfl
theorem eG : eO Tryz.prog 40 0 0 = true := by kernel_rfl
theorem mixed : Tryz.prog.follows .mixedOrders = true := by kernel_rfl
theorem lF : gV Tryz.prog 22 = true := by kernel_rfl
theorem mI : fR Tryz.prog 40 = some [.int .u32 0, .int .i32 0, .int .i32 0, .int .i32 0, .int .i32 0, .int .i32 0, .int .i32 0, .int .i32 0, .int .i32 0, .int .i32 0] := by kernel_rfl
theorem lU : fK Tryz.prog 40 [.int .u32 0, .int .i32 0, .int .i32 0, .int .i32 0, .int .i32 0, .int .i32 0, .int .i32 0, .int .i32 0, .int .i32 0, .int .i32 0] [(0, 1), (1, 1), (2, 2), (4, 1), (5, 1), (6, 2), (8, 2)] := dZ Tryz.underlying40 (by kernel_rfl) (by kernel_rfl) (by kernel_rfl)
theorem aNl : aT Tryz.prog 121 = true := by kernel_rfl
theorem aNs : aT Tryz.prog 97 = true := by kernel_rfl
theorem aYz : aT Tryz.prog 49 = true := by kernel_rfl
theorem aTz : aT Tryz.prog 24 = true := by kernel_rfl
theorem aUb : aT Tryz.prog 38 = true := by kernel_rfl
theorem aZg : aT Tryz.prog 90 = true := by kernel_rfl
theorem aYa : aT Tryz.prog 59 = true := by kernel_rfl
theorem aZi : aT Tryz.prog 50 = true := by kernel_rfl
theorem aYj : aT Tryz.prog 36 = true := by kernel_rfl
theorem us3 : (Tryz.prog.underlying 3).isSome = true := by kernel_rfl
theorem aXz : (Tryz.prog.underlying 136).isSome = true := by kernel_rfl
theorem aMd : aT Tryz.prog 140 = true := by kernel_rfl
theorem aUi : aT Tryz.prog 139 = true := by kernel_rfl
theorem aOm : aT Tryz.prog 215 = true := by kernel_rfl
theorem zY : fR Tryz.prog 193 = some [.int .i32 0, .int .i32 0, .int .i32 0, .int .i32 0] := by kernel_rfl
theorem aWi : aT Tryz.prog 190 = true := by kernel_rfl
theorem yP : fK Tryz.prog 193 [.int .i32 0, .int .i32 0, .int .i32 0, .int .i32 0] [(0, 1), (1, 1), (2, 1), (3, 1)] := dZ Tryz.underlying193 (by kernel_rfl) (by kernel_rfl) (by kernel_rfl)
theorem gK : gZ Tryz.prog 193 = some 4 := by kernel_rfl
theorem aWb : fR Tryz.prog 94 = some [.int .i32 0, .int .i32 0, .int .i32 0, .int .i32 0] := by kernel_rfl
theorem aTk : aT Tryz.prog 81 = true := by kernel_rfl
theorem aPj : fK Tryz.prog 94 [.int .i32 0, .int .i32 0, .int .i32 0, .int .i32 0] [(0, 1), (1, 1), (2, 1), (3, 1)] := dZ Tryz.underlying94 (by kernel_rfl) (by kernel_rfl) (by kernel_rfl)
theorem aIe : gZ Tryz.prog 94 = some 4 := by kernel_rfl
theorem pO : eO Tryz.prog 193 0 0 = true := by kernel_rfl
theorem qC : eO Tryz.prog 193 2 2 = true := by kernel_rfl
theorem pN : eO Tryz.prog 193 1 1 = true := by kernel_rfl
theorem pU : eO Tryz.prog 193 3 3 = true := by kernel_rfl
theorem aAn : eO Tryz.prog 94 0 0 = true := by kernel_rfl
theorem zN : eO Tryz.prog 94 2 2 = true := by kernel_rfl
theorem aAs : eO Tryz.prog 94 1 1 = true := by kernel_rfl
theorem aAa : eO Tryz.prog 94 3 3 = true := by kernel_rfl
theorem aFt : aT Tryz.prog 192 = true := by kernel_rfl
theorem aWz : aT Tryz.prog 193 = true := by kernel_rfl
theorem aTb : aT Tryz.prog 80 = true := by kernel_rfl
theorem mD : fR Tryz.prog 226 = some [.int .i32 0, .int .i32 0] := by kernel_rfl
theorem yX : fK Tryz.prog 226 [.int .i32 0, .int .i32 0] [(0, 1), (1, 1)] := dZ Tryz.underlying226 (by kernel_rfl) (by kernel_rfl) (by kernel_rfl)
theorem fW : gZ Tryz.prog 226 = some 2 := by kernel_rfl
theorem eI : fK Tryz.prog 38 [.int .i32 0, .int .i32 0] [(0, 1), (1, 1)] := dZ Tryz.underlying38 (by kernel_rfl) (by kernel_rfl) (by kernel_rfl)
theorem aOa : aT Tryz.prog 229 = true := by kernel_rfl
theorem aWo : aT Tryz.prog 216 = true := by kernel_rfl
theorem aNq : fR Tryz.prog 4 = some [.bool false] := by kernel_rfl
theorem uN : eO Tryz.prog 226 1 1 = true := by kernel_rfl
theorem uJ : eO Tryz.prog 226 0 0 = true := by kernel_rfl
theorem aRw : fR Tryz.prog 224 = some [.slice none 0 0] := by kernel_rfl
theorem aXl : aT Tryz.prog 191 = true := by kernel_rfl
theorem aUv : aT Tryz.prog 217 = true := by kernel_rfl
theorem aGi : gV Tryz.prog 224 = true := by kernel_rfl
theorem aOy : eN Tryz.prog 224 226 2 8 = true := by kernel_rfl
theorem gA : (Tryz.prog.underlying 21).isSome = true := by kernel_rfl
theorem aMb : wR Tryz.prog 270 2 36 1 = true := by kernel_rfl
theorem aZn : (Tryz.prog.underlying 36).isSome = true := by kernel_rfl
theorem aVb : aT Tryz.prog 206 = true := by kernel_rfl
theorem us2 : (Tryz.prog.underlying 2).isSome = true := by kernel_rfl
theorem yK : (Tryz.prog.underlying 170).isSome = true := by kernel_rfl
theorem nQ : aT Tryz.prog 179 = true := by kernel_rfl
theorem aEt : aT Tryz.prog 178 = true := by kernel_rfl
theorem aPg : aT Tryz.prog 180 = true := by kernel_rfl
theorem aAf : aT Tryz.prog 181 = true := by kernel_rfl
theorem aAq : aT Tryz.prog 207 = true := by kernel_rfl
theorem aQc : aT Tryz.prog 201 = true := by kernel_rfl
theorem aGc : aT Tryz.prog 173 = true := by kernel_rfl
theorem aWw : aT Tryz.prog 203 = true := by kernel_rfl
theorem gL : fR Tryz.prog 38 = some [.int .i32 0, .int .i32 0] := by kernel_rfl
theorem aLn : aT Tryz.prog 175 = true := by kernel_rfl
theorem aLu : aT Tryz.prog 202 = true := by kernel_rfl
theorem vS : aT Tryz.prog 200 = true := by kernel_rfl
theorem jZ : gV Tryz.prog 2 = true := by kernel_rfl
theorem aAv : aT Tryz.prog 141 = true := by kernel_rfl
theorem aWq : aT Tryz.prog 244 = true := by kernel_rfl
theorem vC : fR Tryz.prog 2 = some [.int .i64 0] := by kernel_rfl
theorem aNw : aT Tryz.prog 245 = true := by kernel_rfl
theorem nK : gV Tryz.prog 170 = true := by kernel_rfl
theorem aSd : fR Tryz.prog 170 = some [.int .u64 0] := by kernel_rfl
theorem rU : wR Tryz.prog 318 2 38 2 = true := by kernel_rfl
theorem aHr : fR Tryz.prog 318 = some [.int .i32 0, .int .i32 0, .int .i32 0, .int .i32 0] := by kernel_rfl
theorem aAx : aT Tryz.prog 239 = true := by kernel_rfl
theorem zJ : aT Tryz.prog 238 = true := by kernel_rfl
theorem aWm : aT Tryz.prog 221 = true := by kernel_rfl
theorem qN : fR Tryz.prog 239 = some [.int .u32 0, .int .i32 0, .int .i32 0, .int .i32 0, .int .i32 0, .int .i32 0, .int .i32 0, .int .i32 0, .int .i32 0, .int .i32 0, .int .i32 0, .int .i32 0, .int .i32 0, .int .i32 0] := by kernel_rfl
theorem aWa : aT Tryz.prog 220 = true := by kernel_rfl
theorem aIr : fK Tryz.prog 239 [.int .u32 0, .int .i32 0, .int .i32 0, .int .i32 0, .int .i32 0, .int .i32 0, .int .i32 0, .int .i32 0, .int .i32 0, .int .i32 0, .int .i32 0, .int .i32 0, .int .i32 0, .int .i32 0] [(0, 10), (10, 2), (12, 2)] := dZ Tryz.underlying239 (by kernel_rfl) (by kernel_rfl) (by kernel_rfl)
theorem jJ : gZ Tryz.prog 239 = some 14 := by kernel_rfl
theorem aAw : aT Tryz.prog 198 = true := by kernel_rfl
theorem aDw : eO Tryz.prog 239 1 10 = true := by kernel_rfl
theorem aBw : eO Tryz.prog 239 2 12 = true := by kernel_rfl
theorem aXi : aT Tryz.prog 199 = true := by kernel_rfl
theorem pY : eO Tryz.prog 239 0 0 = true := by kernel_rfl
theorem qO : fR Tryz.prog 121 = some [.int .u32 0, .int .u32 0, .int .i32 0, .int .i32 0, .int .i32 0] := by kernel_rfl
theorem aVf : aT Tryz.prog 171 = true := by kernel_rfl
theorem aVl : aT Tryz.prog 172 = true := by kernel_rfl
theorem yQ : fK Tryz.prog 121 [.int .u32 0, .int .u32 0, .int .i32 0, .int .i32 0, .int .i32 0] [(0, 2), (2, 2), (4, 1)] := dZ Tryz.underlying121 (by kernel_rfl) (by kernel_rfl) (by kernel_rfl)
theorem fJ : gZ Tryz.prog 121 = some 5 := by kernel_rfl
theorem yR : fK Tryz.prog 119 [.int .u32 0, .int .u32 0] [(0, 1), (1, 1)] := dZ Tryz.underlying119 (by kernel_rfl) (by kernel_rfl) (by kernel_rfl)
theorem oF : fR Tryz.prog 119 = some [.int .u32 0, .int .u32 0] := by kernel_rfl
theorem aVa : aT Tryz.prog 174 = true := by kernel_rfl
theorem aDf : eO Tryz.prog 191 1 1024 = true := by kernel_rfl
theorem aWt : aT Tryz.prog 161 = true := by kernel_rfl
theorem aVm : aT Tryz.prog 162 = true := by kernel_rfl
theorem aNu : aCg Tryz.prog 223 3 4 .i64 = true := by kernel_rfl
theorem zv4 : jQ Tryz.prog 4 = some (.bool false) := by kernel_rfl
theorem uO : eO Tryz.prog 191 0 0 = true := by kernel_rfl
theorem aEs : wR Tryz.prog 189 1024 188 1 = true := by kernel_rfl
theorem zS : gV Tryz.prog 188 = true := by kernel_rfl
theorem aCc : eN Tryz.prog 188 36 1 4 = true := by kernel_rfl
theorem aOd : eN Tryz.prog 302 3 1 8 = true := by kernel_rfl
theorem lR : eO Tryz.prog 119 0 0 = true := by kernel_rfl
theorem lQ : eO Tryz.prog 119 1 1 = true := by kernel_rfl
theorem aVz : aT Tryz.prog 197 = true := by kernel_rfl
theorem aWj : gV Tryz.prog 230 = true := by kernel_rfl
theorem aWs : aT Tryz.prog 196 = true := by kernel_rfl
theorem aEo : gV Tryz.prog 159 = true := by kernel_rfl
theorem pM : eN Tryz.prog 159 119 2 8 = true := by kernel_rfl
theorem aVv : aT Tryz.prog 218 = true := by kernel_rfl
theorem aUg : aT Tryz.prog 194 = true := by kernel_rfl
theorem aVd : aT Tryz.prog 195 = true := by kernel_rfl
theorem aWp : gZ Tryz.prog 189 = some 1024 := by kernel_rfl
theorem aWk : aT Tryz.prog 167 = true := by kernel_rfl
theorem aJa : fK Tryz.prog 231 [] [] := dZ Tryz.underlying231 (by kernel_rfl) (by kernel_rfl) (by kernel_rfl)
theorem aVq : aT Tryz.prog 169 = true := by kernel_rfl
theorem aXa : aT Tryz.prog 168 = true := by kernel_rfl
theorem aUl : aT Tryz.prog 160 = true := by kernel_rfl
theorem aAp : aCg Tryz.prog 186 36 193 .u32 = true := by kernel_rfl
theorem aXw : fR Tryz.prog 3 = some [.int .i64 0] := by kernel_rfl
theorem aMw : gV Tryz.prog 186 = true := by kernel_rfl
theorem aPw : jQ Tryz.prog 193 = some (.agg [.int .i32 0, .int .i32 0, .int .i32 0, .int .i32 0].toArray) := by kernel_rfl
theorem aUj : aT Tryz.prog 164 = true := by kernel_rfl
theorem aPi : aT Tryz.prog 163 = true := by kernel_rfl
theorem aXj : aT Tryz.prog 166 = true := by kernel_rfl
theorem aUz : aT Tryz.prog 132 = true := by kernel_rfl
theorem aXm : aT Tryz.prog 133 = true := by kernel_rfl
theorem aXn : aT Tryz.prog 134 = true := by kernel_rfl
theorem aVe : aT Tryz.prog 136 = true := by kernel_rfl
theorem aVx : aT Tryz.prog 135 = true := by kernel_rfl
theorem aUo : aT Tryz.prog 165 = true := by kernel_rfl
theorem aUe : aT Tryz.prog 52 = true := by kernel_rfl
theorem aYg : aT Tryz.prog 51 = true := by kernel_rfl
theorem aYx : aT Tryz.prog 39 = true := by kernel_rfl
theorem uK : eO Tryz.prog 158 0 0 = true := by kernel_rfl
theorem vY : gV Tryz.prog 156 = true := by kernel_rfl
theorem uL : aCg Tryz.prog 156 36 40 .u32 = true := by kernel_rfl
theorem aQm : jQ Tryz.prog 40 = some (.agg [.int .u32 0, .int .i32 0, .int .i32 0, .int .i32 0, .int .i32 0, .int .i32 0, .int .i32 0, .int .i32 0, .int .i32 0, .int .i32 0].toArray) := by kernel_rfl
theorem aNm : aT Tryz.prog 137 = true := by kernel_rfl
theorem nP : eO Tryz.prog 158 1 1 = true := by kernel_rfl
theorem nM : gV Tryz.prog 82 = true := by kernel_rfl
theorem aIw : eN Tryz.prog 82 121 5 20 = true := by kernel_rfl
theorem aVc : aT Tryz.prog 107 = true := by kernel_rfl
theorem aIn : fK Tryz.prog 158 [.map none, .slice none 0 0] [(0, 1), (1, 1)] := dZ Tryz.underlying158 (by kernel_rfl) (by kernel_rfl) (by kernel_rfl)
theorem aXo : aT Tryz.prog 105 = true := by kernel_rfl
theorem aWy : aT Tryz.prog 106 = true := by kernel_rfl
end Go.Proofs.YtlmcphcgiclanaaGreatDoor

namespace Go.Proofs.YtlmcphcgiclanaaGreatDoor
open Go.Bil
open Go.Proofs
end Go.Proofs.YtlmcphcgiclanaaGreatDoor

namespace Go.Proofs.YtlmcphcgiclanaaGreatDoor
open Go.Bil
open Go.Proofs
end Go.Proofs.YtlmcphcgiclanaaGreatDoor

namespace Go.Proofs.YtlmcphcgiclanaaGreatDoor
open Go.Bil
open Go.Proofs
theorem aVw : aT Tryz.prog 246 = true := by kernel_rfl
theorem aWh : aT Tryz.prog 240 = true := by kernel_rfl
theorem lS : eO Tryz.prog 121 1 2 = true := by kernel_rfl
theorem aVs : aT Tryz.prog 222 = true := by kernel_rfl
theorem aXk : aT Tryz.prog 223 = true := by kernel_rfl
theorem aLw : aT Tryz.prog 224 = true := by kernel_rfl
theorem aOv : aT Tryz.prog 225 = true := by kernel_rfl
theorem lV : eO Tryz.prog 246 0 0 = true := by kernel_rfl
theorem pR : eO Tryz.prog 121 0 0 = true := by kernel_rfl
theorem aAg : aT Tryz.prog 109 = true := by kernel_rfl
theorem aWc : aT Tryz.prog 204 = true := by kernel_rfl
theorem aPt : aT Tryz.prog 205 = true := by kernel_rfl
theorem mB : eO Tryz.prog 246 1 1 = true := by kernel_rfl
theorem jM : gV Tryz.prog 200 = true := by kernel_rfl
theorem lZ : eO Tryz.prog 246 2 2 = true := by kernel_rfl
theorem kZ : eN Tryz.prog 200 2 1 8 = true := by kernel_rfl
theorem aWx : aT Tryz.prog 177 = true := by kernel_rfl
theorem xW : fK Tryz.prog 246 [.slice none 0 0, .slice none 0 0, .slice none 0 0] [(0, 1), (1, 1), (2, 1)] := dZ Tryz.underlying246 (by kernel_rfl) (by kernel_rfl) (by kernel_rfl)
theorem aNk : aT Tryz.prog 176 = true := by kernel_rfl
theorem aXf : aT Tryz.prog 138 = true := by kernel_rfl
theorem aEp : aT Tryz.prog 118 = true := by kernel_rfl
theorem aXp : aT Tryz.prog 108 = true := by kernel_rfl
theorem aNp : eO Tryz.prog 121 2 4 = true := by kernel_rfl
theorem aPs : aT Tryz.prog 142 = true := by kernel_rfl
theorem xQ : gV Tryz.prog 97 = true := by kernel_rfl
theorem aBm : eN Tryz.prog 97 135 2 16 = true := by kernel_rfl
theorem vM : eO Tryz.prog 135 0 0 = true := by kernel_rfl
theorem vW : eO Tryz.prog 135 1 1 = true := by kernel_rfl
theorem aHp : fR Tryz.prog 135 = some [.int .i64 0, .int .i64 0] := by kernel_rfl
theorem aUs : fR Tryz.prog 97 = some [.slice none 0 0] := by kernel_rfl
theorem aMe : aT Tryz.prog 111 = true := by kernel_rfl
theorem aMt : aT Tryz.prog 110 = true := by kernel_rfl
theorem aHj : eN Tryz.prog 175 133 1 8 = true := by kernel_rfl
theorem aVt : gV Tryz.prog 133 = true := by kernel_rfl
theorem aYu : aT Tryz.prog 84 = true := by kernel_rfl
theorem aPa : aT Tryz.prog 85 = true := by kernel_rfl
theorem aYm : aT Tryz.prog 83 = true := by kernel_rfl
theorem aUf : aT Tryz.prog 82 = true := by kernel_rfl
theorem aYo : aT Tryz.prog 86 = true := by kernel_rfl
theorem aTi : aT Tryz.prog 53 = true := by kernel_rfl
theorem aTv : aT Tryz.prog 54 = true := by kernel_rfl
theorem tN : eO Tryz.prog 84 1 1 = true := by kernel_rfl
theorem oD : eO Tryz.prog 84 3 3 = true := by kernel_rfl
theorem mJ : eO Tryz.prog 27 2 2 = true := by kernel_rfl
theorem zX : eO Tryz.prog 84 0 0 = true := by kernel_rfl
theorem aYd : aT Tryz.prog 71 = true := by kernel_rfl
theorem tJ : eO Tryz.prog 84 2 2 = true := by kernel_rfl
theorem tI : eO Tryz.prog 27 0 0 = true := by kernel_rfl
theorem tA : eO Tryz.prog 27 1 1 = true := by kernel_rfl
theorem aOw : aT Tryz.prog 72 = true := by kernel_rfl
theorem aYl : aT Tryz.prog 73 = true := by kernel_rfl
theorem aYc : aT Tryz.prog 74 = true := by kernel_rfl
theorem iY : fR Tryz.prog 27 = some [.int .i64 0, .int .i64 0, .bool false] := by kernel_rfl
theorem aMz : fK Tryz.prog 84 [.slice none 0 0, .slice none 0 0, .slice none 0 0, .int .i64 0, .int .i64 0, .bool false] [(0, 1), (1, 1), (2, 1), (3, 3)] := dZ Tryz.underlying84 (by kernel_rfl) (by kernel_rfl) (by kernel_rfl)
theorem aBp : wR Tryz.prog 86 4 85 1 = true := by kernel_rfl
theorem aVj : fR Tryz.prog 86 = some [.nilFunc, .nilFunc, .nilFunc, .nilFunc] := by kernel_rfl
theorem aHb : gV Tryz.prog 85 = true := by kernel_rfl
theorem aYv : aT Tryz.prog 40 = true := by kernel_rfl
theorem aXv : aT Tryz.prog 41 = true := by kernel_rfl
theorem aZf : aT Tryz.prog 42 = true := by kernel_rfl
theorem aYi : aT Tryz.prog 43 = true := by kernel_rfl
theorem iS : gZ Tryz.prog 27 = some 3 := by kernel_rfl
theorem pQ : aT Tryz.prog 16 = true := by kernel_rfl
end Go.Proofs.YtlmcphcgiclanaaGreatDoor

namespace Go.Proofs.YtlmcphcgiclanaaGreatDoor
open Go.Bil
open Go.Proofs
theorem aYr : aT Tryz.prog 19 = true := by kernel_rfl
theorem aCv : ∀ (x0 x1 y0 y1 : Int), EqA Tryz.prog 38 [.int .i32 x0, .int .i32 x1] [.int .i32 y0, .int .i32 y1] (decide (x0 = y0 ∧ x1 = y1)) := fun x0 x1 y0 y1 => ⟨by kernel_rfl, fun w => aHi 9998 w x0 x1 y0 y1⟩
theorem aBu : fK Tryz.prog 27 [.int .i64 0, .int .i64 0, .bool false] [(0, 1), (1, 1), (2, 1)] := dZ Tryz.underlying27 (by kernel_rfl) (by kernel_rfl) (by kernel_rfl)
theorem xR : aT Tryz.prog 23 = true := by kernel_rfl
end Go.Proofs.YtlmcphcgiclanaaGreatDoor

namespace Go.Proofs.YtlmcphcgiclanaaGreatDoor
open Go.Bil
open Go.Proofs
theorem aYf : aT Tryz.prog 14 = true := by kernel_rfl
theorem aPf : aT Tryz.prog 15 = true := by kernel_rfl
theorem aCe : aT Tryz.prog 18 = true := by kernel_rfl
theorem aLm : nH Tryz.prog 4 40 = some [.u32, .i32, .i32, .i32, .i32, .i32, .i32, .i32, .i32, .i32] := by kernel_rfl
theorem us5 : (Tryz.prog.underlying 5).isSome = true := by kernel_rfl
theorem aYy : aT Tryz.prog 22 = true := by kernel_rfl
end Go.Proofs.YtlmcphcgiclanaaGreatDoor

namespace Go.Proofs.YtlmcphcgiclanaaGreatDoor
open Go.Bil
open Go.RowKit (Below)
open Go.Proofs
set_option maxHeartbeats 4000000 in
theorem lW (w : World) (n l : Int) (h0 : 0 ≤ l) (h1 : l ≤ 2147483647) :
    Calls Tryz.prog 55 #[.int .i32 n, .int .i32 l] w (fun ex w' => ∃ v, ex = .returned v ∧ (fun v w' => v = .bool (decide (qB n l)) ∧ Below w.heap.size w w') v w') := by
  have hneg : IntKind.i32.wrap (-l) = -l := iP _ (by omega) (by omega)
  refine aK #[.tmp 4] 14 Tryz.func55 rfl Tryz.results55 Tryz.ntmps55 rfl ?_
  have M0 := Mem.refl w
  refine aH (aB ?_)
  refine aA (aE (.bool false) rfl) rfl rfl ?_
  refine aD (aF (aH (aB ?_)))
  refine aA (aC (.int _ _) rfl) rfl rfl ?_
  refine aA (aC (.int _ _) rfl) rfl rfl ?_
  refine aA (aCr rfl) rfl rfl ?_
  refine aQ 7 (.int .i32 (-l)) (iE hneg) ?_
  refine aA (aO (.bool (decide _)) rfl rfl rfl) rfl rfl ?_
  refine aA (aC (.bool (decide _)) rfl) rfl rfl ?_
  refine cW 9 rfl (fun g9 => ?_) (fun g9 => ?_)
  · refine aA (aC (.int _ _) rfl) rfl rfl ?_
    refine aA (aC (.int _ _) rfl) rfl rfl ?_
    refine aA (aO (.bool (decide _)) rfl rfl rfl) rfl rfl ?_
    refine aA (bI true (.bool (decide _)) rfl rfl) rfl rfl ?_
    refine aA (aE (.bool (decide _)) rfl) rfl rfl ?_
    refine aD (aF (aS ?_))
    refine cG (.bool (decide _)) rfl ?_
    exact ⟨by unfold qB; first | exact bF (by omega) | exact bD (by omega), M0.below⟩
  · refine aN rfl rfl ?_
    refine aN rfl rfl ?_
    refine aN rfl rfl ?_
    refine aA (bI false (.bool false) rfl rfl) rfl rfl ?_
    refine aA (aE (.bool false) rfl) rfl rfl ?_
    refine aD (aF (aS ?_))
    refine cG (.bool false) rfl ?_
    exact ⟨by unfold qB; first | exact bF (by omega) | exact bD (by omega), M0.below⟩
set_option maxHeartbeats 4000000 in
theorem rY (w : World) (b : Body) :
    Calls Tryz.prog 24 #[(.agg (aG b).toArray)] w (fun ex w' => ∃ v, ex = .returned v ∧ (fun v w' => v = .int .i64 (check b) ∧ Below w.heap.size w w') v w') := by
  refine aK #[.tmp 2] 63 Tryz.func24 rfl Tryz.results24 Tryz.ntmps24 rfl ?_
  have M0 := Mem.refl w
  refine aH (aB ?_)
  refine bM (.agg (List.toArray _)) M0 rfl rfl rfl (fun b1 w1 M1 => ?_)
  refine aA (aE (.int _ _) rfl) rfl rfl ?_
  refine aD (aF (aH (aH (aB ?_))))
  refine aA (aI 1 kW rfl) rfl rfl ?_
  refine aA (aV 0 (.int _ _) aZ M1 rfl rfl rfl) rfl rfl ?_
  refine aA (aO (.bool (decide _)) rfl rfl rfl) rfl rfl ?_
  refine aA (aC (.bool (decide _)) rfl) rfl rfl ?_
  refine cW 6 rfl (fun g6 => ?_) (fun g6 => ?_)
  · refine aN rfl rfl ?_
    refine aN rfl rfl ?_
    refine aN rfl rfl ?_
    refine aA (bI true (.bool true) rfl rfl) rfl rfl ?_
    refine aD (aF ?_)
    refine dS rfl ?_
    refine aH (aB ?_)
    refine aA (aE (.int _ _) rfl) rfl rfl ?_
    refine aD (aF (aS (cN ?_)))
    refine cG (.int _ _) rfl ?_
    exact ⟨iE (by unfold check; unfold qB at *; (repeat' split) <;> omega), M1.below⟩
  · refine aA (aI 1 kW rfl) rfl rfl ?_
    refine aA (aV 0 (.int _ _) aZ M1 rfl rfl rfl) rfl rfl ?_
    refine aA (aO (.bool (decide _)) rfl rfl rfl) rfl rfl ?_
    refine aA (bI false (.bool (decide _)) rfl rfl) rfl rfl ?_
    refine aD (aF ?_)
    refine aY rfl (fun h10 => ?_) (fun h10 => ?_)
    · refine aH (aB ?_)
      refine aA (aE (.int _ _) rfl) rfl rfl ?_
      refine aD (aF (aS (cN ?_)))
      refine cG (.int _ _) rfl ?_
      exact ⟨iE (by unfold check; unfold qB at *; (repeat' split) <;> omega), M1.below⟩
    · refine aP (aF (aH (aH (aB ?_))))
      refine aA (aI 2 jE rfl) rfl rfl ?_
      refine aA (aI 0 dO rfl) rfl rfl ?_
      refine aA (aV 0 (.int _ _) aZ M1 rfl rfl rfl) rfl rfl ?_
      refine aL xP rfl rfl rfl ?_
      refine (lW _ _ _ (by omega) (by omega)).mono ?_
      rintro _ w2 ⟨v2, rfl, ⟨rfl, hb2⟩⟩
      refine ⟨_, rfl, ?_⟩
      have M2 := M1.callB hb2
      refine aA (oS rfl) rfl rfl ?_
      refine aA (aC (.bool (decide _)) rfl) rfl rfl ?_
      refine cW 16 rfl (fun g16 => ?_) (fun g16 => ?_)
      · refine aN rfl rfl ?_
        refine aN rfl rfl ?_
        refine aN rfl rfl ?_
        refine aN rfl rfl ?_
        refine aN rfl rfl ?_
        refine aA (bI true (.bool true) rfl rfl) rfl rfl ?_
        refine aD (aF ?_)
        refine dS rfl ?_
        refine aH (aB ?_)
        refine aA (aE (.int _ _) rfl) rfl rfl ?_
        refine aD (aF (aS (cN ?_)))
        refine cG (.int _ _) rfl ?_
        exact ⟨iE (by unfold check; unfold qB at *; (repeat' split) <;> omega), M2.below⟩
      · refine aA (aI 2 jE rfl) rfl rfl ?_
        refine aA (aI 1 dJ rfl) rfl rfl ?_
        refine aA (aV 0 (.int _ _) aZ M2 rfl rfl rfl) rfl rfl ?_
        refine aL xP rfl rfl rfl ?_
        refine (lW _ _ _ (by omega) (by omega)).mono ?_
        rintro _ w3 ⟨v3, rfl, ⟨rfl, hb3⟩⟩
        refine ⟨_, rfl, ?_⟩
        have M3 := M2.callB hb3
        refine aA (oS rfl) rfl rfl ?_
        refine aA (bI false (.bool (decide _)) rfl rfl) rfl rfl ?_
        refine aD (aF ?_)
        refine aY rfl (fun h22 => ?_) (fun h22 => ?_)
        · refine aH (aB ?_)
          refine aA (aE (.int _ _) rfl) rfl rfl ?_
          refine aD (aF (aS (cN ?_)))
          refine cG (.int _ _) rfl ?_
          exact ⟨iE (by unfold check; unfold qB at *; (repeat' split) <;> omega), M3.below⟩
        · refine aP (aF (aH (aH (aB ?_))))
          refine aA (aI 4 fP rfl) rfl rfl ?_
          refine aA (aV 0 (.int _ _) aZ M3 rfl rfl rfl) rfl rfl ?_
          refine aA (aO (.bool (decide _)) rfl rfl rfl) rfl rfl ?_
          refine aA (aC (.bool (decide _)) rfl) rfl rfl ?_
          refine cW 26 rfl (fun g26 => ?_) (fun g26 => ?_)
          · refine aN rfl rfl ?_
            refine aN rfl rfl ?_
            refine aN rfl rfl ?_
            refine aA (bI true (.bool true) rfl rfl) rfl rfl ?_
            refine aD (aF ?_)
            refine dS rfl ?_
            refine aH (aB ?_)
            refine aA (aE (.int _ _) rfl) rfl rfl ?_
            refine aD (aF (aS (cN ?_)))
            refine cG (.int _ _) rfl ?_
            exact ⟨iE (by unfold check; unfold qB at *; (repeat' split) <;> omega), M3.below⟩
          · refine aA (aI 4 fP rfl) rfl rfl ?_
            refine aA (aV 0 (.int _ _) aZ M3 rfl rfl rfl) rfl rfl ?_
            refine aA (aO (.bool (decide _)) rfl rfl rfl) rfl rfl ?_
            refine aA (bI false (.bool (decide _)) rfl rfl) rfl rfl ?_
            refine aD (aF ?_)
            refine aY rfl (fun h30 => ?_) (fun h30 => ?_)
            · refine aH (aB ?_)
              refine aA (aE (.int _ _) rfl) rfl rfl ?_
              refine aD (aF (aS (cN ?_)))
              refine cG (.int _ _) rfl ?_
              exact ⟨iE (by unfold check; unfold qB at *; (repeat' split) <;> omega), M3.below⟩
            · refine aP (aF (aH (aH (aB ?_))))
              refine aA (aI 5 tH rfl) rfl rfl ?_
              refine aA (aV 0 (.int _ _) aZ M3 rfl rfl rfl) rfl rfl ?_
              refine aA (aO (.bool (decide _)) rfl rfl rfl) rfl rfl ?_
              refine aA (aC (.bool (decide _)) rfl) rfl rfl ?_
              refine cW 34 rfl (fun g34 => ?_) (fun g34 => ?_)
              · refine aN rfl rfl ?_
                refine aN rfl rfl ?_
                refine aN rfl rfl ?_
                refine aA (bI true (.bool true) rfl rfl) rfl rfl ?_
                refine aD (aF ?_)
                refine dS rfl ?_
                refine aH (aB ?_)
                refine aA (aE (.int _ _) rfl) rfl rfl ?_
                refine aD (aF (aS (cN ?_)))
                refine cG (.int _ _) rfl ?_
                exact ⟨iE (by unfold check; unfold qB at *; (repeat' split) <;> omega), M3.below⟩
              · refine aA (aI 5 tH rfl) rfl rfl ?_
                refine aA (aV 0 (.int _ _) aZ M3 rfl rfl rfl) rfl rfl ?_
                refine aA (aO (.bool (decide _)) rfl rfl rfl) rfl rfl ?_
                refine aA (bI false (.bool (decide _)) rfl rfl) rfl rfl ?_
                refine aD (aF ?_)
                refine aY rfl (fun h38 => ?_) (fun h38 => ?_)
                · refine aH (aB ?_)
                  refine aA (aE (.int _ _) rfl) rfl rfl ?_
                  refine aD (aF (aS (cN ?_)))
                  refine cG (.int _ _) rfl ?_
                  exact ⟨iE (by unfold check; unfold qB at *; (repeat' split) <;> omega), M3.below⟩
                · refine aP (aF (aH (aH (aB ?_))))
                  refine aA (aI 6 eK rfl) rfl rfl ?_
                  refine aA (aI 0 dO rfl) rfl rfl ?_
                  refine aA (aV 0 (.int _ _) aZ M3 rfl rfl rfl) rfl rfl ?_
                  refine aL xP rfl rfl rfl ?_
                  refine (lW _ _ _ (by omega) (by omega)).mono ?_
                  rintro _ w4 ⟨v4, rfl, ⟨rfl, hb4⟩⟩
                  refine ⟨_, rfl, ?_⟩
                  have M4 := M3.callB hb4
                  refine aA (oS rfl) rfl rfl ?_
                  refine aA (aC (.bool (decide _)) rfl) rfl rfl ?_
                  refine cW 44 rfl (fun g44 => ?_) (fun g44 => ?_)
                  · refine aN rfl rfl ?_
                    refine aN rfl rfl ?_
                    refine aN rfl rfl ?_
                    refine aN rfl rfl ?_
                    refine aN rfl rfl ?_
                    refine aA (bI true (.bool true) rfl rfl) rfl rfl ?_
                    refine aD (aF ?_)
                    refine dS rfl ?_
                    refine aH (aB ?_)
                    refine aA (aE (.int _ _) rfl) rfl rfl ?_
                    refine aD (aF (aS (cN ?_)))
                    refine cG (.int _ _) rfl ?_
                    exact ⟨iE (by unfold check; unfold qB at *; (repeat' split) <;> omega), M4.below⟩
                  · refine aA (aI 6 eK rfl) rfl rfl ?_
                    refine aA (aI 1 dJ rfl) rfl rfl ?_
                    refine aA (aV 0 (.int _ _) aZ M4 rfl rfl rfl) rfl rfl ?_
                    refine aL xP rfl rfl rfl ?_
                    refine (lW _ _ _ (by omega) (by omega)).mono ?_
                    rintro _ w5 ⟨v5, rfl, ⟨rfl, hb5⟩⟩
                    refine ⟨_, rfl, ?_⟩
                    have M5 := M4.callB hb5
                    refine aA (oS rfl) rfl rfl ?_
                    refine aA (bI false (.bool (decide _)) rfl rfl) rfl rfl ?_
                    refine aD (aF ?_)
                    refine aY rfl (fun h50 => ?_) (fun h50 => ?_)
                    · refine aH (aB ?_)
                      refine aA (aE (.int _ _) rfl) rfl rfl ?_
                      refine aD (aF (aS (cN ?_)))
                      refine cG (.int _ _) rfl ?_
                      exact ⟨iE (by unfold check; unfold qB at *; (repeat' split) <;> omega), M5.below⟩
                    · refine aP (aF (aH (aH (aB ?_))))
                      refine aA (aI 8 fD rfl) rfl rfl ?_
                      refine aA (aI 0 dO rfl) rfl rfl ?_
                      refine aA (aV 0 (.int _ _) aZ M5 rfl rfl rfl) rfl rfl ?_
                      refine aL xP rfl rfl rfl ?_
                      refine (lW _ _ _ (by omega) (by omega)).mono ?_
                      rintro _ w6 ⟨v6, rfl, ⟨rfl, hb6⟩⟩
                      refine ⟨_, rfl, ?_⟩
                      have M6 := M5.callB hb6
                      refine aA (oS rfl) rfl rfl ?_
                      refine aA (aC (.bool (decide _)) rfl) rfl rfl ?_
                      refine cW 56 rfl (fun g56 => ?_) (fun g56 => ?_)
                      · refine aN rfl rfl ?_
                        refine aN rfl rfl ?_
                        refine aN rfl rfl ?_
                        refine aN rfl rfl ?_
                        refine aN rfl rfl ?_
                        refine aA (bI true (.bool true) rfl rfl) rfl rfl ?_
                        refine aD (aF ?_)
                        refine dS rfl ?_
                        refine aH (aB ?_)
                        refine aA (aE (.int _ _) rfl) rfl rfl ?_
                        refine aD (aF (aS (cN ?_)))
                        refine cG (.int _ _) rfl ?_
                        exact ⟨iE (by unfold check; unfold qB at *; (repeat' split) <;> omega), M6.below⟩
                      · refine aA (aI 8 fD rfl) rfl rfl ?_
                        refine aA (aI 1 dJ rfl) rfl rfl ?_
                        refine aA (aV 0 (.int _ _) aZ M6 rfl rfl rfl) rfl rfl ?_
                        refine aL xP rfl rfl rfl ?_
                        refine (lW _ _ _ (by omega) (by omega)).mono ?_
                        rintro _ w7 ⟨v7, rfl, ⟨rfl, hb7⟩⟩
                        refine ⟨_, rfl, ?_⟩
                        have M7 := M6.callB hb7
                        refine aA (oS rfl) rfl rfl ?_
                        refine aA (bI false (.bool (decide _)) rfl rfl) rfl rfl ?_
                        refine aD (aF ?_)
                        refine aY rfl (fun h62 => ?_) (fun h62 => ?_)
                        · refine aH (aB ?_)
                          refine aA (aE (.int _ _) rfl) rfl rfl ?_
                          refine aD (aF (aS (cN ?_)))
                          refine cG (.int _ _) rfl ?_
                          exact ⟨iE (by unfold check; unfold qB at *; (repeat' split) <;> omega), M7.below⟩
                        · refine aP (aF (aH (aB ?_)))
                          refine aA (aE (.int _ _) rfl) rfl rfl ?_
                          refine aD (aF (aS ?_))
                          refine cG (.int _ _) rfl ?_
                          exact ⟨iE (by unfold check; unfold qB at *; (repeat' split) <;> omega), M7.below⟩
end Go.Proofs.YtlmcphcgiclanaaGreatDoor

namespace Go.Proofs.YtlmcphcgiclanaaGreatDoor
open Go.Bil
open Go.RowKit (Below)
open Go.Proofs
theorem oW (a b : Body) : EqA Tryz.prog 40 (aG a) (aG b) (decide (a = b)) := by
  have h := aZc a.key a.radius a.ax a.ay a.mass a.bounce a.px a.py a.vx a.vy b.key b.radius b.ax b.ay b.mass b.bounce b.px b.py b.vx b.vy
  rw [decide_eq_decide.2 (aMa (a := a) (b := b))]
  exact h
set_option maxHeartbeats 4000000 in
theorem vB (w : World) (key : Int) (A : Option Addr) (n c : Nat) (xs : List Body) (R : Rd w 10 A n (xs.map aG)) :
    Calls Tryz.prog 38 #[.slice A n c, .int .u32 key] w (fun ex w' => ∃ v, ex = .returned v ∧ (fun v w' => v = .int .i64 (cH key xs) ∧ Below w.heap.size w w') v w') := by
  have hlen : xs.length = n := by simpa using R.len
  have hbd := R.bound
  refine aK #[.tmp 4] 20 Tryz.func38 rfl Tryz.results38 Tryz.ntmps38 rfl ?_
  have M0 := Mem.refl w
  refine aH (aB ?_)
  refine aA (aE (.int _ _) rfl) rfl rfl ?_
  refine aD (aF (aH (aH (aB ?_))))
  refine aA (aE (.int _ _) rfl) rfl rfl ?_
  refine aD (aF (bC ?_))
  refine dT (σ := Nat) [0, 1] (fun k => [(5, .int .i64 (k : Int))]) (fun k w' => (k ≤ n ∧ ∀ (j : Nat) (c : Body), j < k → xs[j]? = some c → c.key ≠ key) ∧ Mem w [] [] w') (fun k => n - k) 0 (bX rfl fH) (⟨⟨by omega, fun j c hj => by omega⟩, M0⟩) ?_
  rintro k ρ1 w1 ⟨⟨hk, hne⟩, hM1⟩
  refine aH (aH (aB ?_))
  refine aA (aC (.int _ _) rfl) rfl rfl ?_
  refine aA (aC (.slice _ _ _) rfl) rfl rfl ?_
  refine aA (bV Tryz.underlying22 rfl) rfl rfl ?_
  refine aA (aO (.bool (decide _)) rfl rfl rfl) rfl rfl ?_
  refine aD (aF ?_)
  refine aY rfl (fun h9 => ?_) (fun h9 => ?_)
  · obtain ⟨xb, hxb⟩ := cS (k := k) hlen (by omega)
    refine aP (aF (aH (bC (aH (aB ?_)))))
    refine aA (aC (.slice _ _ _) rfl) rfl rfl ?_
    refine aA (aC (.int _ _) rfl) rfl rfl ?_
    refine aA (bK (k) cA rfl rfl rfl ((R.mem hM1).below_len (aJ aG hxb)) ((R.mem hM1).someK (aJ aG hxb))) rfl rfl ?_
    refine aA (bR 0 eG (R.mem hM1) (Nat.lt_of_le_of_lt (Nat.zero_le _) ((R.mem hM1).below_len (aJ aG hxb))) rfl) rfl rfl ?_
    refine aA (fB (o := 0) (.int _ _) dD (R.mem hM1) (aJ aG hxb) rfl rfl) rfl rfl ?_
    refine aA (aC (.int _ _) rfl) rfl rfl ?_
    refine aA (aO (.bool (decide _)) rfl rfl rfl) rfl rfl ?_
    refine aD (aF ?_)
    refine aY rfl (fun h18 => ?_) (fun h18 => ?_)
    · refine aH (aB ?_)
      refine aA (aC (.int _ _) rfl) rfl rfl ?_
      refine aA (aE (.int _ _) rfl) rfl rfl ?_
      refine aD (aF (aS ?_))
      refine qG ?_
      refine cN ?_
      refine tU ?_
      refine qG ?_
      refine cN ?_
      refine cG (.int _ _) rfl ?_
      exact ⟨iE (pP hxb h18 hne).symm, hM1.below⟩
    · refine aP ?_
      refine dU ?_
      refine aF (aB ?_)
      refine aA (aC (.int _ _) rfl) rfl rfl ?_
      refine aA (bS rfl rfl (by omega) (by omega)) rfl rfl ?_
      refine aA (aE (.int _ _) rfl) rfl rfl ?_
      refine aD ?_
      refine cK (k + 1) (bX rfl fH) (cQ rfl (cQ rfl jF)) ?_ ?_
      · exact ⟨⟨by omega, oH hne hxb h18⟩, hM1⟩
      · omega
  · refine cR ?_
    refine dK ?_
    refine dH ?_
    refine fC ?_
    refine aF (aH (aB ?_))
    refine aA (aE (.int _ _) rfl) rfl rfl ?_
    refine aD (aF (aS ?_))
    refine cG (.int _ _) rfl ?_
    have hkn : k = n := by omega
    exact ⟨iE (xT (fun j b hj => hne j b (by have := (List.getElem?_eq_some_iff.1 hj).1; omega) hj)).symm, hM1.below⟩
set_option maxHeartbeats 4000000 in
theorem kL (w : World) (A : Option Addr) (n c : Nat) (xs : List Body) (R : Rd w 10 A n (xs.map aG)) (B : Option Addr) (m c' : Nat) (ys : List Body) (R' : Rd w 10 B m (ys.map aG)) :
    Calls Tryz.prog 18 #[.slice A n c, .slice B m c'] w (fun ex w' => ∃ v, ex = .returned v ∧ (fun v w' => v = .bool (decide (xs = ys)) ∧ Below w.heap.size w w') v w') := by
  have hlen : xs.length = n := by simpa using R.len
  have hbd := R.bound
  have hlen' : ys.length = m := by simpa using R'.len
  have hbd' := R'.bound
  refine aK #[.tmp 4] 26 Tryz.func18 rfl Tryz.results18 Tryz.ntmps18 rfl ?_
  have M0 := Mem.refl w
  refine aH (aB ?_)
  refine aA (aE (.bool false) rfl) rfl rfl ?_
  refine aD (aF (aH (aH (aB ?_))))
  refine aA (aC (.slice _ _ _) rfl) rfl rfl ?_
  refine aA (bV Tryz.underlying22 rfl) rfl rfl ?_
  refine aA (aC (.slice _ _ _) rfl) rfl rfl ?_
  refine aA (bV Tryz.underlying22 rfl) rfl rfl ?_
  refine aA (aO (.bool (decide _)) rfl rfl rfl) rfl rfl ?_
  refine aD (aF ?_)
  refine aY rfl (fun h10 => ?_) (fun h10 => ?_)
  · refine aH (aB ?_)
    refine aA (aE (.bool false) rfl) rfl rfl ?_
    refine aD (aF (aS (cN ?_)))
    refine cG (.bool false) rfl ?_
    exact ⟨bF (fun e => h10 (by rw [← hlen, ← hlen', e])), M0.below⟩
  · have hnm : n = m := by omega
    refine aP (aF (aH (aH (aB ?_))))
    refine aA (aE (.int _ _) rfl) rfl rfl ?_
    refine aD (aF (bC ?_))
    refine dT (σ := Nat) [0, 1] (fun k => [(5, .int .i64 (k : Int))]) (fun k w' => (k ≤ n ∧ ∀ (j : Nat) (x : Body), j < k → xs[j]? = some x → ys[j]? = some x) ∧ Mem w [] [] w') (fun k => n - k) 0 (bX rfl fH) (⟨⟨by omega, fun j c hj => by omega⟩, M0⟩) ?_
    rintro k ρ1 w1 ⟨⟨hk, hne⟩, hM1⟩
    refine aH (aH (aB ?_))
    refine aA (aC (.int _ _) rfl) rfl rfl ?_
    refine aA (aC (.slice _ _ _) rfl) rfl rfl ?_
    refine aA (bV Tryz.underlying22 rfl) rfl rfl ?_
    refine aA (aO (.bool (decide _)) rfl rfl rfl) rfl rfl ?_
    refine aD (aF ?_)
    refine aY rfl (fun h14 => ?_) (fun h14 => ?_)
    · obtain ⟨xb, hxb⟩ := cS (k := k) hlen (by omega)
      obtain ⟨yb, hyb⟩ := cS (k := k) hlen' (by omega)
      refine aP (aF (aH (bC (aH ?_))))
      refine bP [(0, 0), (1, 0), (2, 1), (3, 1), (4, 0), (5, 0), (6, 1), (7, 1), (8, 0)] mixed rfl (by kernel_rfl) (fun w2 hb2 hh2 => ?_)
      have M2 := hM1.drew hb2 hh2
      refine aR rfl rfl rfl (fun _ => aC (.slice _ _ _) rfl) ?_
      refine aR rfl rfl rfl (fun _ => aC (.int _ _) rfl) ?_
      refine cD rfl rfl rfl (bK (k) cA rfl rfl rfl ((R.mem M2).below_len (aJ aG hxb)) ((R.mem M2).someK (aJ aG hxb))) ?_
      refine cD rfl rfl rfl (cM _ bO (R.mem M2) (aJ aG hxb) rfl) ?_
      refine aR rfl rfl rfl (fun _ => aC (.slice _ _ _) rfl) ?_
      refine aR rfl rfl rfl (fun _ => aC (.int _ _) rfl) ?_
      refine cD rfl rfl rfl (bK (k) cA rfl rfl rfl ((R'.mem M2).below_len (aJ aG hyb)) ((R'.mem M2).someK (aJ aG hyb))) ?_
      refine cD rfl rfl rfl (cM _ bO (R'.mem M2) (aJ aG hyb) rfl) ?_
      refine aR rfl rfl rfl (fun _ => aYk (oW xb yb) rfl rfl) ?_
      refine cB ?_
      refine aF ?_
      refine aY rfl (fun h25 => ?_) (fun h25 => ?_)
      · refine aH (aB ?_)
        refine aA (aE (.bool false) rfl) rfl rfl ?_
        refine aD (aF (aS ?_))
        refine qG ?_
        refine cN ?_
        refine tU ?_
        refine qG ?_
        refine cN ?_
        refine cG (.bool false) rfl ?_
        exact ⟨bF (fun e => h25 (by rw [e] at hxb; rw [hxb] at hyb; injection hyb)), M2.below⟩
      · refine aP ?_
        refine dU ?_
        refine aF (aB ?_)
        refine aA (aC (.int _ _) rfl) rfl rfl ?_
        refine aA (bS rfl rfl (by omega) (by omega)) rfl rfl ?_
        refine aA (aE (.int _ _) rfl) rfl rfl ?_
        refine aD ?_
        refine cK (k + 1) (bX rfl fH) (cQ rfl (cQ rfl jF)) ?_ ?_
        · exact ⟨⟨by omega, oH (p := fun j x => ys[j]? = some x) hne hxb (by rw [hyb, Decidable.not_not.1 h25])⟩, M2⟩
        · omega
    · refine cR ?_
      refine dK ?_
      refine dH ?_
      refine fC ?_
      refine aF (aH (aB ?_))
      refine aA (aE (.bool true) rfl) rfl rfl ?_
      refine aD (aF (aS ?_))
      refine cG (.bool true) rfl ?_
      exact ⟨bT (List.ext_getElem? fun j => by
      by_cases hj : j < xs.length
      · obtain ⟨x, hx⟩ := cS (k := j) rfl hj
        rw [hx, hne j x (by omega) hx]
      · rw [List.getElem?_eq_none (by omega), List.getElem?_eq_none (by omega)]), hM1.below⟩
set_option maxHeartbeats 4000000 in
theorem aJn (w : World) (b : Body) (gone : Bool) (A : Option Addr) (n c : Nat) (xs : List Body) (R : Rd w 10 A n (xs.map aG)) (hn : n ≤ 1048576) :
    Calls Tryz.prog 90 #[.slice A n c, (.agg (aG b).toArray), .bool gone] w (fun ex w' => ∃ v, ex = .returned v ∧ (fun v w' => ∃ A' n' c' e, v = .slice A' n' c' ∧ aX 40 10 A' n' c' ((zW xs b gone).map aG) e ∧ Mem w [] [e] w') v w') := by
  have hlen : xs.length = n := by simpa using R.len
  have hbd := R.bound
  refine aK #[.tmp 6] 55 Tryz.func90 rfl Tryz.results90 Tryz.ntmps90 rfl ?_
  have M0 := Mem.refl w
  refine aH (aB ?_)
  refine bM (.agg (List.toArray _)) M0 rfl rfl rfl (fun b1 w1 M1 => ?_)
  refine aA (aE (.slice _ _ _) rfl) rfl rfl ?_
  refine aD (aF (aH (aB ?_)))
  refine aA (aE (.slice _ _ _) rfl) rfl rfl ?_
  have M2 := M1.dummy default
  refine aD (aF (aH (aB ?_)))
  refine aA (aC (.bool _) rfl) rfl rfl ?_
  refine aA (aE (.bool _) rfl) rfl rfl ?_
  refine aD (aF (aH (aH (aB ?_))))
  refine aA (aE (.int _ _) rfl) rfl rfl ?_
  refine aD (aF (bC ?_))
  refine dT (σ := Nat × List Body × Bool × Row) [0, 4, 6] (fun (k, acc, done, r) => [(7, .slice r.A r.n r.c), (8, .bool done), (9, .int .i64 (k : Int))]) (fun (k, acc, done, r) w' => (k ≤ n ∧ fL b gone (xs.take k) = (acc, done) ∧ aX 40 10 r.A r.n r.c (acc.map aG) r.e) ∧ Mem w [] [(some b1, bc (aG b) 40), r.e] w') (fun (k, acc, done, r) => n - k) (0, [], gone, ⟨none, 0, 0, (none, default)⟩) (bX rfl (bX rfl (bX rfl fH))) (⟨⟨by omega, rfl, aX.nil _ _ _⟩, M2⟩) ?_
  rintro ⟨k, acc, done, r⟩ ρ3 w3 ⟨⟨hk, heq, hr⟩, hM3⟩
  have hra : acc.length = r.n := by simpa using hr.1
  have hrl : acc.length ≤ k + 1 := by have h := aGt b gone xs k; rw [heq] at h; exact h
  refine aH (aH (aB ?_))
  refine aA (aC (.int _ _) rfl) rfl rfl ?_
  refine aA (aC (.slice _ _ _) rfl) rfl rfl ?_
  refine aA (bV Tryz.underlying22 rfl) rfl rfl ?_
  refine aA (aO (.bool (decide _)) rfl rfl rfl) rfl rfl ?_
  refine aD (aF ?_)
  refine aY rfl (fun h14 => ?_) (fun h14 => ?_)
  · obtain ⟨xb, hxb⟩ := cS (k := k) hlen (by omega)
    refine aP (aF (aH (bC (aH (aH ?_)))))
    refine bP [(0, 0), (1, 0), (2, 0), (3, 0), (4, 0), (5, 1), (6, 1), (7, 1), (8, 0), (9, 1), (10, 0), (11, 0)] mixed rfl (by kernel_rfl) (fun w4 hb4 hh4 => ?_)
    have M4 := hM3.drew hb4 hh4
    refine aR rfl rfl rfl (fun _ => aC (.bool _) rfl) ?_
    refine aR rfl rfl rfl (fun _ => kO _ rfl rfl) ?_
    refine aR rfl rfl rfl (fun _ => aC (.bool _) rfl) ?_
    refine aHm 19 _ rfl (fun g19 => ?_) (fun g19 => ?_)
    · have hd : done = false := by simpa using g19
      refine aR rfl rfl rfl (fun _ => aC (.slice _ _ _) rfl) ?_
      refine aR rfl rfl rfl (fun _ => aC (.int _ _) rfl) ?_
      refine cD rfl rfl rfl (bK (k) cA rfl rfl rfl ((R.mem M4).below_len (aJ aG hxb)) ((R.mem M4).someK (aJ aG hxb))) ?_
      refine cD rfl rfl rfl (bR 0 eG (R.mem M4) (Nat.lt_of_le_of_lt (Nat.zero_le _) ((R.mem M4).below_len (aJ aG hxb))) rfl) ?_
      refine cD rfl rfl rfl (fB (o := 0) (.int _ _) dD (R.mem M4) (aJ aG hxb) rfl rfl) ?_
      refine aR rfl rfl rfl (fun _ => aI 0 eG rfl) ?_
      refine cD rfl rfl rfl (aV 0 (.int _ _) dD M4 rfl rfl rfl) ?_
      refine aR rfl rfl rfl (fun _ => aO (.bool (decide _)) rfl rfl rfl) ?_
      refine aR rfl rfl rfl (fun _ => bI true (.bool (decide _)) rfl rfl) ?_
      refine cB ?_
      refine aF ?_
      refine aY rfl (fun h28 => ?_) (fun h28 => ?_)
      · refine aH (aB ?_)
        refine aA (aE (.bool true) rfl) rfl rfl ?_
        refine aD (aF (aB ?_))
        refine aA (aC (.slice _ _ _) rfl) rfl rfl ?_
        refine aA (bE 0 bO M4 rfl rfl rfl) rfl rfl ?_
        refine cF [.agg (List.toArray _)] _ rfl cA M4 rfl rfl rfl rfl (cO rfl) (by decide) (fun b5 w5 M5 => ?_)
        refine dV 1 [aG b] cA M5 rfl rfl rfl rfl rfl hr rfl (by simpa using ⟨gQ b, fT b⟩) (cV.ofMem 2 M5 rfl) (by omega) (fun A6 c6 e6 w6 M6 hR6 => ?_)
        refine aA (aE (.slice _ _ _) rfl) rfl rfl ?_
        refine aD (aF (aH ?_))
        refine bP [(0, 0), (1, 0), (2, 1), (3, 1), (4, 1), (5, 0), (6, 1), (7, 0)] mixed rfl (by kernel_rfl) (fun w7 hb7 hh7 => ?_)
        have M7 := M6.drew hb7 hh7
        refine aR rfl rfl rfl (fun _ => aC (.slice _ _ _) rfl) ?_
        refine aR rfl rfl rfl (fun _ => aC (.int _ _) rfl) ?_
        refine cD rfl rfl rfl (bK (k) cA rfl rfl rfl ((R.mem M7).below_len (aJ aG hxb)) ((R.mem M7).someK (aJ aG hxb))) ?_
        refine cD rfl rfl rfl (bR 0 eG (R.mem M7) (Nat.lt_of_le_of_lt (Nat.zero_le _) ((R.mem M7).below_len (aJ aG hxb))) rfl) ?_
        refine cD rfl rfl rfl (fB (o := 0) (.int _ _) dD (R.mem M7) (aJ aG hxb) rfl rfl) ?_
        refine aR rfl rfl rfl (fun _ => aI 0 eG rfl) ?_
        refine cD rfl rfl rfl (aV 0 (.int _ _) dD M7 rfl rfl rfl) ?_
        refine aR rfl rfl rfl (fun _ => aO (.bool (decide _)) rfl rfl rfl) ?_
        refine cB ?_
        refine aF ?_
        refine aY rfl (fun h40 => ?_) (fun h40 => ?_)
        · refine aB ?_
          refine aA (aC (.slice _ _ _) rfl) rfl rfl ?_
          refine aA (aC (.slice _ _ _) rfl) rfl rfl ?_
          refine aA (aC (.int _ _) rfl) rfl rfl ?_
          refine aA (bK (k) cA rfl rfl rfl ((R.mem M7).below_len (aJ aG hxb)) ((R.mem M7).someK (aJ aG hxb))) rfl rfl ?_
          refine aA (cM _ bO (R.mem M7) (aJ aG hxb) rfl) rfl rfl ?_
          refine cF [.agg (List.toArray _)] _ rfl cA M7 rfl rfl rfl rfl (cO rfl) (by decide) (fun b8 w8 M8 => ?_)
          refine dV 1 [aG xb] cA M8 rfl rfl rfl rfl rfl hR6 rfl (by simpa using ⟨gQ xb, fT xb⟩) (cV.ofMem 3 M8 rfl) (by omega) (fun A9 c9 e9 w9 M9 hR9 => ?_)
          refine aA (aE (.slice _ _ _) rfl) rfl rfl ?_
          refine aD ?_
          refine dU ?_
          refine aF (aB ?_)
          refine aA (aC (.int _ _) rfl) rfl rfl ?_
          refine aA (bS rfl rfl (by omega) (by omega)) rfl rfl ?_
          refine aA (aE (.int _ _) rfl) rfl rfl ?_
          refine aD ?_
          refine cK (k + 1, (fL b gone (xs.take (k + 1))).1, (fL b gone (xs.take (k + 1))).2, ⟨A9, r.n + 1 + 1, c9, e9⟩) (bX rfl (bX (bv rfl (by rw [dX b gone hxb, heq]; simp [dP, *])) (bX rfl fH))) (cQ rfl (cQ rfl (cQ rfl jF))) ?_ ?_
          · exact ⟨⟨by omega, rfl, by rw [dX b gone hxb, heq]; simpa [dP, *] using hR9⟩, M9.keep [true, true, false, false]⟩
          · (show n - (k + 1) < n - k; omega)
        · refine aP ?_
          refine dU ?_
          refine aF (aB ?_)
          refine aA (aC (.int _ _) rfl) rfl rfl ?_
          refine aA (bS rfl rfl (by omega) (by omega)) rfl rfl ?_
          refine aA (aE (.int _ _) rfl) rfl rfl ?_
          refine aD ?_
          refine cK (k + 1, (fL b gone (xs.take (k + 1))).1, (fL b gone (xs.take (k + 1))).2, ⟨A6, r.n + 1, c6, e6⟩) (bX rfl (bX (bv rfl (by rw [dX b gone hxb, heq]; simp [dP, *])) (bX rfl fH))) (cQ rfl (cQ rfl (cQ rfl jF))) ?_ ?_
          · exact ⟨⟨by omega, rfl, by rw [dX b gone hxb, heq]; simpa [dP, *] using hR6⟩, M7.keep [true, true, false]⟩
          · (show n - (k + 1) < n - k; omega)
      · refine aP (aF (aH ?_))
        refine bP [(0, 0), (1, 0), (2, 1), (3, 1), (4, 1), (5, 0), (6, 1), (7, 0)] mixed rfl (by kernel_rfl) (fun w10 hb10 hh10 => ?_)
        have M10 := M4.drew hb10 hh10
        refine aR rfl rfl rfl (fun _ => aC (.slice _ _ _) rfl) ?_
        refine aR rfl rfl rfl (fun _ => aC (.int _ _) rfl) ?_
        refine cD rfl rfl rfl (bK (k) cA rfl rfl rfl ((R.mem M10).below_len (aJ aG hxb)) ((R.mem M10).someK (aJ aG hxb))) ?_
        refine cD rfl rfl rfl (bR 0 eG (R.mem M10) (Nat.lt_of_le_of_lt (Nat.zero_le _) ((R.mem M10).below_len (aJ aG hxb))) rfl) ?_
        refine cD rfl rfl rfl (fB (o := 0) (.int _ _) dD (R.mem M10) (aJ aG hxb) rfl rfl) ?_
        refine aR rfl rfl rfl (fun _ => aI 0 eG rfl) ?_
        refine cD rfl rfl rfl (aV 0 (.int _ _) dD M10 rfl rfl rfl) ?_
        refine aR rfl rfl rfl (fun _ => aO (.bool (decide _)) rfl rfl rfl) ?_
        refine cB ?_
        refine aF ?_
        refine aY rfl (fun h40 => ?_) (fun h40 => ?_)
        · refine aB ?_
          refine aA (aC (.slice _ _ _) rfl) rfl rfl ?_
          refine aA (aC (.slice _ _ _) rfl) rfl rfl ?_
          refine aA (aC (.int _ _) rfl) rfl rfl ?_
          refine aA (bK (k) cA rfl rfl rfl ((R.mem M10).below_len (aJ aG hxb)) ((R.mem M10).someK (aJ aG hxb))) rfl rfl ?_
          refine aA (cM _ bO (R.mem M10) (aJ aG hxb) rfl) rfl rfl ?_
          refine cF [.agg (List.toArray _)] _ rfl cA M10 rfl rfl rfl rfl (cO rfl) (by decide) (fun b11 w11 M11 => ?_)
          refine dV 1 [aG xb] cA M11 rfl rfl rfl rfl rfl hr rfl (by simpa using ⟨gQ xb, fT xb⟩) (cV.ofMem 2 M11 rfl) (by omega) (fun A12 c12 e12 w12 M12 hR12 => ?_)
          refine aA (aE (.slice _ _ _) rfl) rfl rfl ?_
          refine aD ?_
          refine dU ?_
          refine aF (aB ?_)
          refine aA (aC (.int _ _) rfl) rfl rfl ?_
          refine aA (bS rfl rfl (by omega) (by omega)) rfl rfl ?_
          refine aA (aE (.int _ _) rfl) rfl rfl ?_
          refine aD ?_
          refine cK (k + 1, (fL b gone (xs.take (k + 1))).1, (fL b gone (xs.take (k + 1))).2, ⟨A12, r.n + 1, c12, e12⟩) (bX rfl (bX (bv rfl (by rw [dX b gone hxb, heq]; simp [dP, *])) (bX rfl fH))) (cQ rfl (cQ rfl (cQ rfl jF))) ?_ ?_
          · exact ⟨⟨by omega, rfl, by rw [dX b gone hxb, heq]; simpa [dP, *] using hR12⟩, M12.keep [true, true, false]⟩
          · (show n - (k + 1) < n - k; omega)
        · refine aP ?_
          refine dU ?_
          refine aF (aB ?_)
          refine aA (aC (.int _ _) rfl) rfl rfl ?_
          refine aA (bS rfl rfl (by omega) (by omega)) rfl rfl ?_
          refine aA (aE (.int _ _) rfl) rfl rfl ?_
          refine aD ?_
          refine cK (k + 1, (fL b gone (xs.take (k + 1))).1, (fL b gone (xs.take (k + 1))).2, r) (bX rfl (bX (bv rfl (by rw [dX b gone hxb, heq]; simp [dP, *])) (bX rfl fH))) (cQ rfl (cQ rfl (cQ rfl jF))) ?_ ?_
          · exact ⟨⟨by omega, rfl, by rw [dX b gone hxb, heq]; simpa [dP, *] using hr⟩, M10.keep [true, true]⟩
          · (show n - (k + 1) < n - k; omega)
    · have hd : done = true := by simpa using g19
      refine D_s rfl rfl rfl ?_
      refine D_s rfl rfl rfl ?_
      refine aCa rfl rfl rfl ?_
      refine aCa rfl rfl rfl ?_
      refine aCa rfl rfl rfl ?_
      refine D_s rfl rfl rfl ?_
      refine aCa rfl rfl rfl ?_
      refine D_s rfl rfl rfl ?_
      refine aR rfl rfl rfl (fun _ => bI false (.bool false) rfl rfl) ?_
      refine cB ?_
      refine aF ?_
      refine cJ rfl ?_
      refine aP (aF (aH ?_))
      refine bP [(0, 0), (1, 0), (2, 1), (3, 1), (4, 1), (5, 0), (6, 1), (7, 0)] mixed rfl (by kernel_rfl) (fun w13 hb13 hh13 => ?_)
      have M13 := M4.drew hb13 hh13
      refine aR rfl rfl rfl (fun _ => aC (.slice _ _ _) rfl) ?_
      refine aR rfl rfl rfl (fun _ => aC (.int _ _) rfl) ?_
      refine cD rfl rfl rfl (bK (k) cA rfl rfl rfl ((R.mem M13).below_len (aJ aG hxb)) ((R.mem M13).someK (aJ aG hxb))) ?_
      refine cD rfl rfl rfl (bR 0 eG (R.mem M13) (Nat.lt_of_le_of_lt (Nat.zero_le _) ((R.mem M13).below_len (aJ aG hxb))) rfl) ?_
      refine cD rfl rfl rfl (fB (o := 0) (.int _ _) dD (R.mem M13) (aJ aG hxb) rfl rfl) ?_
      refine aR rfl rfl rfl (fun _ => aI 0 eG rfl) ?_
      refine cD rfl rfl rfl (aV 0 (.int _ _) dD M13 rfl rfl rfl) ?_
      refine aR rfl rfl rfl (fun _ => aO (.bool (decide _)) rfl rfl rfl) ?_
      refine cB ?_
      refine aF ?_
      refine aY rfl (fun h40 => ?_) (fun h40 => ?_)
      · refine aB ?_
        refine aA (aC (.slice _ _ _) rfl) rfl rfl ?_
        refine aA (aC (.slice _ _ _) rfl) rfl rfl ?_
        refine aA (aC (.int _ _) rfl) rfl rfl ?_
        refine aA (bK (k) cA rfl rfl rfl ((R.mem M13).below_len (aJ aG hxb)) ((R.mem M13).someK (aJ aG hxb))) rfl rfl ?_
        refine aA (cM _ bO (R.mem M13) (aJ aG hxb) rfl) rfl rfl ?_
        refine cF [.agg (List.toArray _)] _ rfl cA M13 rfl rfl rfl rfl (cO rfl) (by decide) (fun b14 w14 M14 => ?_)
        refine dV 1 [aG xb] cA M14 rfl rfl rfl rfl rfl hr rfl (by simpa using ⟨gQ xb, fT xb⟩) (cV.ofMem 2 M14 rfl) (by omega) (fun A15 c15 e15 w15 M15 hR15 => ?_)
        refine aA (aE (.slice _ _ _) rfl) rfl rfl ?_
        refine aD ?_
        refine dU ?_
        refine aF (aB ?_)
        refine aA (aC (.int _ _) rfl) rfl rfl ?_
        refine aA (bS rfl rfl (by omega) (by omega)) rfl rfl ?_
        refine aA (aE (.int _ _) rfl) rfl rfl ?_
        refine aD ?_
        refine cK (k + 1, (fL b gone (xs.take (k + 1))).1, (fL b gone (xs.take (k + 1))).2, ⟨A15, r.n + 1, c15, e15⟩) (bX rfl (bX (bv rfl (by rw [dX b gone hxb, heq]; simp [dP, *])) (bX rfl fH))) (cQ rfl (cQ rfl (cQ rfl jF))) ?_ ?_
        · exact ⟨⟨by omega, rfl, by rw [dX b gone hxb, heq]; simpa [dP, *] using hR15⟩, M15.keep [true, true, false]⟩
        · (show n - (k + 1) < n - k; omega)
      · refine aP ?_
        refine dU ?_
        refine aF (aB ?_)
        refine aA (aC (.int _ _) rfl) rfl rfl ?_
        refine aA (bS rfl rfl (by omega) (by omega)) rfl rfl ?_
        refine aA (aE (.int _ _) rfl) rfl rfl ?_
        refine aD ?_
        refine cK (k + 1, (fL b gone (xs.take (k + 1))).1, (fL b gone (xs.take (k + 1))).2, r) (bX rfl (bX (bv rfl (by rw [dX b gone hxb, heq]; simp [dP, *])) (bX rfl fH))) (cQ rfl (cQ rfl (cQ rfl jF))) ?_ ?_
        · exact ⟨⟨by omega, rfl, by rw [dX b gone hxb, heq]; simpa [dP, *] using hr⟩, M13.keep [true, true]⟩
        · (show n - (k + 1) < n - k; omega)
  · have hkn : k = n := by omega
    subst hkn
    rw [List.take_of_length_le (by omega)] at heq
    refine cR ?_
    refine dK ?_
    refine dH ?_
    refine fC ?_
    refine aF (aH (aH (aB ?_)))
    refine aA (aC (.bool _) rfl) rfl rfl ?_
    refine aA (kO _ rfl rfl) rfl rfl ?_
    refine aD (aF ?_)
    refine iV _ rfl (fun h49 => ?_) (fun h49 => ?_)
    · have hd : done = false := by simpa using h49
      refine aB ?_
      refine aA (aC (.slice _ _ _) rfl) rfl rfl ?_
      refine aA (bE 0 bO hM3 rfl rfl rfl) rfl rfl ?_
      refine cF [.agg (List.toArray _)] _ rfl cA hM3 rfl rfl rfl rfl (cO rfl) (by decide) (fun b16 w16 M16 => ?_)
      refine dV 1 [aG b] cA M16 rfl rfl rfl rfl rfl hr rfl (by simpa using ⟨gQ b, fT b⟩) (cV.ofMem 2 M16 rfl) (by omega) (fun A17 c17 e17 w17 M17 hR17 => ?_)
      refine aA (aE (.slice _ _ _) rfl) rfl rfl ?_
      refine aD (aF (aH (aB ?_)))
      refine aA (aC (.slice _ _ _) rfl) rfl rfl ?_
      refine aA (aE (.slice _ _ _) rfl) rfl rfl ?_
      refine aD (aF (aS ?_))
      refine cG (.slice _ _ _) rfl ?_
      exact ⟨_, _, _, _, rfl, by unfold zW; rw [heq]; simpa [*] using hR17, M17.keep [false, true, false]⟩
    · have hd : done = true := by simpa using h49
      refine aP (aF (aH (aB ?_)))
      refine aA (aC (.slice _ _ _) rfl) rfl rfl ?_
      refine aA (aE (.slice _ _ _) rfl) rfl rfl ?_
      refine aD (aF (aS ?_))
      refine cG (.slice _ _ _) rfl ?_
      exact ⟨_, _, _, _, rfl, by unfold zW; rw [heq]; simpa [*] using hr, hM3.keep [false, true]⟩
end Go.Proofs.YtlmcphcgiclanaaGreatDoor

namespace Go.Proofs.YtlmcphcgiclanaaGreatDoor
open Go.Bil
open Go.RowKit (Below)
open Go.Proofs
end Go.Proofs.YtlmcphcgiclanaaGreatDoor

namespace Go.Proofs.YtlmcphcgiclanaaGreatDoor
open Go.Bil
open Go.RowKit (Below)
open Go.Proofs
set_option maxHeartbeats 4000000 in
theorem sB (w : World) (x : Int) :
    Calls Tryz.prog 121 #[.int .u32 x] w (fun ex w' => ∃ v, ex = .returned v ∧ (fun v w' => v = .bool false ∧ w' = w) v w') := by
  refine aK #[.tmp 2] 6 Tryz.func121 rfl Tryz.results121 Tryz.ntmps121 rfl ?_
  have M0 := Mem.refl w
  refine aH (aB ?_)
  refine aA (aE (.bool false) rfl) rfl rfl ?_
  refine aD (aF (aH (aB ?_)))
  refine aA (aC (.int _ _) rfl) rfl rfl ?_
  refine aA (aC (.int _ _) rfl) rfl rfl ?_
  refine aA (aO (.bool (decide _)) rfl rfl rfl) rfl rfl ?_
  refine aA (aE (.bool (decide _)) rfl) rfl rfl ?_
  refine aD (aF (aS ?_))
  refine cG (.bool (decide _)) rfl ?_
  exact ⟨(bF (by omega)).symm, rfl⟩
set_option maxHeartbeats 4000000 in
theorem lJ (w : World) (x y : Int) :
    Calls Tryz.prog 97 #[.int .u32 x, .int .u32 y] w (fun ex w' => ∃ v, ex = .returned v ∧ (fun v w' => v = .int .i64 (mX x y) ∧ w' = w) v w') := by
  refine aK #[.tmp 4] 20 Tryz.func97 rfl Tryz.results97 Tryz.ntmps97 rfl ?_
  have M0 := Mem.refl w
  refine aH (aB ?_)
  refine aA (aE (.int _ _) rfl) rfl rfl ?_
  refine aD (aF (aH (aB ?_)))
  refine aA (aC (.int _ _) rfl) rfl rfl ?_
  refine aL aNl rfl rfl rfl ?_
  refine (sB _ _).mono ?_
  rintro _ w1 ⟨v1, rfl, ⟨rfl, rfl⟩⟩
  refine ⟨_, rfl, ?_⟩
  have M1 : Mem _ _ [] _ := M0
  refine aA (aE (.bool false) rfl) rfl rfl ?_
  refine aD (aF (aH (aB ?_)))
  refine aA (aC (.int _ _) rfl) rfl rfl ?_
  refine aL aNl rfl rfl rfl ?_
  refine (sB _ _).mono ?_
  rintro _ w2 ⟨v2, rfl, ⟨rfl, rfl⟩⟩
  refine ⟨_, rfl, ?_⟩
  have M2 : Mem _ _ [] _ := M1
  refine aA (aE (.bool false) rfl) rfl rfl ?_
  refine aD (aF (aH (aH (aB ?_))))
  refine aA (aC (.bool false) rfl) rfl rfl ?_
  refine aD (aF ?_)
  refine cJ rfl ?_
  refine aP (aF (aH (aH (aB ?_))))
  refine aA (aC (.bool false) rfl) rfl rfl ?_
  refine aD (aF ?_)
  refine cJ rfl ?_
  refine aP (aF (aH (aH (aB ?_))))
  refine aA (aC (.int _ _) rfl) rfl rfl ?_
  refine aA (aC (.int _ _) rfl) rfl rfl ?_
  refine aA (aO (.bool (decide _)) rfl rfl rfl) rfl rfl ?_
  refine aD (aF ?_)
  refine aY rfl (fun h16 => ?_) (fun h16 => ?_)
  · refine aH (aB ?_)
    refine aA (aE (.int _ _) rfl) rfl rfl ?_
    refine aD (aF (aS (cN ?_)))
    refine cG (.int _ _) rfl ?_
    exact ⟨iE (by unfold mX; (repeat' split) <;> omega), rfl⟩
  · refine aP (aF (aH (aH (aB ?_))))
    refine aA (aC (.int _ _) rfl) rfl rfl ?_
    refine aA (aC (.int _ _) rfl) rfl rfl ?_
    refine aA (aO (.bool (decide _)) rfl rfl rfl) rfl rfl ?_
    refine aD (aF ?_)
    refine aY rfl (fun h19 => ?_) (fun h19 => ?_)
    · refine aH (aB ?_)
      refine aA (aE (.int _ _) rfl) rfl rfl ?_
      refine aD (aF (aS (cN ?_)))
      refine cG (.int _ _) rfl ?_
      exact ⟨iE (by unfold mX; (repeat' split) <;> omega), rfl⟩
    · refine aP (aF (aH (aB ?_)))
      refine aA (aE (.int _ _) rfl) rfl rfl ?_
      refine aD (aF (aS ?_))
      refine cG (.int _ _) rfl ?_
      exact ⟨iE (by unfold mX; (repeat' split) <;> omega), rfl⟩
set_option maxHeartbeats 4000000 in
theorem xE (w : World) (A : Option Addr) (n c : Nat) (ls : List (List Value)) (R : Rd w 10 A n ls) (h1 : ∀ y ∈ ls, ∀ u ∈ y, one u = true) (hn : n ≤ 1048576) :
    Calls Tryz.prog 49 #[.slice A n c] w (fun ex w' => ∃ v, ex = .returned v ∧ (fun v w' => ∃ A' n' c' e, v = .slice A' n' c' ∧ aX 40 10 A' n' c' ls e ∧ Mem w [] [e] w' ∧ A'.isSome = A.isSome) v w') := by
  refine aK #[.tmp 2] 8 Tryz.func49 rfl Tryz.results49 Tryz.ntmps49 rfl ?_
  have M0 := Mem.refl w
  refine aH (aB ?_)
  refine aA (aE (.slice _ _ _) rfl) rfl rfl ?_
  refine aD (aF (aH (aH (aB ?_))))
  refine aA (aC (.slice _ _ _) rfl) rfl rfl ?_
  refine aA (aBb _ Tryz.underlying22 rfl rfl) rfl rfl ?_
  refine aD (aF ?_)
  refine iV _ rfl (fun h4 => ?_) (fun h4 => ?_)
  · refine aH (aB ?_)
    refine aA (aE (.slice _ _ _) rfl) rfl rfl ?_
    refine aD (aF (aS (cN ?_)))
    refine cG (.slice _ _ _) rfl ?_
    have hA : A = none := by cases A <;> simp_all
    have hl : ls = [] := by
      rcases Nat.eq_zero_or_pos n with h | h
      · subst h; exact List.eq_nil_of_length_eq_zero R.len
      · have := R.some h; rw [hA] at this; cases this
    subst hA; subst hl
    exact ⟨_, _, _, _, rfl, aX.nil 40 10 default, M0.dummy default, rfl⟩
  · refine aP (aF (aH (aB ?_)))
    refine cF [] [] rfl cA M0 rfl rfl rfl rfl (cO rfl) (by decide) (fun b1 w1 M1 => ?_)
    refine aA (aC (.slice _ _ _) rfl) rfl rfl ?_
    refine dA 0 ls cA M1 rfl rfl rfl rfl rfl (aX.empty b1) (R.mem M1) h1 (by omega) (fun A2 c2 e2 w2 M2 hR2 hA2 => ?_)
    have hAA := hA2
    refine aA (aE (.slice _ _ _) rfl) rfl rfl ?_
    refine aD (aF (aS ?_))
    refine cG (.slice _ _ _) rfl ?_
    refine ⟨_, _, _, _, rfl, by simpa using hR2, M2, ?_⟩
    rw [hAA rfl]; cases A <;> simp_all
end Go.Proofs.YtlmcphcgiclanaaGreatDoor

namespace Go.Proofs.YtlmcphcgiclanaaGreatDoor
open Go.Bil
open Go.RowKit (Below)
open Go.Proofs
end Go.Proofs.YtlmcphcgiclanaaGreatDoor
