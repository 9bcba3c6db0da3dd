/- Part of the proof of the laws of this seat: Ty, T26, T25, T20, T20r, T20l, T21, T22, R5, R6, Bd, Lib, St. No conditions. -/
import Derived.Test.YtlmcphcgiclanaaGreatDoorProg
import Derived.Test.YtlmcphcgiclanaaGreatDoorK2
import Derived.Test.YtlmcphcgiclanaaGreatDoorK3
import Derived.Test.YtlmcphcgiclanaaGreatDoorK4
import Derived.KernelRfl
set_option linter.unusedVariables false
set_option linter.unusedSimpArgs false
set_option linter.unnecessarySimpa false
namespace Go.Proofs.YtlmcphcgiclanaaGreatDoor
open Go.Bil
open Go.Proofs
theorem bY : gH Tryz.prog 36 = true := by kernel_rfl
theorem aT : gH Tryz.prog 21 = true := by kernel_rfl
theorem aKa : ∀ (d : Nat) (w : World) (x0 x1 y0 y1 : Int), (Op.equalIn (d + 2) 38 (.agg [.int .i32 x0, .int .i32 x1].toArray) (.agg [.int .i32 y0, .int .i32 y1].toArray)).run Tryz.prog w = .ok (decide (x0 = y0 ∧ x1 = y1)) w := fun d w x0 x1 y0 y1 => by
  have h := tX (P := Tryz.prog) (T := 38) (dd := d + 1) (xs := [.int .i32 x0, .int .i32 x1]) (ys := [.int .i32 y0, .int .i32 y1]) (w := w) Tryz.underlying38 (by kernel_rfl) (gQ rfl (jG aT rfl) (jG aT rfl) (oM (dd := d + 0) Tryz.underlying21) (gQ rfl (jG aT rfl) (jG aT rfl) (oM (dd := d + 0) Tryz.underlying21) (aDe)))
  refine h.trans (congrArg (fun r => Result.ok r w) ?_)
  simp only [Bool.decide_and, Bool.and_true, Bool.and_assoc]
theorem bK : gL Tryz.prog 38 = some 2 := by kernel_rfl
theorem bDz : ∀ (d : Nat) (w : World) (x0 x1 x2 x3 x4 x5 x6 x7 x8 x9 y0 y1 y2 y3 y4 y5 y6 y7 y8 y9 : Int), (Op.equalIn (d + 3) 40 (.agg [.int .u32 x0, .int .i32 x1, .int .i32 x2, .int .i32 x3, .int .i32 x4, .int .i32 x5, .int .i32 x6, .int .i32 x7, .int .i32 x8, .int .i32 x9].toArray) (.agg [.int .u32 y0, .int .i32 y1, .int .i32 y2, .int .i32 y3, .int .i32 y4, .int .i32 y5, .int .i32 y6, .int .i32 y7, .int .i32 y8, .int .i32 y9].toArray)).run Tryz.prog w = .ok (decide (x0 = y0 ∧ x1 = y1 ∧ x2 = y2 ∧ x3 = y3 ∧ x4 = y4 ∧ x5 = y5 ∧ x6 = y6 ∧ x7 = y7 ∧ x8 = y8 ∧ x9 = y9)) w := fun d w x0 x1 x2 x3 x4 x5 x6 x7 x8 x9 y0 y1 y2 y3 y4 y5 y6 y7 y8 y9 => by
  have h := tX (P := Tryz.prog) (T := 40) (dd := d + 2) (xs := [.int .u32 x0, .int .i32 x1, .int .i32 x2, .int .i32 x3, .int .i32 x4, .int .i32 x5, .int .i32 x6, .int .i32 x7, .int .i32 x8, .int .i32 x9]) (ys := [.int .u32 y0, .int .i32 y1, .int .i32 y2, .int .i32 y3, .int .i32 y4, .int .i32 y5, .int .i32 y6, .int .i32 y7, .int .i32 y8, .int .i32 y9]) (w := w) Tryz.underlying40 (by kernel_rfl) (gQ rfl (jG bY rfl) (jG bY rfl) (oM (dd := d + 1) Tryz.underlying36) (gQ rfl (jG aT rfl) (jG aT rfl) (oM (dd := d + 1) Tryz.underlying21) (gQ rfl (wO bK rfl) (wO bK rfl) (aKa (d + 0) w x2 x3 y2 y3) (gQ rfl (jG aT rfl) (jG aT rfl) (oM (dd := d + 1) Tryz.underlying21) (gQ rfl (jG aT rfl) (jG aT rfl) (oM (dd := d + 1) Tryz.underlying21) (gQ rfl (wO bK rfl) (wO bK rfl) (aKa (d + 0) w x6 x7 y6 y7) (gQ rfl (wO bK rfl) (wO bK rfl) (aKa (d + 0) w x8 x9 y8 y9) (aDe))))))))
  refine h.trans (congrArg (fun r => Result.ok r w) ?_)
  simp only [Bool.decide_and, Bool.and_true, Bool.and_assoc]
theorem bDq : ∀ (x0 x1 x2 x3 x4 x5 x6 x7 x8 x9 y0 y1 y2 y3 y4 y5 y6 y7 y8 y9 : Int), EqA Tryz.prog 40 [.int .u32 x0, .int .i32 x1, .int .i32 x2, .int .i32 x3, .int .i32 x4, .int .i32 x5, .int .i32 x6, .int .i32 x7, .int .i32 x8, .int .i32 x9] [.int .u32 y0, .int .i32 y1, .int .i32 y2, .int .i32 y3, .int .i32 y4, .int .i32 y5, .int .i32 y6, .int .i32 y7, .int .i32 y8, .int .i32 y9] (decide (x0 = y0 ∧ x1 = y1 ∧ x2 = y2 ∧ x3 = y3 ∧ x4 = y4 ∧ x5 = y5 ∧ x6 = y6 ∧ x7 = y7 ∧ x8 = y8 ∧ x9 = y9)) := fun x0 x1 x2 x3 x4 x5 x6 x7 x8 x9 y0 y1 y2 y3 y4 y5 y6 y7 y8 y9 => ⟨by kernel_rfl, fun w => bDz 9997 w x0 x1 x2 x3 x4 x5 x6 x7 x8 x9 y0 y1 y2 y3 y4 y5 y6 y7 y8 y9⟩
theorem bO : gL Tryz.prog 40 = some 10 := by kernel_rfl
theorem bEb : aP Tryz.prog 96 = true := by kernel_rfl
theorem bBy : ∀ (d : Nat) (w : World) (x0 x1 y0 y1 : Int), (Op.equalIn (d + 2) 119 (.agg [.int .u32 x0, .int .u32 x1].toArray) (.agg [.int .u32 y0, .int .u32 y1].toArray)).run Tryz.prog w = .ok (decide (x0 = y0 ∧ x1 = y1)) w := fun d w x0 x1 y0 y1 => by
  have h := tX (P := Tryz.prog) (T := 119) (dd := d + 1) (xs := [.int .u32 x0, .int .u32 x1]) (ys := [.int .u32 y0, .int .u32 y1]) (w := w) Tryz.underlying119 (by kernel_rfl) (gQ rfl (jG bY rfl) (jG bY rfl) (oM (dd := d + 0) Tryz.underlying36) (gQ rfl (jG bY rfl) (jG bY rfl) (oM (dd := d + 0) Tryz.underlying36) (aDe)))
  refine h.trans (congrArg (fun r => Result.ok r w) ?_)
  simp only [Bool.decide_and, Bool.and_true, Bool.and_assoc]
theorem bCz : ∀ (x0 x1 y0 y1 : Int), EqA Tryz.prog 119 [.int .u32 x0, .int .u32 x1] [.int .u32 y0, .int .u32 y1] (decide (x0 = y0 ∧ x1 = y1)) := fun x0 x1 y0 y1 => ⟨by kernel_rfl, fun w => bBy 9998 w x0 x1 y0 y1⟩
theorem fY : gL Tryz.prog 119 = some 2 := by kernel_rfl
theorem aZm : aP Tryz.prog 170 = true := by kernel_rfl
theorem bDm : jL Tryz.prog 119 = some (.agg [.int .u32 0, .int .u32 0].toArray) := by kernel_rfl
theorem iT : gH Tryz.prog 3 = true := by kernel_rfl
theorem nF : gH Tryz.prog 4 = true := by kernel_rfl
theorem kQ : eC Tryz.prog 40 1 1 = true := by kernel_rfl
theorem jK : eC Tryz.prog 40 2 2 = true := by kernel_rfl
theorem dJ : eC Tryz.prog 38 0 0 = true := by kernel_rfl
theorem aBq : aP Tryz.prog 55 = true := by kernel_rfl
theorem dB : eC Tryz.prog 38 1 1 = true := by kernel_rfl
theorem eQ : eC Tryz.prog 40 3 4 = true := by kernel_rfl
theorem nO : eC Tryz.prog 40 4 5 = true := by kernel_rfl
theorem fJ : eC Tryz.prog 40 5 6 = true := by kernel_rfl
theorem eS : eC Tryz.prog 40 6 8 = true := by kernel_rfl
theorem eV : eH Tryz.prog 22 40 10 40 = true := by kernel_rfl
theorem eK : eC Tryz.prog 40 0 0 = true := by kernel_rfl
theorem mixed : Tryz.prog.follows .mixedOrders = true := by kernel_rfl
theorem aHz : aP Tryz.prog 124 = true := by kernel_rfl
theorem kU : gE Tryz.prog 181 [.nilFunc, .int .i64 0] [(0, 1), (1, 1)] := eI Tryz.underlying181 (by kernel_rfl) (by kernel_rfl) (by kernel_rfl)
theorem qT : vF Tryz.prog 183 6 181 2 = true := by kernel_rfl
theorem aUq : fH Tryz.prog 183 = some [.nilFunc, .int .i64 0, .nilFunc, .int .i64 0, .nilFunc, .int .i64 0, .nilFunc, .int .i64 0, .nilFunc, .int .i64 0, .nilFunc, .int .i64 0] := by kernel_rfl
theorem kG : gL Tryz.prog 181 = some 2 := by kernel_rfl
theorem pP : fH Tryz.prog 181 = some [.nilFunc, .int .i64 0] := by kernel_rfl
theorem mJ : eC Tryz.prog 181 0 0 = true := by kernel_rfl
theorem aAl : gH Tryz.prog 25 = true := by kernel_rfl
theorem aZp : aP Tryz.prog 122 = true := by kernel_rfl
theorem mW : eC Tryz.prog 181 1 1 = true := by kernel_rfl
theorem aAh : gH Tryz.prog 67 = true := by kernel_rfl
theorem aZr : aP Tryz.prog 123 = true := by kernel_rfl
theorem bAd : aP Tryz.prog 125 = true := by kernel_rfl
theorem bBg : aP Tryz.prog 126 = true := by kernel_rfl
theorem aZj : aP Tryz.prog 127 = true := by kernel_rfl
theorem bCp : aP Tryz.prog 128 = true := by kernel_rfl
theorem aUe : aP Tryz.prog 98 = true := by kernel_rfl
theorem jX : eC Tryz.prog 52 1 1 = true := by kernel_rfl
theorem qL : gH Tryz.prog 50 = true := by kernel_rfl
theorem uF : zE Tryz.prog 50 36 3 .u32 = true := by kernel_rfl
theorem zv3 : jL Tryz.prog 3 = some (.int .i64 0) := by kernel_rfl
theorem fP : eC Tryz.prog 52 0 0 = true := by kernel_rfl
theorem fC : gH Tryz.prog 22 = true := by kernel_rfl
theorem gK : fH Tryz.prog 40 = some [.int .u32 0, .int .i32 0, .int .i32 0, .int .i32 0, .int .i32 0, .int .i32 0, .int .i32 0, .int .i32 0, .int .i32 0, .int .i32 0] := by kernel_rfl
theorem oU : gE Tryz.prog 40 [.int .u32 0, .int .i32 0, .int .i32 0, .int .i32 0, .int .i32 0, .int .i32 0, .int .i32 0, .int .i32 0, .int .i32 0, .int .i32 0] [(0, 1), (1, 1), (2, 2), (4, 1), (5, 1), (6, 2), (8, 2)] := eI Tryz.underlying40 (by kernel_rfl) (by kernel_rfl) (by kernel_rfl)
theorem aRx : aP Tryz.prog 121 = true := by kernel_rfl
theorem aKm : aP Tryz.prog 97 = true := by kernel_rfl
theorem bEm : aP Tryz.prog 49 = true := by kernel_rfl
theorem bDh : aP Tryz.prog 95 = true := by kernel_rfl
theorem bDv : aP Tryz.prog 24 = true := by kernel_rfl
theorem aZn : aP Tryz.prog 129 = true := by kernel_rfl
theorem bEj : aP Tryz.prog 50 = true := by kernel_rfl
theorem us3 : (Tryz.prog.underlying 3).isSome = true := by kernel_rfl
theorem bEa : (Tryz.prog.underlying 136).isSome = true := by kernel_rfl
theorem aTe : aP Tryz.prog 140 = true := by kernel_rfl
theorem bCq : aP Tryz.prog 139 = true := by kernel_rfl
theorem aPi : aP Tryz.prog 215 = true := by kernel_rfl
theorem aDk : fH Tryz.prog 193 = some [.int .i32 0, .int .i32 0, .int .i32 0, .int .i32 0] := by kernel_rfl
theorem bBd : aP Tryz.prog 190 = true := by kernel_rfl
theorem aAo : gE Tryz.prog 193 [.int .i32 0, .int .i32 0, .int .i32 0, .int .i32 0] [(0, 1), (1, 1), (2, 1), (3, 1)] := eI Tryz.underlying193 (by kernel_rfl) (by kernel_rfl) (by kernel_rfl)
theorem iL : gL Tryz.prog 193 = some 4 := by kernel_rfl
theorem sM : eC Tryz.prog 193 0 0 = true := by kernel_rfl
theorem sC : eC Tryz.prog 193 2 2 = true := by kernel_rfl
theorem rO : eC Tryz.prog 193 1 1 = true := by kernel_rfl
theorem rT : eC Tryz.prog 193 3 3 = true := by kernel_rfl
theorem aIw : aP Tryz.prog 192 = true := by kernel_rfl
theorem bCm : aP Tryz.prog 193 = true := by kernel_rfl
theorem nK : fH Tryz.prog 226 = some [.int .i32 0, .int .i32 0] := by kernel_rfl
theorem aAi : gE Tryz.prog 226 [.int .i32 0, .int .i32 0] [(0, 1), (1, 1)] := eI Tryz.underlying226 (by kernel_rfl) (by kernel_rfl) (by kernel_rfl)
theorem gJ : gL Tryz.prog 226 = some 2 := by kernel_rfl
theorem eM : gE Tryz.prog 38 [.int .i32 0, .int .i32 0] [(0, 1), (1, 1)] := eI Tryz.underlying38 (by kernel_rfl) (by kernel_rfl) (by kernel_rfl)
theorem aQk : aP Tryz.prog 229 = true := by kernel_rfl
theorem aZu : aP Tryz.prog 216 = true := by kernel_rfl
theorem aKi : fH Tryz.prog 4 = some [.bool false] := by kernel_rfl
theorem yE : eC Tryz.prog 226 1 1 = true := by kernel_rfl
theorem yY : eC Tryz.prog 226 0 0 = true := by kernel_rfl
theorem aVi : fH Tryz.prog 224 = some [.slice none 0 0] := by kernel_rfl
theorem bCv : aP Tryz.prog 191 = true := by kernel_rfl
theorem aZz : aP Tryz.prog 217 = true := by kernel_rfl
theorem aJl : gH Tryz.prog 224 = true := by kernel_rfl
theorem aSq : eH Tryz.prog 224 226 2 8 = true := by kernel_rfl
theorem fO : (Tryz.prog.underlying 21).isSome = true := by kernel_rfl
theorem aTk : vF Tryz.prog 270 2 36 1 = true := by kernel_rfl
theorem rD : (Tryz.prog.underlying 36).isSome = true := by kernel_rfl
theorem bAo : aP Tryz.prog 206 = true := by kernel_rfl
theorem us2 : (Tryz.prog.underlying 2).isSome = true := by kernel_rfl
theorem aBt : (Tryz.prog.underlying 170).isSome = true := by kernel_rfl
theorem oO : aP Tryz.prog 179 = true := by kernel_rfl
theorem aIs : aP Tryz.prog 178 = true := by kernel_rfl
theorem aPl : aP Tryz.prog 180 = true := by kernel_rfl
theorem aCn : aP Tryz.prog 181 = true := by kernel_rfl
theorem aDv : aP Tryz.prog 207 = true := by kernel_rfl
theorem aQz : aP Tryz.prog 201 = true := by kernel_rfl
theorem aHn : aP Tryz.prog 173 = true := by kernel_rfl
theorem bAc : aP Tryz.prog 203 = true := by kernel_rfl
theorem gD : fH Tryz.prog 38 = some [.int .i32 0, .int .i32 0] := by kernel_rfl
theorem aPg : aP Tryz.prog 175 = true := by kernel_rfl
theorem aRa : aP Tryz.prog 202 = true := by kernel_rfl
theorem yD : aP Tryz.prog 200 = true := by kernel_rfl
theorem lA : gH Tryz.prog 2 = true := by kernel_rfl
theorem aDj : aP Tryz.prog 141 = true := by kernel_rfl
theorem bBa : aP Tryz.prog 244 = true := by kernel_rfl
theorem xO : fH Tryz.prog 2 = some [.int .i64 0] := by kernel_rfl
theorem aPz : aP Tryz.prog 245 = true := by kernel_rfl
theorem oW : gH Tryz.prog 170 = true := by kernel_rfl
theorem aXv : fH Tryz.prog 170 = some [.int .u64 0] := by kernel_rfl
theorem tA : vF Tryz.prog 318 2 38 2 = true := by kernel_rfl
theorem aKc : fH Tryz.prog 318 = some [.int .i32 0, .int .i32 0, .int .i32 0, .int .i32 0] := by kernel_rfl
theorem aCj : aP Tryz.prog 239 = true := by kernel_rfl
theorem aCs : aP Tryz.prog 238 = true := by kernel_rfl
theorem bAh : aP Tryz.prog 221 = true := by kernel_rfl
theorem rW : fH Tryz.prog 239 = some [.int .u32 0, .int .i32 0, .int .i32 0, .int .i32 0, .int .i32 0, .int .i32 0, .int .i32 0, .int .i32 0, .int .i32 0, .int .i32 0, .int .i32 0, .int .i32 0, .int .i32 0, .int .i32 0] := by kernel_rfl
theorem bCf : aP Tryz.prog 220 = true := by kernel_rfl
theorem aNw : gE Tryz.prog 239 [.int .u32 0, .int .i32 0, .int .i32 0, .int .i32 0, .int .i32 0, .int .i32 0, .int .i32 0, .int .i32 0, .int .i32 0, .int .i32 0, .int .i32 0, .int .i32 0, .int .i32 0, .int .i32 0] [(0, 10), (10, 2), (12, 2)] := eI Tryz.underlying239 (by kernel_rfl) (by kernel_rfl) (by kernel_rfl)
theorem kF : gL Tryz.prog 239 = some 14 := by kernel_rfl
theorem aDf : aP Tryz.prog 198 = true := by kernel_rfl
theorem aGu : eC Tryz.prog 239 1 10 = true := by kernel_rfl
theorem aFr : eC Tryz.prog 239 2 12 = true := by kernel_rfl
theorem bAa : aP Tryz.prog 199 = true := by kernel_rfl
theorem rV : eC Tryz.prog 239 0 0 = true := by kernel_rfl
theorem rQ : fH Tryz.prog 121 = some [.int .u32 0, .int .u32 0, .int .i32 0, .int .i32 0, .int .i32 0] := by kernel_rfl
theorem bAk : aP Tryz.prog 171 = true := by kernel_rfl
theorem bCh : aP Tryz.prog 172 = true := by kernel_rfl
theorem aAy : gE Tryz.prog 121 [.int .u32 0, .int .u32 0, .int .i32 0, .int .i32 0, .int .i32 0] [(0, 2), (2, 2), (4, 1)] := eI Tryz.underlying121 (by kernel_rfl) (by kernel_rfl) (by kernel_rfl)
theorem gC : gL Tryz.prog 121 = some 5 := by kernel_rfl
theorem aBe : gE Tryz.prog 119 [.int .u32 0, .int .u32 0] [(0, 1), (1, 1)] := eI Tryz.underlying119 (by kernel_rfl) (by kernel_rfl) (by kernel_rfl)
theorem pM : fH Tryz.prog 119 = some [.int .u32 0, .int .u32 0] := by kernel_rfl
theorem bBf : aP Tryz.prog 174 = true := by kernel_rfl
theorem aFn : eC Tryz.prog 191 1 1024 = true := by kernel_rfl
theorem bAm : aP Tryz.prog 161 = true := by kernel_rfl
theorem bCa : aP Tryz.prog 162 = true := by kernel_rfl
theorem aSl : zE Tryz.prog 223 3 4 .i64 = true := by kernel_rfl
theorem zv4 : jL Tryz.prog 4 = some (.bool false) := by kernel_rfl
theorem xC : eC Tryz.prog 191 0 0 = true := by kernel_rfl
theorem aHv : vF Tryz.prog 189 1024 188 1 = true := by kernel_rfl
theorem aCp : gH Tryz.prog 188 = true := by kernel_rfl
theorem aGp : eH Tryz.prog 188 36 1 4 = true := by kernel_rfl
theorem aPd : eH Tryz.prog 302 3 1 8 = true := by kernel_rfl
theorem mU : eC Tryz.prog 119 0 0 = true := by kernel_rfl
theorem mO : eC Tryz.prog 119 1 1 = true := by kernel_rfl
theorem bBq : aP Tryz.prog 197 = true := by kernel_rfl
theorem bBl : gH Tryz.prog 230 = true := by kernel_rfl
theorem bBv : aP Tryz.prog 196 = true := by kernel_rfl
theorem aJr : gH Tryz.prog 159 = true := by kernel_rfl
theorem sV : eH Tryz.prog 159 119 2 8 = true := by kernel_rfl
theorem bAf : aP Tryz.prog 218 = true := by kernel_rfl
theorem bBu : aP Tryz.prog 194 = true := by kernel_rfl
theorem bAb : aP Tryz.prog 195 = true := by kernel_rfl
theorem bBp : gL Tryz.prog 189 = some 1024 := by kernel_rfl
theorem bBx : aP Tryz.prog 167 = true := by kernel_rfl
theorem aOh : gE Tryz.prog 231 [] [] := eI Tryz.underlying231 (by kernel_rfl) (by kernel_rfl) (by kernel_rfl)
theorem bAz : aP Tryz.prog 169 = true := by kernel_rfl
theorem bBz : aP Tryz.prog 168 = true := by kernel_rfl
theorem bAj : aP Tryz.prog 160 = true := by kernel_rfl
theorem aDu : zE Tryz.prog 186 36 193 .u32 = true := by kernel_rfl
theorem bEo : fH Tryz.prog 3 = some [.int .i64 0] := by kernel_rfl
theorem aTr : gH Tryz.prog 186 = true := by kernel_rfl
theorem aPb : jL Tryz.prog 193 = some (.agg [.int .i32 0, .int .i32 0, .int .i32 0, .int .i32 0].toArray) := by kernel_rfl
theorem bBj : aP Tryz.prog 164 = true := by kernel_rfl
theorem aRl : aP Tryz.prog 163 = true := by kernel_rfl
theorem bCw : aP Tryz.prog 166 = true := by kernel_rfl
theorem bBs : aP Tryz.prog 132 = true := by kernel_rfl
theorem bAs : aP Tryz.prog 133 = true := by kernel_rfl
theorem aZk : aP Tryz.prog 134 = true := by kernel_rfl
theorem bCk : aP Tryz.prog 136 = true := by kernel_rfl
theorem bCr : aP Tryz.prog 135 = true := by kernel_rfl
theorem aZv : aP Tryz.prog 165 = true := by kernel_rfl
theorem wS : eC Tryz.prog 158 0 0 = true := by kernel_rfl
theorem xJ : gH Tryz.prog 156 = true := by kernel_rfl
theorem xE : zE Tryz.prog 156 36 40 .u32 = true := by kernel_rfl
theorem aXc : jL Tryz.prog 40 = some (.agg [.int .u32 0, .int .i32 0, .int .i32 0, .int .i32 0, .int .i32 0, .int .i32 0, .int .i32 0, .int .i32 0, .int .i32 0, .int .i32 0].toArray) := by kernel_rfl
theorem aRz : aP Tryz.prog 137 = true := by kernel_rfl
theorem oR : eC Tryz.prog 158 1 1 = true := by kernel_rfl
theorem oF : gH Tryz.prog 82 = true := by kernel_rfl
theorem aMx : eH Tryz.prog 82 121 5 20 = true := by kernel_rfl
theorem aZs : aP Tryz.prog 107 = true := by kernel_rfl
theorem aMp : gE Tryz.prog 158 [.map none, .slice none 0 0] [(0, 1), (1, 1)] := eI Tryz.underlying158 (by kernel_rfl) (by kernel_rfl) (by kernel_rfl)
theorem bBc : aP Tryz.prog 105 = true := by kernel_rfl
theorem aZx : aP Tryz.prog 106 = true := by kernel_rfl
theorem bCi : aP Tryz.prog 246 = true := by kernel_rfl
theorem bCe : aP Tryz.prog 240 = true := by kernel_rfl
theorem mM : eC Tryz.prog 121 1 2 = true := by kernel_rfl
theorem bAt : aP Tryz.prog 222 = true := by kernel_rfl
theorem bAq : aP Tryz.prog 223 = true := by kernel_rfl
theorem aPq : aP Tryz.prog 224 = true := by kernel_rfl
theorem aQp : aP Tryz.prog 225 = true := by kernel_rfl
theorem mT : eC Tryz.prog 246 0 0 = true := by kernel_rfl
theorem sJ : eC Tryz.prog 121 0 0 = true := by kernel_rfl
theorem aCa : aP Tryz.prog 109 = true := by kernel_rfl
theorem bBo : aP Tryz.prog 204 = true := by kernel_rfl
theorem aPu : aP Tryz.prog 205 = true := by kernel_rfl
theorem mL : eC Tryz.prog 246 1 1 = true := by kernel_rfl
theorem kI : gH Tryz.prog 200 = true := by kernel_rfl
theorem mX : eC Tryz.prog 246 2 2 = true := by kernel_rfl
theorem mA : eH Tryz.prog 200 2 1 8 = true := by kernel_rfl
theorem bAy : aP Tryz.prog 177 = true := by kernel_rfl
theorem aAf : gE Tryz.prog 246 [.slice none 0 0, .slice none 0 0, .slice none 0 0] [(0, 1), (1, 1), (2, 1)] := eI Tryz.underlying246 (by kernel_rfl) (by kernel_rfl) (by kernel_rfl)
theorem aPk : aP Tryz.prog 176 = true := by kernel_rfl
theorem aZl : aP Tryz.prog 138 = true := by kernel_rfl
theorem aJi : aP Tryz.prog 118 = true := by kernel_rfl
theorem bBi : aP Tryz.prog 108 = true := by kernel_rfl
theorem aPt : eC Tryz.prog 121 2 4 = true := by kernel_rfl
theorem aSm : aP Tryz.prog 142 = true := by kernel_rfl
theorem aBv : gH Tryz.prog 97 = true := by kernel_rfl
theorem aHy : eH Tryz.prog 97 135 2 16 = true := by kernel_rfl
theorem xQ : eC Tryz.prog 135 0 0 = true := by kernel_rfl
theorem wF : eC Tryz.prog 135 1 1 = true := by kernel_rfl
theorem aXn : fH Tryz.prog 135 = some [.int .i64 0, .int .i64 0] := by kernel_rfl
theorem bBb : fH Tryz.prog 97 = some [.slice none 0 0] := by kernel_rfl
theorem aQe : aP Tryz.prog 111 = true := by kernel_rfl
theorem aTm : aP Tryz.prog 110 = true := by kernel_rfl
theorem aAw : eH Tryz.prog 175 133 1 8 = true := by kernel_rfl
theorem bCx : gH Tryz.prog 133 = true := by kernel_rfl
theorem bEq : aP Tryz.prog 84 = true := by kernel_rfl
theorem aEz : aP Tryz.prog 85 = true := by kernel_rfl
theorem bEv : aP Tryz.prog 83 = true := by kernel_rfl
theorem aZa : aP Tryz.prog 82 = true := by kernel_rfl
theorem bDt : aP Tryz.prog 86 = true := by kernel_rfl
theorem bEu : aP Tryz.prog 53 = true := by kernel_rfl
theorem bDj : aP Tryz.prog 54 = true := by kernel_rfl
theorem vP : eC Tryz.prog 84 1 1 = true := by kernel_rfl
theorem pO : eC Tryz.prog 84 3 3 = true := by kernel_rfl
theorem rL : eC Tryz.prog 27 2 2 = true := by kernel_rfl
theorem aCe : eC Tryz.prog 84 0 0 = true := by kernel_rfl
theorem bEr : aP Tryz.prog 71 = true := by kernel_rfl
theorem vO : eC Tryz.prog 84 2 2 = true := by kernel_rfl
theorem aWj : eC Tryz.prog 27 0 0 = true := by kernel_rfl
theorem aCu : eC Tryz.prog 27 1 1 = true := by kernel_rfl
theorem aQn : aP Tryz.prog 72 = true := by kernel_rfl
theorem bEp : aP Tryz.prog 73 = true := by kernel_rfl
theorem bEh : aP Tryz.prog 74 = true := by kernel_rfl
theorem wX : fH Tryz.prog 27 = some [.int .i64 0, .int .i64 0, .bool false] := by kernel_rfl
theorem aRj : gE Tryz.prog 84 [.slice none 0 0, .slice none 0 0, .slice none 0 0, .int .i64 0, .int .i64 0, .bool false] [(0, 1), (1, 1), (2, 1), (3, 3)] := eI Tryz.underlying84 (by kernel_rfl) (by kernel_rfl) (by kernel_rfl)
theorem aGr : vF Tryz.prog 86 4 85 1 = true := by kernel_rfl
theorem bAr : fH Tryz.prog 86 = some [.nilFunc, .nilFunc, .nilFunc, .nilFunc] := by kernel_rfl
theorem aKh : gH Tryz.prog 85 = true := by kernel_rfl
theorem bDk : aP Tryz.prog 40 = true := by kernel_rfl
theorem bDo : aP Tryz.prog 41 = true := by kernel_rfl
theorem bEg : aP Tryz.prog 42 = true := by kernel_rfl
theorem bEx : aP Tryz.prog 43 = true := by kernel_rfl
theorem sU : gL Tryz.prog 27 = some 3 := by kernel_rfl
theorem bEi : aP Tryz.prog 16 = true := by kernel_rfl
theorem aYj : ∀ (x0 x1 y0 y1 : Int), EqA Tryz.prog 38 [.int .i32 x0, .int .i32 x1] [.int .i32 y0, .int .i32 y1] (decide (x0 = y0 ∧ x1 = y1)) := fun x0 x1 y0 y1 => ⟨by kernel_rfl, fun w => aKa 9998 w x0 x1 y0 y1⟩
theorem qR : aP Tryz.prog 18 = true := by kernel_rfl
theorem us5 : (Tryz.prog.underlying 5).isSome = true := by kernel_rfl
theorem aYv : aP Tryz.prog 20 = true := by kernel_rfl
theorem mG : eH Tryz.prog 57 5 1 1 = true := by kernel_rfl
theorem aCh : fH Tryz.prog 150 = some [.int .u32 0, .int .u32 0, .int .u32 0, .int .u32 0, .int .u32 0, .int .u32 0, .int .u32 0, .int .u32 0, .int .u32 0, .int .u32 0] := by kernel_rfl
theorem fG : vF Tryz.prog 150 10 36 1 = true := by kernel_rfl
theorem nI : aP Tryz.prog 130 = true := by kernel_rfl
theorem aIl : gL Tryz.prog 150 = some 10 := by kernel_rfl
theorem aXb : gH Tryz.prog 5 = true := by kernel_rfl
theorem aIf : aP Tryz.prog 131 = true := by kernel_rfl
theorem aZh : aP Tryz.prog 99 = true := by kernel_rfl
theorem aRh : aP Tryz.prog 100 = true := by kernel_rfl
theorem aZo : aP Tryz.prog 101 = true := by kernel_rfl
theorem kZ : aP Tryz.prog 102 = true := by kernel_rfl
theorem kX : aP Tryz.prog 103 = true := by kernel_rfl
theorem bCo : aP Tryz.prog 104 = true := by kernel_rfl
theorem rN : eC Tryz.prog 56 0 0 = true := by kernel_rfl
theorem aKu : aP Tryz.prog 65 = true := by kernel_rfl
theorem pV : eC Tryz.prog 54 0 0 = true := by kernel_rfl
theorem aYo : aP Tryz.prog 66 = true := by kernel_rfl
theorem bDx : aP Tryz.prog 89 = true := by kernel_rfl
theorem bEw : aP Tryz.prog 70 = true := by kernel_rfl
theorem bFc : aP Tryz.prog 64 = true := by kernel_rfl
theorem sB : aP Tryz.prog 31 = true := by kernel_rfl
theorem bDw : aP Tryz.prog 67 = true := by kernel_rfl
theorem aQt : aP Tryz.prog 37 = true := by kernel_rfl
theorem bEd : aP Tryz.prog 87 = true := by kernel_rfl
theorem bEs : aP Tryz.prog 88 = true := by kernel_rfl
theorem aSd : gE Tryz.prog 54 [.slice none 0 0, .map none] [(0, 2)] := eI Tryz.underlying54 (by kernel_rfl) (by kernel_rfl) (by kernel_rfl)
theorem bEn : gL Tryz.prog 54 = some 2 := by kernel_rfl
theorem aYs : aP Tryz.prog 69 = true := by kernel_rfl
theorem bEt : aP Tryz.prog 68 = true := by kernel_rfl
theorem aDr : fH Tryz.prog 61 = some [.slice none 0 0, .int .i64 0, .int .u32 0, .int .i32 0, .int .i32 0, .int .i32 0, .int .i32 0, .int .i32 0, .int .i32 0, .int .i32 0, .int .i32 0, .int .i32 0, .slice none 0 0, .int .i64 0, .bool false] := by kernel_rfl
theorem gA : gL Tryz.prog 61 = some 15 := by kernel_rfl
theorem jJ : eC Tryz.prog 59 0 0 = true := by kernel_rfl
theorem aWe : eC Tryz.prog 59 1 1 = true := by kernel_rfl
theorem nH : eC Tryz.prog 61 1 1 = true := by kernel_rfl
theorem aCk : eC Tryz.prog 59 2 11 = true := by kernel_rfl
theorem aVo : eC Tryz.prog 59 3 12 = true := by kernel_rfl
theorem aVs : eC Tryz.prog 61 4 13 = true := by kernel_rfl
theorem aUn : eC Tryz.prog 61 5 14 = true := by kernel_rfl
theorem aUp : eC Tryz.prog 61 3 12 = true := by kernel_rfl
theorem aQx : gH Tryz.prog 57 = true := by kernel_rfl
theorem aKx : eC Tryz.prog 59 4 14 = true := by kernel_rfl
theorem aVq : eC Tryz.prog 61 2 2 = true := by kernel_rfl
theorem aLd : aP Tryz.prog 32 = true := by kernel_rfl
theorem aYy : aP Tryz.prog 58 = true := by kernel_rfl
theorem aYh : aP Tryz.prog 56 = true := by kernel_rfl
theorem aYg : aP Tryz.prog 57 = true := by kernel_rfl
theorem aYw : aP Tryz.prog 34 = true := by kernel_rfl
theorem aYn : aP Tryz.prog 35 = true := by kernel_rfl
theorem rK : eH Tryz.prog 48 59 15 88 = true := by kernel_rfl
theorem aRf : fH Tryz.prog 56 = some [.slice none 0 0, .map none] := by kernel_rfl
theorem aYp : aP Tryz.prog 25 = true := by kernel_rfl
theorem bDl : aP Tryz.prog 26 = true := by kernel_rfl
theorem bDg : aP Tryz.prog 27 = true := by kernel_rfl
theorem aYl : gL Tryz.prog 59 = some 15 := by kernel_rfl
theorem aYm : aP Tryz.prog 28 = true := by kernel_rfl
end Go.Proofs.YtlmcphcgiclanaaGreatDoor

namespace Go.Proofs.YtlmcphcgiclanaaGreatDoor
open Go.Bil
open Go.RowKit (Below)
open Go.Proofs
set_option maxHeartbeats 4000000 in
theorem nB (w : World) (n l : Int) (h0 : 0 ≤ l) (h1 : l ≤ 2147483647) :
  Calls Tryz.prog 55 #[.int .i32 n, .int .i32 l] w (fun ex w' => ∃ v, ex = .returned v ∧ (fun v w' => v = .bool (decide (rF n l)) ∧ Below w.heap.size w w') v w') := by
 have hneg : IntKind.i32.wrap (-l) = -l := lI _ (by omega) (by omega)
 refine aH #[.tmp 4] 14 Tryz.func55 rfl Tryz.results55 Tryz.ntmps55 rfl ?_
 have M0 := Mem.refl w
 refine aD (aA (wq (aI (.bool false) rfl) rfl (aB (aC (aD (aA (aV rfl rfl (aV rfl rfl (wq (xZ rfl) rfl ?_)))))))))
 refine aS 7 (.int .i32 (-l)) (iE hneg) (cQ rfl rfl rfl rfl (wq (aG (.bool (decide _)) rfl) rfl ?_))
 refine cC 9 rfl (fun g9 => ?_) (fun g9 => ?_)
 ·refine aV rfl rfl (aV rfl rfl (cQ rfl rfl rfl rfl (wq (aX true (.bool (decide _)) rfl rfl) rfl (wq (aI (.bool (decide _)) rfl) rfl (aB (aC (aN ?_)))))))
  refine bV (.bool (decide _)) rfl ?_
  exact ⟨by unfold rF; first | exact bF (by omega) | exact bD (by omega), M0.below⟩
 ·refine aK rfl rfl (aK rfl rfl (aK rfl rfl (wq (aX false (.bool false) rfl rfl) rfl (wq (aI (.bool false) rfl) rfl (aB (aC (aN ?_)))))))
  refine bV (.bool false) rfl ?_
  exact ⟨by unfold rF; first | exact bF (by omega) | exact bD (by omega), M0.below⟩
set_option maxHeartbeats 4000000 in
theorem aEq (w : World) (b : Body) :
  Calls Tryz.prog 24 #[(.agg (aF b).toArray)] w (fun ex w' => ∃ v, ex = .returned v ∧ (fun v w' => v = .int .i64 (check b) ∧ Below w.heap.size w w') v w') := by
 refine aH #[.tmp 2] 63 Tryz.func24 rfl Tryz.results24 Tryz.ntmps24 rfl ?_
 have M0 := Mem.refl w
 refine aD (aA (bN (.agg (List.toArray _)) M0 rfl rfl rfl (fun b1 w1 M1 => (bI rfl rfl (aB (aC (aD (aD (aA (wq (aE 1 kQ rfl) rfl (wq (aO 0 (.int _ _) aT M1 rfl rfl rfl) rfl ?_)))))))))))
 refine cQ rfl rfl rfl rfl (wq (aG (.bool (decide _)) rfl) rfl ?_)
 refine cC 6 rfl (fun g6 => ?_) (fun g6 => ?_)
 ·refine aK rfl rfl (aK rfl rfl (aK rfl rfl (wq (aX true (.bool true) rfl rfl) rfl (aB (aC (cK rfl ?_))))))
  refine aD (aA (bI rfl rfl (aB (aC (aN (bZ (bV (.int _ _) rfl ?_)))))))
  exact ⟨iE (by unfold check; unfold rF at *; (repeat' split) <;> omega), M1.below⟩
 ·refine wq (aE 1 kQ rfl) rfl (wq (aO 0 (.int _ _) aT M1 rfl rfl rfl) rfl (cQ rfl rfl rfl rfl (wq (aX false (.bool (decide _)) rfl rfl) rfl (aB (aC ?_)))))
  refine aW rfl (fun h10 => ?_) (fun h10 => ?_)
  ·refine aD (aA (bI rfl rfl (aB (aC (aN (bZ (bV (.int _ _) rfl ?_)))))))
   exact ⟨iE (by unfold check; unfold rF at *; (repeat' split) <;> omega), M1.below⟩
  ·refine aL (aC (aD (aD (aA (wq (aE 2 jK rfl) rfl (wq (aE 0 dJ rfl) rfl (wq (aO 0 (.int _ _) aT M1 rfl rfl rfl) rfl (cA aBq rfl rfl (nB _ _ _ (by omega) (by omega)) ?_))))))))
   rintro v2 w2 ⟨rfl, hb2⟩
   have M2 := M1.callB hb2
   refine wq (kP rfl) rfl (wq (aG (.bool (decide _)) rfl) rfl ?_)
   refine cC 16 rfl (fun g16 => ?_) (fun g16 => ?_)
   ·refine aK rfl rfl (aK rfl rfl (aK rfl rfl (aK rfl rfl (aK rfl rfl (wq (aX true (.bool true) rfl rfl) rfl ?_)))))
    refine aB (aC (cK rfl (aD (aA (bI rfl rfl (aB (aC (aN (bZ (bV (.int _ _) rfl ?_))))))))))
    exact ⟨iE (by unfold check; unfold rF at *; (repeat' split) <;> omega), M2.below⟩
   ·refine wq (aE 2 jK rfl) rfl (wq (aE 1 dB rfl) rfl (wq (aO 0 (.int _ _) aT M2 rfl rfl rfl) rfl (cA aBq rfl rfl (nB _ _ _ (by omega) (by omega)) ?_)))
    rintro v3 w3 ⟨rfl, hb3⟩
    have M3 := M2.callB hb3
    refine wq (kP rfl) rfl (wq (aX false (.bool (decide _)) rfl rfl) rfl (aB (aC ?_)))
    refine aW rfl (fun h22 => ?_) (fun h22 => ?_)
    ·refine aD (aA (bI rfl rfl (aB (aC (aN (bZ (bV (.int _ _) rfl ?_)))))))
     exact ⟨iE (by unfold check; unfold rF at *; (repeat' split) <;> omega), M3.below⟩
    ·refine aL (aC (aD (aD (aA (wq (aE 4 eQ rfl) rfl (wq (aO 0 (.int _ _) aT M3 rfl rfl rfl) rfl (cQ rfl rfl rfl rfl (wq (aG (.bool (decide _)) rfl) rfl ?_))))))))
     refine cC 26 rfl (fun g26 => ?_) (fun g26 => ?_)
     ·refine aK rfl rfl (aK rfl rfl (aK rfl rfl (wq (aX true (.bool true) rfl rfl) rfl (aB (aC (cK rfl ?_))))))
      refine aD (aA (bI rfl rfl (aB (aC (aN (bZ (bV (.int _ _) rfl ?_)))))))
      exact ⟨iE (by unfold check; unfold rF at *; (repeat' split) <;> omega), M3.below⟩
     ·refine wq (aE 4 eQ rfl) rfl (wq (aO 0 (.int _ _) aT M3 rfl rfl rfl) rfl (cQ rfl rfl rfl rfl (wq (aX false (.bool (decide _)) rfl rfl) rfl (aB (aC ?_)))))
      refine aW rfl (fun h30 => ?_) (fun h30 => ?_)
      ·refine aD (aA (bI rfl rfl (aB (aC (aN (bZ (bV (.int _ _) rfl ?_)))))))
       exact ⟨iE (by unfold check; unfold rF at *; (repeat' split) <;> omega), M3.below⟩
      ·refine aL (aC (aD (aD (aA (wq (aE 5 nO rfl) rfl (wq (aO 0 (.int _ _) aT M3 rfl rfl rfl) rfl (cQ rfl rfl rfl rfl (wq (aG (.bool (decide _)) rfl) rfl ?_))))))))
       refine cC 34 rfl (fun g34 => ?_) (fun g34 => ?_)
       ·refine aK rfl rfl (aK rfl rfl (aK rfl rfl (wq (aX true (.bool true) rfl rfl) rfl (aB (aC (cK rfl ?_))))))
        refine aD (aA (bI rfl rfl (aB (aC (aN (bZ (bV (.int _ _) rfl ?_)))))))
        exact ⟨iE (by unfold check; unfold rF at *; (repeat' split) <;> omega), M3.below⟩
       ·refine wq (aE 5 nO rfl) rfl (wq (aO 0 (.int _ _) aT M3 rfl rfl rfl) rfl (cQ rfl rfl rfl rfl (wq (aX false (.bool (decide _)) rfl rfl) rfl (aB (aC ?_)))))
        refine aW rfl (fun h38 => ?_) (fun h38 => ?_)
        ·refine aD (aA (bI rfl rfl (aB (aC (aN (bZ (bV (.int _ _) rfl ?_)))))))
         exact ⟨iE (by unfold check; unfold rF at *; (repeat' split) <;> omega), M3.below⟩
        ·refine aL (aC (aD (aD (aA (wq (aE 6 fJ rfl) rfl (wq (aE 0 dJ rfl) rfl (wq (aO 0 (.int _ _) aT M3 rfl rfl rfl) rfl (cA aBq rfl rfl (nB _ _ _ (by omega) (by omega)) ?_))))))))
         rintro v4 w4 ⟨rfl, hb4⟩
         have M4 := M3.callB hb4
         refine wq (kP rfl) rfl (wq (aG (.bool (decide _)) rfl) rfl ?_)
         refine cC 44 rfl (fun g44 => ?_) (fun g44 => ?_)
         ·refine aK rfl rfl (aK rfl rfl (aK rfl rfl (aK rfl rfl (aK rfl rfl (wq (aX true (.bool true) rfl rfl) rfl ?_)))))
          refine aB (aC (cK rfl (aD (aA (bI rfl rfl (aB (aC (aN (bZ (bV (.int _ _) rfl ?_))))))))))
          exact ⟨iE (by unfold check; unfold rF at *; (repeat' split) <;> omega), M4.below⟩
         ·refine wq (aE 6 fJ rfl) rfl (wq (aE 1 dB rfl) rfl (wq (aO 0 (.int _ _) aT M4 rfl rfl rfl) rfl (cA aBq rfl rfl (nB _ _ _ (by omega) (by omega)) ?_)))
          rintro v5 w5 ⟨rfl, hb5⟩
          have M5 := M4.callB hb5
          refine wq (kP rfl) rfl (wq (aX false (.bool (decide _)) rfl rfl) rfl (aB (aC ?_)))
          refine aW rfl (fun h50 => ?_) (fun h50 => ?_)
          ·refine aD (aA (bI rfl rfl (aB (aC (aN (bZ (bV (.int _ _) rfl ?_)))))))
           exact ⟨iE (by unfold check; unfold rF at *; (repeat' split) <;> omega), M5.below⟩
          ·refine aL (aC (aD (aD (aA (wq (aE 8 eS rfl) rfl (wq (aE 0 dJ rfl) rfl (wq (aO 0 (.int _ _) aT M5 rfl rfl rfl) rfl (cA aBq rfl rfl (nB _ _ _ (by omega) (by omega)) ?_))))))))
           rintro v6 w6 ⟨rfl, hb6⟩
           have M6 := M5.callB hb6
           refine wq (kP rfl) rfl (wq (aG (.bool (decide _)) rfl) rfl ?_)
           refine cC 56 rfl (fun g56 => ?_) (fun g56 => ?_)
           ·refine aK rfl rfl (aK rfl rfl (aK rfl rfl (aK rfl rfl (aK rfl rfl (wq (aX true (.bool true) rfl rfl) rfl ?_)))))
            refine aB (aC (cK rfl (aD (aA (bI rfl rfl (aB (aC (aN (bZ (bV (.int _ _) rfl ?_))))))))))
            exact ⟨iE (by unfold check; unfold rF at *; (repeat' split) <;> omega), M6.below⟩
           ·refine wq (aE 8 eS rfl) rfl (wq (aE 1 dB rfl) rfl (wq (aO 0 (.int _ _) aT M6 rfl rfl rfl) rfl (cA aBq rfl rfl (nB _ _ _ (by omega) (by omega)) ?_)))
            rintro v7 w7 ⟨rfl, hb7⟩
            have M7 := M6.callB hb7
            refine wq (kP rfl) rfl (wq (aX false (.bool (decide _)) rfl rfl) rfl (aB (aC ?_)))
            refine aW rfl (fun h62 => ?_) (fun h62 => ?_)
            ·refine aD (aA (bI rfl rfl (aB (aC (aN (bZ (bV (.int _ _) rfl ?_)))))))
             exact ⟨iE (by unfold check; unfold rF at *; (repeat' split) <;> omega), M7.below⟩
            ·refine aL (aC (aD (aA (bI rfl rfl (aB (aC (aN (bV (.int _ _) rfl ?_))))))))
             exact ⟨iE (by unfold check; unfold rF at *; (repeat' split) <;> omega), M7.below⟩
theorem bCs (a b : Body) : EqA Tryz.prog 40 (aF a) (aF b) (decide (a = b)) := by
 have h := bDq a.key a.radius a.ax a.ay a.mass a.bounce a.px a.py a.vx a.vy b.key b.radius b.ax b.ay b.mass b.bounce b.px b.py b.vx b.vy
 rw [decide_eq_decide.2 (aRe (a := a) (b := b))]
 exact h
set_option maxHeartbeats 4000000 in
theorem fK (w : World) (A : Option Addr) (n c : Nat) (xs : List Body) (R : Rd w 10 A n (xs.map aF)) (B : Option Addr) (m c' : Nat) (ys : List Body) (R' : Rd w 10 B m (ys.map aF)) :
  Calls Tryz.prog 18 #[.slice A n c, .slice B m c'] w (fun ex w' => ∃ v, ex = .returned v ∧ (fun v w' => v = .bool (decide (xs = ys)) ∧ Below w.heap.size w w') v w') := by
 have hlen : xs.length = n := by simpa using R.len
 have hbd := R.bound
 have hlen' : ys.length = m := by simpa using R'.len
 have hbd' := R'.bound
 refine aH #[.tmp 4] 26 Tryz.func18 rfl Tryz.results18 Tryz.ntmps18 rfl ?_
 have M0 := Mem.refl w
 refine aD (aA (wq (aI (.bool false) rfl) rfl (aB (aC (aD (aD (aA (dM rfl rfl (wq (cS Tryz.underlying22 rfl) rfl (dM rfl rfl ?_))))))))))
 refine wq (cS Tryz.underlying22 rfl) rfl (cQ rfl rfl rfl rfl (aB (aC ?_)))
 refine aW rfl (fun h10 => ?_) (fun h10 => ?_)
 ·refine aD (aA (wq (aI (.bool false) rfl) rfl (aB (aC (aN (bZ (bV (.bool false) rfl ?_)))))))
  exact ⟨bF (fun e => h10 (by rw [← hlen, ← hlen', e])), M0.below⟩
 ·have hnm : n = m := by omega
  refine aL (aC (aD (aD (aA (bI rfl rfl (aB (aC (aU (dO (σ := Nat) [0, 1] (fun k => [(5, .int .i64 (k : Int))]) (fun k w' => (k ≤ n ∧ ∀ (j : Nat) (x : Body), j < k → xs[j]? = some x → ys[j]? = some x) ∧ Mem w [] [] w') (fun k => n - k) 0 (bM rfl eP) (⟨⟨by omega, fun j c hj => by omega⟩, M0⟩) ?_)))))))))
  rintro k ρ1 w1 ⟨⟨hk, hne⟩, hM1⟩
  refine aD (aD (aA (aV rfl rfl (dM rfl rfl (wq (cS Tryz.underlying22 rfl) rfl (cQ rfl rfl rfl rfl (aB (aC ?_))))))))
  refine aW rfl (fun h14 => ?_) (fun h14 => ?_)
  ·obtain ⟨xb, hxb⟩ := cM (k := k) hlen (by omega)
   obtain ⟨yb, hyb⟩ := cM (k := k) hlen' (by omega)
   refine aL (aC (aD (aU (aD (bX [(0, 0), (1, 0), (2, 1), (3, 1), (4, 0), (5, 0), (6, 1), (7, 1), (8, 0)] mixed rfl (by kernel_rfl) (fun w2 hb2 hh2 => ?_))))))
   have M2 := hM1.drew hb2 hh2
   refine DmS rfl rfl rfl (gW rfl rfl rfl (cD rfl rfl rfl (bP (k) eV rfl rfl rfl ((R.mem M2).below_len (aJ aF hxb)) ((R.mem M2).someK (aJ aF hxb))) (cD rfl rfl rfl (dW _ bO (R.mem M2) (aJ aF hxb) rfl) (DmS rfl rfl rfl (gW rfl rfl rfl ?_)))))
   refine cD rfl rfl rfl (bP (k) eV rfl rfl rfl ((R'.mem M2).below_len (aJ aF hyb)) ((R'.mem M2).someK (aJ aF hyb))) (cD rfl rfl rfl (dW _ bO (R'.mem M2) (aJ aF hyb) rfl) (bA rfl rfl rfl (fun _ => bDn (bCs xb yb) rfl rfl) (cH (aC ?_))))
   refine aW rfl (fun h25 => ?_) (fun h25 => ?_)
   ·refine aD (aA (wq (aI (.bool false) rfl) rfl (aB (aC (aN (iM (bZ (oI ?_))))))))
    refine iM (bZ (bV (.bool false) rfl ?_))
    exact ⟨bF (fun e => h25 (by rw [e] at hxb; rw [hxb] at hyb; injection hyb)), M2.below⟩
   ·refine aL (cU (aC (aA (aV rfl rfl (wq (bL rfl rfl (by omega) (by omega)) rfl (bI rfl rfl ?_))))))
    refine aB ?_
    refine cI (k + 1) (bM rfl eP) (cV rfl (cV rfl iZ)) ?_ ?_
    ·exact ⟨⟨by omega, pU (p := fun j x => ys[j]? = some x) hne hxb (by rw [hyb, Decidable.not_not.1 h25])⟩, M2⟩
    ·omega
  ·refine cP (cZ (cX (fA (aC (aD (aA (wq (aI (.bool true) rfl) rfl ?_)))))))
   refine aB (aC (aN (bV (.bool true) rfl ?_)))
   exact ⟨bT (List.ext_getElem? fun j => by
   by_cases hj : j < xs.length
   ·obtain ⟨x, hx⟩ := cM (k := j) rfl hj
    rw [hx, hne j x (by omega) hx]
   ·rw [List.getElem?_eq_none (by omega), List.getElem?_eq_none (by omega)]), hM1.below⟩
set_option maxHeartbeats 4000000 in
theorem pB (w : World) (x y l : Int) (h0 : 0 ≤ l) (h1 : l ≤ 2147483647) :
  Calls Tryz.prog 124 #[.agg [.int .i32 x, .int .i32 y].toArray, .int .i32 l] w (fun ex w' => ∃ v, ex = .returned v ∧ (fun v w' => v = .bool (decide (-l ≤ x ∧ x ≤ l ∧ -l ≤ y ∧ y ≤ l)) ∧ Below w.heap.size w w') v w') := by
 have hneg : IntKind.i32.wrap (-l) = -l := lI _ (by omega) (by omega)
 refine aH #[.tmp 4] 29 Tryz.func124 rfl Tryz.results124 Tryz.ntmps124 rfl ?_
 have M0 := Mem.refl w
 refine aD (aA (bN (.agg (List.toArray _)) M0 rfl rfl rfl (fun b1 w1 M1 => (wq (aI (.bool false) rfl) rfl (aB (aC (aD (aA (aV rfl rfl (wq (xZ rfl) rfl ?_))))))))))
 refine aS 6 (.int .i32 (-l)) (iE hneg) (wq (aE 0 dJ rfl) rfl (wq (aO 0 (.int _ _) aT M1 rfl rfl rfl) rfl (cQ rfl rfl rfl rfl (wq (aG (.bool (decide _)) rfl) rfl ?_))))
 refine cC 10 rfl (fun g10 => ?_) (fun g10 => ?_)
 ·refine wq (aE 0 dJ rfl) rfl (wq (aO 0 (.int _ _) aT M1 rfl rfl rfl) rfl (aV rfl rfl (cQ rfl rfl rfl rfl (wq (aX true (.bool (decide _)) rfl rfl) rfl (wq (aG (.bool (decide _)) rfl) rfl ?_)))))
  refine cC 16 rfl (fun g16 => ?_) (fun g16 => ?_)
  ·refine aV rfl rfl (wq (xZ rfl) rfl (aS 18 (.int .i32 (-l)) (iE hneg) (wq (aE 1 dB rfl) rfl (wq (aO 0 (.int _ _) aT M1 rfl rfl rfl) rfl (cQ rfl rfl rfl rfl ?_)))))
   refine wq (aX true (.bool (decide _)) rfl rfl) rfl (wq (aG (.bool (decide _)) rfl) rfl ?_)
   refine cC 23 rfl (fun g23 => ?_) (fun g23 => ?_)
   ·refine wq (aE 1 dB rfl) rfl (wq (aO 0 (.int _ _) aT M1 rfl rfl rfl) rfl (aV rfl rfl (cQ rfl rfl rfl rfl (wq (aX true (.bool (decide _)) rfl rfl) rfl (wq (aI (.bool (decide _)) rfl) rfl ?_)))))
    refine aB (aC (aN (bV (.bool (decide _)) rfl ?_)))
    exact ⟨by first | exact bF (by omega) | exact bT (by omega) | exact bD (by omega), M1.below⟩
   ·refine aK rfl rfl (aK rfl rfl (aK rfl rfl (aK rfl rfl (wq (aX false (.bool false) rfl rfl) rfl (wq (aI (.bool false) rfl) rfl ?_)))))
    refine aB (aC (aN (bV (.bool false) rfl ?_)))
    exact ⟨by first | exact bF (by omega) | exact bT (by omega) | exact bD (by omega), M1.below⟩
  ·refine aK rfl rfl (aK rfl rfl (aK rfl rfl (aK rfl rfl (aK rfl rfl (wq (aX false (.bool false) rfl rfl) rfl ?_)))))
   refine wq (aG (.bool false) rfl) rfl (aK rfl rfl (aK rfl rfl (aK rfl rfl (aK rfl rfl (wq (aX false (.bool false) rfl rfl) rfl ?_)))))
   refine wq (aI (.bool false) rfl) rfl (aB (aC (aN (bV (.bool false) rfl ?_))))
   exact ⟨by first | exact bF (by omega) | exact bT (by omega) | exact bD (by omega), M1.below⟩
 ·refine aK rfl rfl (aK rfl rfl (aK rfl rfl (aK rfl rfl (wq (aX false (.bool false) rfl rfl) rfl (wq (aG (.bool false) rfl) rfl ?_)))))
  refine aK rfl rfl (aK rfl rfl (aK rfl rfl (aK rfl rfl (aK rfl rfl (wq (aX false (.bool false) rfl rfl) rfl ?_)))))
  refine wq (aG (.bool false) rfl) rfl (aK rfl rfl (aK rfl rfl (aK rfl rfl (aK rfl rfl (wq (aX false (.bool false) rfl rfl) rfl ?_)))))
  refine wq (aI (.bool false) rfl) rfl (aB (aC (aN (bV (.bool false) rfl ?_))))
  exact ⟨by first | exact bF (by omega) | exact bT (by omega) | exact bD (by omega), M1.below⟩
set_option maxHeartbeats 4000000 in
theorem aEa (w : World) (b : Body) (p : Nat) (R : Rd w 10 (some ⟨p, 0, none⟩) 1 [aF b]) :
  Calls Tryz.prog 122 #[.pointer (some ⟨p, 0, none⟩)] w (fun ex w' => ∃ v, ex = .returned v ∧ (fun v w' => v = .bool (decide (4096 ≤ b.radius ∧ b.radius ≤ 4194304)) ∧ Below w.heap.size w w') v w') := by
 rw [← eN p]
 refine aH #[.tmp 1] 10 Tryz.func122 rfl Tryz.results122 Tryz.ntmps122 rfl ?_
 have M0 := Mem.refl w
 refine aD (aA (wq (aI (.bool false) rfl) rfl (aB (aC (aD (aA (wq (bG 1 kQ R (Nat.lt_of_le_of_lt (Nat.zero_le _) (R.below_len (show [aF b][0]? = some (aF b) from rfl))) rfl) rfl (wq (dR (o := 1) (.int _ _) aT R (show [aF b][0]? = some (aF b) from rfl) rfl rfl) rfl ?_))))))))
 refine cQ rfl rfl rfl rfl (wq (aG (.bool (decide _)) rfl) rfl ?_)
 refine cC 5 rfl (fun g5 => ?_) (fun g5 => ?_)
 ·refine wq (bG 1 kQ R (Nat.lt_of_le_of_lt (Nat.zero_le _) (R.below_len (show [aF b][0]? = some (aF b) from rfl))) rfl) rfl (wq (dR (o := 1) (.int _ _) aT R (show [aF b][0]? = some (aF b) from rfl) rfl rfl) rfl (cQ rfl rfl rfl rfl (wq (aX true (.bool (decide _)) rfl rfl) rfl ?_)))
  refine wq (aI (.bool (decide _)) rfl) rfl (aB (aC (aN (bV (.bool (decide _)) rfl ?_))))
  exact ⟨by first | exact bF (by omega) | exact bT (by omega) | exact bD (by omega), M0.below⟩
 ·refine aK rfl rfl (aK rfl rfl (aK rfl rfl (wq (aX false (.bool false) rfl rfl) rfl (wq (aI (.bool false) rfl) rfl (aB (aC (aN ?_)))))))
  refine bV (.bool false) rfl ?_
  exact ⟨by first | exact bF (by omega) | exact bT (by omega) | exact bD (by omega), M0.below⟩
set_option maxHeartbeats 4000000 in
theorem aFu (w : World) (b : Body) (p : Nat) (R : Rd w 10 (some ⟨p, 0, none⟩) 1 [aF b]) :
  Calls Tryz.prog 123 #[.pointer (some ⟨p, 0, none⟩)] w (fun ex w' => ∃ v, ex = .returned v ∧ (fun v w' => v = .bool (decide (-4194304 ≤ b.ax ∧ b.ax ≤ 4194304 ∧ -4194304 ≤ b.ay ∧ b.ay ≤ 4194304)) ∧ Below w.heap.size w w') v w') := by
 rw [← eN p]
 refine aH #[.tmp 1] 5 Tryz.func123 rfl Tryz.results123 Tryz.ntmps123 rfl ?_
 have M0 := Mem.refl w
 refine aD (aA (wq (aI (.bool false) rfl) rfl (aB (aC (aD (aA (wq (bG 2 jK R (Nat.lt_of_le_of_lt (Nat.zero_le _) (R.below_len (show [aF b][0]? = some (aF b) from rfl))) rfl) rfl (wq (xH (o := 2) _ bK R (show [aF b][0]? = some (aF b) from rfl) rfl rfl rfl) rfl ?_))))))))
 refine cA aHz rfl rfl (pB _ _ _ _ (by omega) (by omega)) ?_
 rintro v1 w1 ⟨rfl, hb1⟩
 have M1 := M0.callB hb1
 refine wq (aI (.bool (decide _)) rfl) rfl (aB (aC (aN (bV (.bool (decide _)) rfl ?_))))
 exact ⟨by first | exact bF (by omega) | exact bT (by omega) | exact bD (by omega), M1.below⟩
set_option maxHeartbeats 4000000 in
theorem aEx (w : World) (b : Body) (p : Nat) (R : Rd w 10 (some ⟨p, 0, none⟩) 1 [aF b]) :
  Calls Tryz.prog 125 #[.pointer (some ⟨p, 0, none⟩)] w (fun ex w' => ∃ v, ex = .returned v ∧ (fun v w' => v = .bool (decide (0 ≤ b.mass ∧ b.mass ≤ 1048576)) ∧ Below w.heap.size w w') v w') := by
 rw [← eN p]
 refine aH #[.tmp 1] 10 Tryz.func125 rfl Tryz.results125 Tryz.ntmps125 rfl ?_
 have M0 := Mem.refl w
 refine aD (aA (wq (aI (.bool false) rfl) rfl (aB (aC (aD (aA (wq (bG 4 eQ R (Nat.lt_of_le_of_lt (Nat.zero_le _) (R.below_len (show [aF b][0]? = some (aF b) from rfl))) rfl) rfl (wq (dR (o := 4) (.int _ _) aT R (show [aF b][0]? = some (aF b) from rfl) rfl rfl) rfl ?_))))))))
 refine cQ rfl rfl rfl rfl (wq (aG (.bool (decide _)) rfl) rfl ?_)
 refine cC 5 rfl (fun g5 => ?_) (fun g5 => ?_)
 ·refine wq (bG 4 eQ R (Nat.lt_of_le_of_lt (Nat.zero_le _) (R.below_len (show [aF b][0]? = some (aF b) from rfl))) rfl) rfl (wq (dR (o := 4) (.int _ _) aT R (show [aF b][0]? = some (aF b) from rfl) rfl rfl) rfl (cQ rfl rfl rfl rfl (wq (aX true (.bool (decide _)) rfl rfl) rfl ?_)))
  refine wq (aI (.bool (decide _)) rfl) rfl (aB (aC (aN (bV (.bool (decide _)) rfl ?_))))
  exact ⟨by first | exact bF (by omega) | exact bT (by omega) | exact bD (by omega), M0.below⟩
 ·refine aK rfl rfl (aK rfl rfl (aK rfl rfl (wq (aX false (.bool false) rfl rfl) rfl (wq (aI (.bool false) rfl) rfl (aB (aC (aN ?_)))))))
  refine bV (.bool false) rfl ?_
  exact ⟨by first | exact bF (by omega) | exact bT (by omega) | exact bD (by omega), M0.below⟩
set_option maxHeartbeats 4000000 in
theorem aEv (w : World) (b : Body) (p : Nat) (R : Rd w 10 (some ⟨p, 0, none⟩) 1 [aF b]) :
  Calls Tryz.prog 126 #[.pointer (some ⟨p, 0, none⟩)] w (fun ex w' => ∃ v, ex = .returned v ∧ (fun v w' => v = .bool (decide (0 ≤ b.bounce ∧ b.bounce ≤ 65536)) ∧ Below w.heap.size w w') v w') := by
 rw [← eN p]
 refine aH #[.tmp 1] 10 Tryz.func126 rfl Tryz.results126 Tryz.ntmps126 rfl ?_
 have M0 := Mem.refl w
 refine aD (aA (wq (aI (.bool false) rfl) rfl (aB (aC (aD (aA (wq (bG 5 nO R (Nat.lt_of_le_of_lt (Nat.zero_le _) (R.below_len (show [aF b][0]? = some (aF b) from rfl))) rfl) rfl (wq (dR (o := 5) (.int _ _) aT R (show [aF b][0]? = some (aF b) from rfl) rfl rfl) rfl ?_))))))))
 refine cQ rfl rfl rfl rfl (wq (aG (.bool (decide _)) rfl) rfl ?_)
 refine cC 5 rfl (fun g5 => ?_) (fun g5 => ?_)
 ·refine wq (bG 5 nO R (Nat.lt_of_le_of_lt (Nat.zero_le _) (R.below_len (show [aF b][0]? = some (aF b) from rfl))) rfl) rfl (wq (dR (o := 5) (.int _ _) aT R (show [aF b][0]? = some (aF b) from rfl) rfl rfl) rfl (cQ rfl rfl rfl rfl (wq (aX true (.bool (decide _)) rfl rfl) rfl ?_)))
  refine wq (aI (.bool (decide _)) rfl) rfl (aB (aC (aN (bV (.bool (decide _)) rfl ?_))))
  exact ⟨by first | exact bF (by omega) | exact bT (by omega) | exact bD (by omega), M0.below⟩
 ·refine aK rfl rfl (aK rfl rfl (aK rfl rfl (wq (aX false (.bool false) rfl rfl) rfl (wq (aI (.bool false) rfl) rfl (aB (aC (aN ?_)))))))
  refine bV (.bool false) rfl ?_
  exact ⟨by first | exact bF (by omega) | exact bT (by omega) | exact bD (by omega), M0.below⟩
set_option maxHeartbeats 4000000 in
theorem aDz (w : World) (b : Body) (p : Nat) (R : Rd w 10 (some ⟨p, 0, none⟩) 1 [aF b]) :
  Calls Tryz.prog 127 #[.pointer (some ⟨p, 0, none⟩)] w (fun ex w' => ∃ v, ex = .returned v ∧ (fun v w' => v = .bool (decide (-1073741824 ≤ b.px ∧ b.px ≤ 1073741824 ∧ -1073741824 ≤ b.py ∧ b.py ≤ 1073741824)) ∧ Below w.heap.size w w') v w') := by
 rw [← eN p]
 refine aH #[.tmp 1] 5 Tryz.func127 rfl Tryz.results127 Tryz.ntmps127 rfl ?_
 have M0 := Mem.refl w
 refine aD (aA (wq (aI (.bool false) rfl) rfl (aB (aC (aD (aA (wq (bG 6 fJ R (Nat.lt_of_le_of_lt (Nat.zero_le _) (R.below_len (show [aF b][0]? = some (aF b) from rfl))) rfl) rfl (wq (xH (o := 6) _ bK R (show [aF b][0]? = some (aF b) from rfl) rfl rfl rfl) rfl ?_))))))))
 refine cA aHz rfl rfl (pB _ _ _ _ (by omega) (by omega)) ?_
 rintro v1 w1 ⟨rfl, hb1⟩
 have M1 := M0.callB hb1
 refine wq (aI (.bool (decide _)) rfl) rfl (aB (aC (aN (bV (.bool (decide _)) rfl ?_))))
 exact ⟨by first | exact bF (by omega) | exact bT (by omega) | exact bD (by omega), M1.below⟩
set_option maxHeartbeats 4000000 in
theorem aFf (w : World) (b : Body) (p : Nat) (R : Rd w 10 (some ⟨p, 0, none⟩) 1 [aF b]) :
  Calls Tryz.prog 128 #[.pointer (some ⟨p, 0, none⟩)] w (fun ex w' => ∃ v, ex = .returned v ∧ (fun v w' => v = .bool (decide (-16777216 ≤ b.vx ∧ b.vx ≤ 16777216 ∧ -16777216 ≤ b.vy ∧ b.vy ≤ 16777216)) ∧ Below w.heap.size w w') v w') := by
 rw [← eN p]
 refine aH #[.tmp 1] 5 Tryz.func128 rfl Tryz.results128 Tryz.ntmps128 rfl ?_
 have M0 := Mem.refl w
 refine aD (aA (wq (aI (.bool false) rfl) rfl (aB (aC (aD (aA (wq (bG 8 eS R (Nat.lt_of_le_of_lt (Nat.zero_le _) (R.below_len (show [aF b][0]? = some (aF b) from rfl))) rfl) rfl (wq (xH (o := 8) _ bK R (show [aF b][0]? = some (aF b) from rfl) rfl rfl rfl) rfl ?_))))))))
 refine cA aHz rfl rfl (pB _ _ _ _ (by omega) (by omega)) ?_
 rintro v1 w1 ⟨rfl, hb1⟩
 have M1 := M0.callB hb1
 refine wq (aI (.bool (decide _)) rfl) rfl (aB (aC (aN (bV (.bool (decide _)) rfl ?_))))
 exact ⟨by first | exact bF (by omega) | exact bT (by omega) | exact bD (by omega), M1.below⟩
set_option maxHeartbeats 4000000 in
theorem qW (w : World) (b : Body) :
  Calls Tryz.prog 98 #[(.agg (aF b).toArray)] w (fun ex w' => ∃ v, ex = .returned v ∧ (fun v w' => v = .int .i64 (check b) ∧ Below w.heap.size w w') v w') := by
 refine aH #[.tmp 2] 28 Tryz.func98 rfl Tryz.results98 Tryz.ntmps98 rfl ?_
 have M0 := Mem.refl w
 refine aD (aA (bN (.agg (List.toArray _)) M0 rfl rfl rfl (fun b1 w1 M1 => (bI rfl rfl (aB (aC (aD (aD (aA (wq (cR [] [.pointer _] rfl rfl) rfl (wq (cN [(0, .func _ _ _), (1, .int _ _)] _ kU rfl rfl) rfl ?_)))))))))))
 refine wq (cR [] [.pointer _] rfl rfl) rfl (wq (cN [(0, .func _ _ _), (1, .int _ _)] _ kU rfl rfl) rfl (wq (cR [] [.pointer _] rfl rfl) rfl (wq (cN [(0, .func _ _ _), (1, .int _ _)] _ kU rfl rfl) rfl (wq (cR [] [.pointer _] rfl rfl) rfl (wq (cN [(0, .func _ _ _), (1, .int _ _)] _ kU rfl rfl) rfl ?_)))))
 refine wq (cR [] [.pointer _] rfl rfl) rfl (wq (cN [(0, .func _ _ _), (1, .int _ _)] _ kU rfl rfl) rfl (wq (cR [] [.pointer _] rfl rfl) rfl (wq (cN [(0, .func _ _ _), (1, .int _ _)] _ kU rfl rfl) rfl (wq (oK [.agg (List.toArray _), .agg (List.toArray _), .agg (List.toArray _), .agg (List.toArray _), .agg (List.toArray _), .agg (List.toArray _)] qT aUq rfl rfl (dI rfl)) rfl ?_))))
 refine aV rfl rfl (aB (aC (aU (lH 7 (gP (aD (aA (cQ rfl rfl rfl rfl (kE 19 rfl (by first | decide | omega) ?_)))))))))
 refine aB (aC (aD (cK rfl (aL (aC (aD (aU (aD (aA (wq (mH 0 _ qT kG rfl rfl (by decide) (by decide) rfl rfl) rfl (aR pP M1 rfl rfl (fun b2 w2 M2 => (bE 1 _ kG M2 rfl rfl rfl rfl rfl (aQ rfl) rfl (fun w3 M3 => ?_))))))))))))))
 refine aB (aC (aD (aA (wq (aE 0 mJ rfl) rfl (wq (aO 1 (.func _ _ _) aAl M3 rfl rfl rfl) rfl (cA aZp rfl rfl (aEa _ b _ (lR 0 M3 rfl rfl)) ?_))))))
 rintro v4 w4 ⟨rfl, hb4⟩
 have M4 := M3.callB hb4
 refine wq (kP rfl) rfl (aB (aC ?_))
 refine aW rfl (fun h24 => ?_) (fun h24 => ?_)
 ·refine aD (aA (wq (aE 1 mW rfl) rfl (wq (aO 1 (.int _ _) aAh M4 rfl rfl rfl) rfl (bI rfl rfl (aB (aC (aN (iM ?_))))))))
  refine bZ (bZ (iM (bZ (bV (.int _ _) rfl ?_))))
  exact ⟨iE (aJz b (by omega)).symm, M4.below⟩
 ·refine aL (cU (aC (aA (wq (bL rfl rfl (by first | decide | omega) (by first | decide | omega)) rfl (aS 27 (.int .i64 1) (iE (by first | decide | omega)) (aV rfl rfl ?_))))))
  refine aB (aC (gP (aD (aA (cQ rfl rfl rfl rfl (kE 19 rfl (by first | decide | omega) (aB (aC (aD ?_)))))))))
  refine cK rfl (aL (aC (aD (aU (aD (aA (wq (mH 1 _ qT kG rfl rfl (by decide) (by decide) rfl rfl) rfl (aR pP M4 rfl rfl (fun b5 w5 M5 => (bE 2 _ kG M5 rfl rfl rfl rfl rfl (aQ rfl) rfl (fun w6 M6 => (aB (aC (aD (aA ?_)))))))))))))))
  refine wq (aE 0 mJ rfl) rfl (wq (aO 2 (.func _ _ _) aAl M6 rfl rfl rfl) rfl (cA aZr rfl rfl (aFu _ b _ (lR 0 M6 rfl rfl)) ?_))
  rintro v7 w7 ⟨rfl, hb7⟩
  have M7 := M6.callB hb7
  refine wq (kP rfl) rfl (aB (aC ?_))
  refine aW rfl (fun h24 => ?_) (fun h24 => ?_)
  ·refine aD (aA (wq (aE 1 mW rfl) rfl (wq (aO 2 (.int _ _) aAh M7 rfl rfl rfl) rfl (bI rfl rfl (aB (aC (aN (iM ?_))))))))
   refine bZ (bZ (iM (bZ (bV (.int _ _) rfl ?_))))
   exact ⟨iE (aKj b (by omega) (by omega)).symm, M7.below⟩
  ·refine aL (cU (aC (aA (wq (bL rfl rfl (by first | decide | omega) (by first | decide | omega)) rfl (aS 27 (.int .i64 2) (iE (by first | decide | omega)) (aV rfl rfl ?_))))))
   refine aB (aC (gP (aD (aA (cQ rfl rfl rfl rfl (kE 19 rfl (by first | decide | omega) (aB (aC (aD ?_)))))))))
   refine cK rfl (aL (aC (aD (aU (aD (aA (wq (mH 2 _ qT kG rfl rfl (by decide) (by decide) rfl rfl) rfl (aR pP M7 rfl rfl (fun b8 w8 M8 => (bE 3 _ kG M8 rfl rfl rfl rfl rfl (aQ rfl) rfl (fun w9 M9 => (aB (aC (aD (aA ?_)))))))))))))))
   refine wq (aE 0 mJ rfl) rfl (wq (aO 3 (.func _ _ _) aAl M9 rfl rfl rfl) rfl (cA bAd rfl rfl (aEx _ b _ (lR 0 M9 rfl rfl)) ?_))
   rintro v10 w10 ⟨rfl, hb10⟩
   have M10 := M9.callB hb10
   refine wq (kP rfl) rfl (aB (aC ?_))
   refine aW rfl (fun h24 => ?_) (fun h24 => ?_)
   ·refine aD (aA (wq (aE 1 mW rfl) rfl (wq (aO 3 (.int _ _) aAh M10 rfl rfl rfl) rfl (bI rfl rfl (aB (aC (aN (iM ?_))))))))
    refine bZ (bZ (iM (bZ (bV (.int _ _) rfl ?_))))
    exact ⟨iE (aKb b (by omega) (by omega) (by omega)).symm, M10.below⟩
   ·refine aL (cU (aC (aA (wq (bL rfl rfl (by first | decide | omega) (by first | decide | omega)) rfl (aS 27 (.int .i64 3) (iE (by first | decide | omega)) (aV rfl rfl ?_))))))
    refine aB (aC (gP (aD (aA (cQ rfl rfl rfl rfl (kE 19 rfl (by first | decide | omega) (aB (aC (aD ?_)))))))))
    refine cK rfl (aL (aC (aD (aU (aD (aA (wq (mH 3 _ qT kG rfl rfl (by decide) (by decide) rfl rfl) rfl (aR pP M10 rfl rfl (fun b11 w11 M11 => (bE 4 _ kG M11 rfl rfl rfl rfl rfl (aQ rfl) rfl (fun w12 M12 => (aB (aC (aD (aA ?_)))))))))))))))
    refine wq (aE 0 mJ rfl) rfl (wq (aO 4 (.func _ _ _) aAl M12 rfl rfl rfl) rfl (cA bBg rfl rfl (aEv _ b _ (lR 0 M12 rfl rfl)) ?_))
    rintro v13 w13 ⟨rfl, hb13⟩
    have M13 := M12.callB hb13
    refine wq (kP rfl) rfl (aB (aC ?_))
    refine aW rfl (fun h24 => ?_) (fun h24 => ?_)
    ·refine aD (aA (wq (aE 1 mW rfl) rfl (wq (aO 4 (.int _ _) aAh M13 rfl rfl rfl) rfl (bI rfl rfl (aB (aC (aN (iM ?_))))))))
     refine bZ (bZ (iM (bZ (bV (.int _ _) rfl ?_))))
     exact ⟨iE (aLq b (by omega) (by omega) (by omega) (by omega)).symm, M13.below⟩
    ·refine aL (cU (aC (aA (wq (bL rfl rfl (by first | decide | omega) (by first | decide | omega)) rfl (aS 27 (.int .i64 4) (iE (by first | decide | omega)) (aV rfl rfl ?_))))))
     refine aB (aC (gP (aD (aA (cQ rfl rfl rfl rfl (kE 19 rfl (by first | decide | omega) (aB (aC (aD ?_)))))))))
     refine cK rfl (aL (aC (aD (aU (aD (aA (wq (mH 4 _ qT kG rfl rfl (by decide) (by decide) rfl rfl) rfl (aR pP M13 rfl rfl (fun b14 w14 M14 => (bE 5 _ kG M14 rfl rfl rfl rfl rfl (aQ rfl) rfl (fun w15 M15 => (aB (aC (aD (aA ?_)))))))))))))))
     refine wq (aE 0 mJ rfl) rfl (wq (aO 5 (.func _ _ _) aAl M15 rfl rfl rfl) rfl (cA aZj rfl rfl (aDz _ b _ (lR 0 M15 rfl rfl)) ?_))
     rintro v16 w16 ⟨rfl, hb16⟩
     have M16 := M15.callB hb16
     refine wq (kP rfl) rfl (aB (aC ?_))
     refine aW rfl (fun h24 => ?_) (fun h24 => ?_)
     ·refine aD (aA (wq (aE 1 mW rfl) rfl (wq (aO 5 (.int _ _) aAh M16 rfl rfl rfl) rfl (bI rfl rfl (aB (aC (aN (iM ?_))))))))
      refine bZ (bZ (iM (bZ (bV (.int _ _) rfl ?_))))
      exact ⟨iE (aKp b (by omega) (by omega) (by omega) (by omega) (by omega)).symm, M16.below⟩
     ·refine aL (cU (aC (aA (wq (bL rfl rfl (by first | decide | omega) (by first | decide | omega)) rfl (aS 27 (.int .i64 5) (iE (by first | decide | omega)) (aV rfl rfl ?_))))))
      refine aB (aC (gP (aD (aA (cQ rfl rfl rfl rfl (kE 19 rfl (by first | decide | omega) (aB (aC (aD ?_)))))))))
      refine cK rfl (aL (aC (aD (aU (aD (aA (wq (mH 5 _ qT kG rfl rfl (by decide) (by decide) rfl rfl) rfl (aR pP M16 rfl rfl (fun b17 w17 M17 => (bE 6 _ kG M17 rfl rfl rfl rfl rfl (aQ rfl) rfl (fun w18 M18 => (aB (aC (aD (aA ?_)))))))))))))))
      refine wq (aE 0 mJ rfl) rfl (wq (aO 6 (.func _ _ _) aAl M18 rfl rfl rfl) rfl (cA bCp rfl rfl (aFf _ b _ (lR 0 M18 rfl rfl)) ?_))
      rintro v19 w19 ⟨rfl, hb19⟩
      have M19 := M18.callB hb19
      refine wq (kP rfl) rfl (aB (aC ?_))
      refine aW rfl (fun h24 => ?_) (fun h24 => ?_)
      ·refine aD (aA (wq (aE 1 mW rfl) rfl (wq (aO 6 (.int _ _) aAh M19 rfl rfl rfl) rfl (bI rfl rfl (aB (aC (aN (iM ?_))))))))
       refine bZ (bZ (iM (bZ (bV (.int _ _) rfl ?_))))
       exact ⟨iE (aKr b (by omega) (by omega) (by omega) (by omega) (by omega) (by omega)).symm, M19.below⟩
      ·refine aL (cU (aC (aA (wq (bL rfl rfl (by first | decide | omega) (by first | decide | omega)) rfl (aS 27 (.int .i64 6) (iE (by first | decide | omega)) (aV rfl rfl ?_))))))
       refine aB (aC (gP (aD (aA (cQ rfl rfl rfl rfl (sX 19 rfl (by first | decide | omega) (aB (aC (aD ?_)))))))))
       refine bR rfl (cP (cZ (cZ (fA (aC (aD (aA (bI rfl rfl ?_))))))))
       refine aB (aC (aN (bV (.int _ _) rfl ?_)))
       exact ⟨iE (aUs b (by omega) (by omega) (by omega) (by omega) (by omega) (by omega)).symm, M19.below⟩
set_option maxHeartbeats 4000000 in
theorem uK (w : World) (x : Int) :
  Calls Tryz.prog 121 #[.int .u32 x] w (fun ex w' => ∃ v, ex = .returned v ∧ (fun v w' => v = .bool false ∧ w' = w) v w') := by
 refine aH #[.tmp 2] 6 Tryz.func121 rfl Tryz.results121 Tryz.ntmps121 rfl ?_
 have M0 := Mem.refl w
 refine aD (aA (wq (aI (.bool false) rfl) rfl (aB (aC (aD (aA (aV rfl rfl (aV rfl rfl (cQ rfl rfl rfl rfl ?_)))))))))
 refine wq (aI (.bool (decide _)) rfl) rfl (aB (aC (aN (bV (.bool (decide _)) rfl ?_))))
 exact ⟨(bF (by omega)).symm, rfl⟩
set_option maxHeartbeats 4000000 in
theorem jY (w : World) (x y : Int) :
  Calls Tryz.prog 97 #[.int .u32 x, .int .u32 y] w (fun ex w' => ∃ v, ex = .returned v ∧ (fun v w' => v = .int .i64 (lE x y) ∧ w' = w) v w') := by
 refine aH #[.tmp 4] 20 Tryz.func97 rfl Tryz.results97 Tryz.ntmps97 rfl ?_
 have M0 := Mem.refl w
 refine aD (aA (bI rfl rfl (aB (aC (aD (aA (aV rfl rfl (cA aRx rfl rfl (uK _ _) ?_))))))))
 rintro v1 w1 ⟨rfl, rfl⟩
 have M1 : Mem _ _ [] _ := M0
 refine wq (aI (.bool false) rfl) rfl (aB (aC (aD (aA (aV rfl rfl (cA aRx rfl rfl (uK _ _) ?_))))))
 rintro v2 w2 ⟨rfl, rfl⟩
 have M2 : Mem _ _ [] _ := M1
 refine wq (aI (.bool false) rfl) rfl (aB (aC (aD (aD (aA (wq (aG (.bool false) rfl) rfl (aB (aC (bR rfl (aL (aC (aD (aD (aA ?_))))))))))))))
 refine wq (aG (.bool false) rfl) rfl (aB (aC (bR rfl (aL (aC (aD (aD (aA (aV rfl rfl (aV rfl rfl ?_))))))))))
 refine cQ rfl rfl rfl rfl (aB (aC ?_))
 refine aW rfl (fun h16 => ?_) (fun h16 => ?_)
 ·refine aD (aA (bI rfl rfl (aB (aC (aN (bZ (bV (.int _ _) rfl ?_)))))))
  exact ⟨iE (by unfold lE; (repeat' split) <;> omega), rfl⟩
 ·refine aL (aC (aD (aD (aA (aV rfl rfl (aV rfl rfl (cQ rfl rfl rfl rfl (aB (aC ?_)))))))))
  refine aW rfl (fun h19 => ?_) (fun h19 => ?_)
  ·refine aD (aA (bI rfl rfl (aB (aC (aN (bZ (bV (.int _ _) rfl ?_)))))))
   exact ⟨iE (by unfold lE; (repeat' split) <;> omega), rfl⟩
  ·refine aL (aC (aD (aA (bI rfl rfl (aB (aC (aN (bV (.int _ _) rfl ?_))))))))
   exact ⟨iE (by unfold lE; (repeat' split) <;> omega), rfl⟩
set_option maxHeartbeats 4000000 in
theorem zI (a b : Body) (w : World) :
  Calls Tryz.prog 96 #[(.agg (aF a).toArray), (.agg (aF b).toArray)] w (fun ex w' => ∃ v, ex = .returned v ∧ (fun v w' => v = .int .i64 (lE a.key b.key) ∧ ∃ q os, w' = Go.Sort.grow (w.drewN q) os) v w') := by
 refine aH #[.tmp 4] 10 Tryz.func96 rfl Tryz.results96 Tryz.ntmps96 rfl ?_
 have M0 := Mem.refl w
 refine aD (aA (vZ (.agg (List.toArray _)) M0 rfl rfl rfl (fun M1 => (vZ (.agg (List.toArray _)) M1 rfl rfl rfl (fun M2 => (bI rfl rfl (aB (aC (aD (aA (wq (aE 0 eK rfl) rfl ?_)))))))))))
 refine wq (aO 0 (.int _ _) bY M2 rfl rfl rfl) rfl (wq (aE 0 eK rfl) rfl (wq (aO 1 (.int _ _) bY M2 rfl rfl rfl) rfl (cA aKm rfl rfl (jY _ _ _) ?_)))
 rintro v3 w3 ⟨rfl, rfl⟩
 have M3 : Mem _ _ [_, _] _ := M2
 refine bI rfl rfl (aB (aC (aN (bV (.int _ _) rfl ?_))))
 exact ⟨rfl, bFd _ _ _⟩
set_option maxHeartbeats 4000000 in
theorem zO (w : World) (A : Option Addr) (n c : Nat) (ls : List (List Value)) (R : Rd w 10 A n ls) (h1 : ∀ y ∈ ls, ∀ u ∈ y, one u = true) (hn : n ≤ 1048576) :
  Calls Tryz.prog 49 #[.slice A n c] w (fun ex w' => ∃ v, ex = .returned v ∧ (fun v w' => ∃ A' n' c' e, v = .slice A' n' c' ∧ aY 40 10 A' n' c' ls e ∧ Mem w [] [e] w' ∧ A'.isSome = A.isSome) v w') := by
 refine aH #[.tmp 2] 8 Tryz.func49 rfl Tryz.results49 Tryz.ntmps49 rfl ?_
 have M0 := Mem.refl w
 refine aD (aA (fZ rfl rfl (aB (aC (aD (aD (aA (dM rfl rfl (wq (aCv _ Tryz.underlying22 rfl rfl) rfl (aB (aC ?_)))))))))))
 refine gO _ rfl (fun h4 => ?_) (fun h4 => ?_)
 ·refine aD (aA (fZ rfl rfl (aB (aC (aN (bZ (bV (.slice _ _ _) rfl ?_)))))))
  have hA : A = none := by cases A <;> simp_all
  have hl : ls = [] := by
   rcases Nat.eq_zero_or_pos n with h | h
   ·subst h; exact List.eq_nil_of_length_eq_zero R.len
   ·have := R.some h; rw [hA] at this; cases this
  subst hA; subst hl
  exact ⟨_, _, _, _, rfl, aY.nil 40 10 default, M0.dummy default, rfl⟩
 ·refine aL (aC (aD (aA (dA [] [] rfl eV M0 rfl rfl rfl rfl (dI rfl) (by decide) (fun b1 w1 M1 => (dM rfl rfl (aJb 0 ls eV M1 rfl rfl rfl rfl rfl (aY.empty b1) (R.mem M1) h1 (by omega) (fun A2 c2 e2 w2 M2 hR2 hA2 => ?_))))))))
  have hAA := hA2
  refine fZ rfl rfl (aB (aC (aN (bV (.slice _ _ _) rfl ?_))))
  refine ⟨_, _, _, _, rfl, by simpa using hR2, M2, ?_⟩
  rw [hAA rfl]; cases A <;> simp_all
end Go.Proofs.YtlmcphcgiclanaaGreatDoor
