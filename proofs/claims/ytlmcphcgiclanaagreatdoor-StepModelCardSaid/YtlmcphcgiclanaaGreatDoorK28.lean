/- Part of the proof of the laws of this seat: Z1, Z1b, Z1c, Z1d, W3, Z2, W4, Z3, W5. No conditions. -/
import Derived.Test.YtlmcphcgiclanaaGreatDoorK5
import Derived.Test.YtlmcphcgiclanaaGreatDoorK12
import Derived.Test.YtlmcphcgiclanaaGreatDoorK18
import Derived.Test.YtlmcphcgiclanaaGreatDoorK11
import Derived.Test.YtlmcphcgiclanaaGreatDoorK17
set_option linter.unusedVariables false
set_option linter.unusedSimpArgs false
set_option linter.unnecessarySimpa false
namespace Go.Proofs.YtlmcphcgiclanaaGreatDoor
open Go.Bil
open Go.RowKit (Below)
open Go.Proofs
set_option maxHeartbeats 8000000 in
theorem tA (w : World) (a : Int) (h0 : -9223372036854775808 ≤ a) (h1 : a ≤ 9223372036854775807) :
    Calls Tryz.prog 228 #[.int .i64 a] w (fun ex w' => ∃ v, ex = .returned v ∧ (fun v w' => v = (.agg ((bBt a.natAbs).map jB).toArray) ∧ Below w.heap.size w w') v w') := by
  obtain ⟨m, hm⟩ : ∃ m, m = a.natAbs := ⟨_, rfl⟩
  refine aL #[.cell 2 291] 24 Tryz.func228 rfl Tryz.results228 Tryz.ntmps228 rfl ?_
  have M0 := Mem.refl w
  refine aH (aB ?_)
  refine aV pU M0 rfl rfl (fun b1 w1 M1 => ?_)
  refine aE (aF (aH (aB ?_)))
  refine aV pU M1 rfl rfl (fun b2 w2 M2 => ?_)
  refine aE (aF (aH (aB ?_)))
  refine aA (aC (.int _ _) rfl) rfl rfl ?_
  refine aA (dH lD Tryz.underlying170 rfl) rfl rfl ?_
  refine aA (aD (.int _ _) rfl) rfl rfl ?_
  refine aE (aF (aH (aH (aB ?_))))
  refine aA (aC (.int _ _) rfl) rfl rfl ?_
  refine aA (aN (.bool (decide _)) rfl rfl rfl) rfl rfl ?_
  refine aE (aF ?_)
  refine aX rfl (fun h9 => ?_) (fun h9 => ?_)
  · refine aB ?_
    refine aA (aC (.int _ _) rfl) rfl rfl ?_
    refine aA (oN rfl) rfl rfl ?_
    refine aK 11 (.int .u64 ((m : Nat) : Int)) (iE (by rw [eX, eX]; omega)) ?_
    refine aA (aD (.int _ _) rfl) rfl rfl ?_
    refine aE (aF (aH (aH (aB ?_))))
    refine aA (aD (.int _ _) rfl) rfl rfl ?_
    refine aE (aF (aT ?_))
    refine gX 5 (fI ?_)
    refine aH (aH (aB ?_))
    refine aA (aC (.int _ _) rfl) rfl rfl ?_
    refine aA (aN (.bool (decide _)) rfl rfl rfl) rfl rfl ?_
    refine aK 13 (.bool true) (bT (by first | decide | omega)).symm ?_
    refine aE (aF ?_)
    refine cM rfl ?_
    refine aO (aF (aH (aT (aH (aB ?_)))))
    refine aA (aC (.int _ _) rfl) rfl rfl ?_
    refine aA (aC (.int _ _) rfl) rfl rfl ?_
    refine aK 17 (.int .u64 ((m : Nat) : Int)) (iE (by first | rfl | (rw [eX]; omega) | (rw [eX, eX]; omega))) ?_
    refine aA (fY rfl rfl (by decide)) rfl rfl ?_
    refine aK 18 (.int .u64 ((m % 65536 : Nat) : Int)) (iE (gJ (m) 65536)) ?_
    refine aA (aG 0 bJ rfl) rfl rfl ?_
    refine aA (cC (0) cH rfl rfl rfl (by decide)) rfl rfl ?_
    refine cY 1 (.int _ _) bZ M2 rfl rfl rfl rfl rfl rfl (fun w3 M3 => ?_)
    refine aE (aF (aB ?_))
    refine aA (aC (.int _ _) rfl) rfl rfl ?_
    refine aK 21 (.int .u64 ((m : Nat) : Int)) (iE (by first | rfl | (rw [eX]; omega) | (rw [eX, eX]; omega))) ?_
    refine aA (fO rfl rfl (by decide)) rfl rfl ?_
    refine aK 22 (.int .u64 ((m / 65536 : Nat) : Int)) (iE (fX (m) 65536 (by omega))) ?_
    refine aA (aD (.int _ _) rfl) rfl rfl ?_
    refine aE ?_
    refine cS ?_
    refine aF (aB ?_)
    refine aA (aC (.int _ _) rfl) rfl rfl ?_
    refine aA (aZ rfl rfl (by first | decide | omega) (by first | decide | omega)) rfl rfl ?_
    refine aK 15 (.int .i64 1) (iE (by first | decide | omega)) ?_
    refine aA (aD (.int _ _) rfl) rfl rfl ?_
    refine aE ?_
    refine aF (fI ?_)
    refine dZ (fr := [(2, .pointer _), (3, .pointer _), (4, .int _ _), (5, .int .i64 1)]) (bB rfl (bB rfl (bB rfl (bB rfl dO)))) (fun ρ4 => ?_)
    refine aH (aH (aB ?_))
    refine aA (aC (.int _ _) rfl) rfl rfl ?_
    refine aA (aN (.bool (decide _)) rfl rfl rfl) rfl rfl ?_
    refine aK 13 (.bool true) (bT (by first | decide | omega)).symm ?_
    refine aE (aF ?_)
    refine cM rfl ?_
    refine aO (aF (aH (aT (aH (aB ?_)))))
    refine aA (aC (.int _ _) rfl) rfl rfl ?_
    refine aA (aC (.int _ _) rfl) rfl rfl ?_
    refine aK 17 (.int .u64 ((m / 65536 : Nat) : Int)) (iE (by first | rfl | (rw [eX]; omega) | (rw [eX, eX]; omega))) ?_
    refine aA (fY rfl rfl (by decide)) rfl rfl ?_
    refine aK 18 (.int .u64 ((m / 65536 % 65536 : Nat) : Int)) (iE (gJ (m / 65536) 65536)) ?_
    refine aA (aG 0 bJ rfl) rfl rfl ?_
    refine aA (cC (1) cH rfl rfl rfl (by decide)) rfl rfl ?_
    refine cY 1 (.int _ _) bZ M3 rfl rfl rfl rfl rfl rfl (fun w5 M5 => ?_)
    refine aE (aF (aB ?_))
    refine aA (aC (.int _ _) rfl) rfl rfl ?_
    refine aK 21 (.int .u64 ((m / 65536 : Nat) : Int)) (iE (by first | rfl | (rw [eX]; omega) | (rw [eX, eX]; omega))) ?_
    refine aA (fO rfl rfl (by decide)) rfl rfl ?_
    refine aK 22 (.int .u64 ((m / 65536 / 65536 : Nat) : Int)) (iE (fX (m / 65536) 65536 (by omega))) ?_
    refine aA (aD (.int _ _) rfl) rfl rfl ?_
    refine aE ?_
    refine cS ?_
    refine aF (aB ?_)
    refine aA (aC (.int _ _) rfl) rfl rfl ?_
    refine aA (aZ rfl rfl (by first | decide | omega) (by first | decide | omega)) rfl rfl ?_
    refine aK 15 (.int .i64 2) (iE (by first | decide | omega)) ?_
    refine aA (aD (.int _ _) rfl) rfl rfl ?_
    refine aE ?_
    refine aF (fI ?_)
    refine dZ (fr := [(2, .pointer _), (3, .pointer _), (4, .int _ _), (5, .int .i64 2)]) (bB rfl (bB rfl (bB rfl (bB rfl dO)))) (fun ρ6 => ?_)
    refine aH (aH (aB ?_))
    refine aA (aC (.int _ _) rfl) rfl rfl ?_
    refine aA (aN (.bool (decide _)) rfl rfl rfl) rfl rfl ?_
    refine aK 13 (.bool true) (bT (by first | decide | omega)).symm ?_
    refine aE (aF ?_)
    refine cM rfl ?_
    refine aO (aF (aH (aT (aH (aB ?_)))))
    refine aA (aC (.int _ _) rfl) rfl rfl ?_
    refine aA (aC (.int _ _) rfl) rfl rfl ?_
    refine aK 17 (.int .u64 ((m / 65536 / 65536 : Nat) : Int)) (iE (by first | rfl | (rw [eX]; omega) | (rw [eX, eX]; omega))) ?_
    refine aA (fY rfl rfl (by decide)) rfl rfl ?_
    refine aK 18 (.int .u64 ((m / 65536 / 65536 % 65536 : Nat) : Int)) (iE (gJ (m / 65536 / 65536) 65536)) ?_
    refine aA (aG 0 bJ rfl) rfl rfl ?_
    refine aA (cC (2) cH rfl rfl rfl (by decide)) rfl rfl ?_
    refine cY 1 (.int _ _) bZ M5 rfl rfl rfl rfl rfl rfl (fun w7 M7 => ?_)
    refine aE (aF (aB ?_))
    refine aA (aC (.int _ _) rfl) rfl rfl ?_
    refine aK 21 (.int .u64 ((m / 65536 / 65536 : Nat) : Int)) (iE (by first | rfl | (rw [eX]; omega) | (rw [eX, eX]; omega))) ?_
    refine aA (fO rfl rfl (by decide)) rfl rfl ?_
    refine aK 22 (.int .u64 ((m / 65536 / 65536 / 65536 : Nat) : Int)) (iE (fX (m / 65536 / 65536) 65536 (by omega))) ?_
    refine aA (aD (.int _ _) rfl) rfl rfl ?_
    refine aE ?_
    refine cS ?_
    refine aF (aB ?_)
    refine aA (aC (.int _ _) rfl) rfl rfl ?_
    refine aA (aZ rfl rfl (by first | decide | omega) (by first | decide | omega)) rfl rfl ?_
    refine aK 15 (.int .i64 3) (iE (by first | decide | omega)) ?_
    refine aA (aD (.int _ _) rfl) rfl rfl ?_
    refine aE ?_
    refine aF (fI ?_)
    refine dZ (fr := [(2, .pointer _), (3, .pointer _), (4, .int _ _), (5, .int .i64 3)]) (bB rfl (bB rfl (bB rfl (bB rfl dO)))) (fun ρ8 => ?_)
    refine aH (aH (aB ?_))
    refine aA (aC (.int _ _) rfl) rfl rfl ?_
    refine aA (aN (.bool (decide _)) rfl rfl rfl) rfl rfl ?_
    refine aK 13 (.bool true) (bT (by first | decide | omega)).symm ?_
    refine aE (aF ?_)
    refine cM rfl ?_
    refine aO (aF (aH (aT (aH (aB ?_)))))
    refine aA (aC (.int _ _) rfl) rfl rfl ?_
    refine aA (aC (.int _ _) rfl) rfl rfl ?_
    refine aK 17 (.int .u64 ((m / 65536 / 65536 / 65536 : Nat) : Int)) (iE (by first | rfl | (rw [eX]; omega) | (rw [eX, eX]; omega))) ?_
    refine aA (fY rfl rfl (by decide)) rfl rfl ?_
    refine aK 18 (.int .u64 ((m / 65536 / 65536 / 65536 % 65536 : Nat) : Int)) (iE (gJ (m / 65536 / 65536 / 65536) 65536)) ?_
    refine aA (aG 0 bJ rfl) rfl rfl ?_
    refine aA (cC (3) cH rfl rfl rfl (by decide)) rfl rfl ?_
    refine cY 1 (.int _ _) bZ M7 rfl rfl rfl rfl rfl rfl (fun w9 M9 => ?_)
    refine aE (aF (aB ?_))
    refine aA (aC (.int _ _) rfl) rfl rfl ?_
    refine aK 21 (.int .u64 ((m / 65536 / 65536 / 65536 : Nat) : Int)) (iE (by first | rfl | (rw [eX]; omega) | (rw [eX, eX]; omega))) ?_
    refine aA (fO rfl rfl (by decide)) rfl rfl ?_
    refine aK 22 (.int .u64 ((m / 65536 / 65536 / 65536 / 65536 : Nat) : Int)) (iE (fX (m / 65536 / 65536 / 65536) 65536 (by omega))) ?_
    refine aA (aD (.int _ _) rfl) rfl rfl ?_
    refine aE ?_
    refine cS ?_
    refine aF (aB ?_)
    refine aA (aC (.int _ _) rfl) rfl rfl ?_
    refine aA (aZ rfl rfl (by first | decide | omega) (by first | decide | omega)) rfl rfl ?_
    refine aK 15 (.int .i64 4) (iE (by first | decide | omega)) ?_
    refine aA (aD (.int _ _) rfl) rfl rfl ?_
    refine aE ?_
    refine aF (fI ?_)
    refine dZ (fr := [(2, .pointer _), (3, .pointer _), (4, .int _ _), (5, .int .i64 4)]) (bB rfl (bB rfl (bB rfl (bB rfl dO)))) (fun ρ10 => ?_)
    refine aH (aH (aB ?_))
    refine aA (aC (.int _ _) rfl) rfl rfl ?_
    refine aA (aN (.bool (decide _)) rfl rfl rfl) rfl rfl ?_
    refine aK 13 (.bool false) (bF (by first | decide | omega)).symm ?_
    refine aE (aF ?_)
    refine cP rfl ?_
    refine cQ ?_
    refine cX (cX ?_)
    refine eJ ?_
    refine aF (aH (aB ?_))
    refine aA (aR 1 kU M9 rfl rfl rfl) rfl rfl ?_
    refine bL 0 _ kU M9 rfl rfl rfl rfl rfl (bA rfl) rfl (fun w11 M11 => ?_)
    refine aE (aF (aU ?_))
    refine gM 0 kU M11 rfl rfl rfl ?_
    exact ⟨by rw [← hm]; rfl, M11.below⟩
  · refine aO (aF (aH (aH (aB ?_))))
    refine aA (aD (.int _ _) rfl) rfl rfl ?_
    refine aE (aF (aT ?_))
    refine gX 5 (fI ?_)
    refine aH (aH (aB ?_))
    refine aA (aC (.int _ _) rfl) rfl rfl ?_
    refine aA (aN (.bool (decide _)) rfl rfl rfl) rfl rfl ?_
    refine aK 13 (.bool true) (bT (by first | decide | omega)).symm ?_
    refine aE (aF ?_)
    refine cM rfl ?_
    refine aO (aF (aH (aT (aH (aB ?_)))))
    refine aA (aC (.int _ _) rfl) rfl rfl ?_
    refine aA (aC (.int _ _) rfl) rfl rfl ?_
    refine aK 17 (.int .u64 ((m : Nat) : Int)) (iE (by first | rfl | (rw [eX]; omega) | (rw [eX, eX]; omega))) ?_
    refine aA (fY rfl rfl (by decide)) rfl rfl ?_
    refine aK 18 (.int .u64 ((m % 65536 : Nat) : Int)) (iE (gJ (m) 65536)) ?_
    refine aA (aG 0 bJ rfl) rfl rfl ?_
    refine aA (cC (0) cH rfl rfl rfl (by decide)) rfl rfl ?_
    refine cY 1 (.int _ _) bZ M2 rfl rfl rfl rfl rfl rfl (fun w12 M12 => ?_)
    refine aE (aF (aB ?_))
    refine aA (aC (.int _ _) rfl) rfl rfl ?_
    refine aK 21 (.int .u64 ((m : Nat) : Int)) (iE (by first | rfl | (rw [eX]; omega) | (rw [eX, eX]; omega))) ?_
    refine aA (fO rfl rfl (by decide)) rfl rfl ?_
    refine aK 22 (.int .u64 ((m / 65536 : Nat) : Int)) (iE (fX (m) 65536 (by omega))) ?_
    refine aA (aD (.int _ _) rfl) rfl rfl ?_
    refine aE ?_
    refine cS ?_
    refine aF (aB ?_)
    refine aA (aC (.int _ _) rfl) rfl rfl ?_
    refine aA (aZ rfl rfl (by first | decide | omega) (by first | decide | omega)) rfl rfl ?_
    refine aK 15 (.int .i64 1) (iE (by first | decide | omega)) ?_
    refine aA (aD (.int _ _) rfl) rfl rfl ?_
    refine aE ?_
    refine aF (fI ?_)
    refine dZ (fr := [(2, .pointer _), (3, .pointer _), (4, .int _ _), (5, .int .i64 1)]) (bB rfl (bB rfl (bB rfl (bB rfl dO)))) (fun ρ13 => ?_)
    refine aH (aH (aB ?_))
    refine aA (aC (.int _ _) rfl) rfl rfl ?_
    refine aA (aN (.bool (decide _)) rfl rfl rfl) rfl rfl ?_
    refine aK 13 (.bool true) (bT (by first | decide | omega)).symm ?_
    refine aE (aF ?_)
    refine cM rfl ?_
    refine aO (aF (aH (aT (aH (aB ?_)))))
    refine aA (aC (.int _ _) rfl) rfl rfl ?_
    refine aA (aC (.int _ _) rfl) rfl rfl ?_
    refine aK 17 (.int .u64 ((m / 65536 : Nat) : Int)) (iE (by first | rfl | (rw [eX]; omega) | (rw [eX, eX]; omega))) ?_
    refine aA (fY rfl rfl (by decide)) rfl rfl ?_
    refine aK 18 (.int .u64 ((m / 65536 % 65536 : Nat) : Int)) (iE (gJ (m / 65536) 65536)) ?_
    refine aA (aG 0 bJ rfl) rfl rfl ?_
    refine aA (cC (1) cH rfl rfl rfl (by decide)) rfl rfl ?_
    refine cY 1 (.int _ _) bZ M12 rfl rfl rfl rfl rfl rfl (fun w14 M14 => ?_)
    refine aE (aF (aB ?_))
    refine aA (aC (.int _ _) rfl) rfl rfl ?_
    refine aK 21 (.int .u64 ((m / 65536 : Nat) : Int)) (iE (by first | rfl | (rw [eX]; omega) | (rw [eX, eX]; omega))) ?_
    refine aA (fO rfl rfl (by decide)) rfl rfl ?_
    refine aK 22 (.int .u64 ((m / 65536 / 65536 : Nat) : Int)) (iE (fX (m / 65536) 65536 (by omega))) ?_
    refine aA (aD (.int _ _) rfl) rfl rfl ?_
    refine aE ?_
    refine cS ?_
    refine aF (aB ?_)
    refine aA (aC (.int _ _) rfl) rfl rfl ?_
    refine aA (aZ rfl rfl (by first | decide | omega) (by first | decide | omega)) rfl rfl ?_
    refine aK 15 (.int .i64 2) (iE (by first | decide | omega)) ?_
    refine aA (aD (.int _ _) rfl) rfl rfl ?_
    refine aE ?_
    refine aF (fI ?_)
    refine dZ (fr := [(2, .pointer _), (3, .pointer _), (4, .int _ _), (5, .int .i64 2)]) (bB rfl (bB rfl (bB rfl (bB rfl dO)))) (fun ρ15 => ?_)
    refine aH (aH (aB ?_))
    refine aA (aC (.int _ _) rfl) rfl rfl ?_
    refine aA (aN (.bool (decide _)) rfl rfl rfl) rfl rfl ?_
    refine aK 13 (.bool true) (bT (by first | decide | omega)).symm ?_
    refine aE (aF ?_)
    refine cM rfl ?_
    refine aO (aF (aH (aT (aH (aB ?_)))))
    refine aA (aC (.int _ _) rfl) rfl rfl ?_
    refine aA (aC (.int _ _) rfl) rfl rfl ?_
    refine aK 17 (.int .u64 ((m / 65536 / 65536 : Nat) : Int)) (iE (by first | rfl | (rw [eX]; omega) | (rw [eX, eX]; omega))) ?_
    refine aA (fY rfl rfl (by decide)) rfl rfl ?_
    refine aK 18 (.int .u64 ((m / 65536 / 65536 % 65536 : Nat) : Int)) (iE (gJ (m / 65536 / 65536) 65536)) ?_
    refine aA (aG 0 bJ rfl) rfl rfl ?_
    refine aA (cC (2) cH rfl rfl rfl (by decide)) rfl rfl ?_
    refine cY 1 (.int _ _) bZ M14 rfl rfl rfl rfl rfl rfl (fun w16 M16 => ?_)
    refine aE (aF (aB ?_))
    refine aA (aC (.int _ _) rfl) rfl rfl ?_
    refine aK 21 (.int .u64 ((m / 65536 / 65536 : Nat) : Int)) (iE (by first | rfl | (rw [eX]; omega) | (rw [eX, eX]; omega))) ?_
    refine aA (fO rfl rfl (by decide)) rfl rfl ?_
    refine aK 22 (.int .u64 ((m / 65536 / 65536 / 65536 : Nat) : Int)) (iE (fX (m / 65536 / 65536) 65536 (by omega))) ?_
    refine aA (aD (.int _ _) rfl) rfl rfl ?_
    refine aE ?_
    refine cS ?_
    refine aF (aB ?_)
    refine aA (aC (.int _ _) rfl) rfl rfl ?_
    refine aA (aZ rfl rfl (by first | decide | omega) (by first | decide | omega)) rfl rfl ?_
    refine aK 15 (.int .i64 3) (iE (by first | decide | omega)) ?_
    refine aA (aD (.int _ _) rfl) rfl rfl ?_
    refine aE ?_
    refine aF (fI ?_)
    refine dZ (fr := [(2, .pointer _), (3, .pointer _), (4, .int _ _), (5, .int .i64 3)]) (bB rfl (bB rfl (bB rfl (bB rfl dO)))) (fun ρ17 => ?_)
    refine aH (aH (aB ?_))
    refine aA (aC (.int _ _) rfl) rfl rfl ?_
    refine aA (aN (.bool (decide _)) rfl rfl rfl) rfl rfl ?_
    refine aK 13 (.bool true) (bT (by first | decide | omega)).symm ?_
    refine aE (aF ?_)
    refine cM rfl ?_
    refine aO (aF (aH (aT (aH (aB ?_)))))
    refine aA (aC (.int _ _) rfl) rfl rfl ?_
    refine aA (aC (.int _ _) rfl) rfl rfl ?_
    refine aK 17 (.int .u64 ((m / 65536 / 65536 / 65536 : Nat) : Int)) (iE (by first | rfl | (rw [eX]; omega) | (rw [eX, eX]; omega))) ?_
    refine aA (fY rfl rfl (by decide)) rfl rfl ?_
    refine aK 18 (.int .u64 ((m / 65536 / 65536 / 65536 % 65536 : Nat) : Int)) (iE (gJ (m / 65536 / 65536 / 65536) 65536)) ?_
    refine aA (aG 0 bJ rfl) rfl rfl ?_
    refine aA (cC (3) cH rfl rfl rfl (by decide)) rfl rfl ?_
    refine cY 1 (.int _ _) bZ M16 rfl rfl rfl rfl rfl rfl (fun w18 M18 => ?_)
    refine aE (aF (aB ?_))
    refine aA (aC (.int _ _) rfl) rfl rfl ?_
    refine aK 21 (.int .u64 ((m / 65536 / 65536 / 65536 : Nat) : Int)) (iE (by first | rfl | (rw [eX]; omega) | (rw [eX, eX]; omega))) ?_
    refine aA (fO rfl rfl (by decide)) rfl rfl ?_
    refine aK 22 (.int .u64 ((m / 65536 / 65536 / 65536 / 65536 : Nat) : Int)) (iE (fX (m / 65536 / 65536 / 65536) 65536 (by omega))) ?_
    refine aA (aD (.int _ _) rfl) rfl rfl ?_
    refine aE ?_
    refine cS ?_
    refine aF (aB ?_)
    refine aA (aC (.int _ _) rfl) rfl rfl ?_
    refine aA (aZ rfl rfl (by first | decide | omega) (by first | decide | omega)) rfl rfl ?_
    refine aK 15 (.int .i64 4) (iE (by first | decide | omega)) ?_
    refine aA (aD (.int _ _) rfl) rfl rfl ?_
    refine aE ?_
    refine aF (fI ?_)
    refine dZ (fr := [(2, .pointer _), (3, .pointer _), (4, .int _ _), (5, .int .i64 4)]) (bB rfl (bB rfl (bB rfl (bB rfl dO)))) (fun ρ19 => ?_)
    refine aH (aH (aB ?_))
    refine aA (aC (.int _ _) rfl) rfl rfl ?_
    refine aA (aN (.bool (decide _)) rfl rfl rfl) rfl rfl ?_
    refine aK 13 (.bool false) (bF (by first | decide | omega)).symm ?_
    refine aE (aF ?_)
    refine cP rfl ?_
    refine cQ ?_
    refine cX (cX ?_)
    refine eJ ?_
    refine aF (aH (aB ?_))
    refine aA (aR 1 kU M18 rfl rfl rfl) rfl rfl ?_
    refine bL 0 _ kU M18 rfl rfl rfl rfl rfl (bA rfl) rfl (fun w20 M20 => ?_)
    refine aE (aF (aU ?_))
    refine gM 0 kU M20 rfl rfl rfl ?_
    exact ⟨by rw [← hm]; rfl, M20.below⟩
end Go.Proofs.YtlmcphcgiclanaaGreatDoor

namespace Go.Proofs.YtlmcphcgiclanaaGreatDoor
open Go.Bil
open Go.RowKit (Below)
open Go.Proofs
set_option maxHeartbeats 64000000 in
set_option maxRecDepth 10000 in
theorem qV (w : World) (a b : Int) (ha0 : -9223372036854775808 ≤ a) (ha1 : a ≤ 9223372036854775807) (hb0 : -9223372036854775808 ≤ b) (hb1 : b ≤ 9223372036854775807) :
    Calls Tryz.prog 212 #[.int .i64 a, .int .i64 b] w (fun ex w' => ∃ v, ex = .returned v ∧ (fun v w' => ∃ D : List Nat, v = (.agg ((D).map jB).toArray) ∧ D.length = 8 ∧ (∀ x ∈ D, x < 65536) ∧ oO D = a.natAbs * b.natAbs ∧ Below w.heap.size w w') v w') := by
  obtain ⟨x0, x1, x2, x3, hx, hx0, hx1, hx2, hx3, hX⟩ := aWn (m := a.natAbs) (by omega)
  obtain ⟨y0, y1, y2, y3, hy, hy0, hy1, hy2, hy3, hY⟩ := aWn (m := b.natAbs) (by omega)
  refine aL #[.cell 4 291] 57 Tryz.func212 rfl Tryz.results212 Tryz.ntmps212 rfl ?_
  have M0 := Mem.refl w
  refine aH (aB ?_)
  refine aV pU M0 rfl rfl (fun b1 w1 M1 => ?_)
  refine aE (aF (aH (aB ?_)))
  refine aA (aC (.int _ _) rfl) rfl rfl ?_
  refine aM aRd rfl rfl rfl ?_
  refine (tA _ a ha0 ha1).mono ?_
  rintro _ w2 ⟨v2, rfl, ⟨rfl, hb2⟩⟩
  refine ⟨_, rfl, ?_⟩
  have M2 := M1.callB hb2
  refine aK 13 (.agg (List.map jB [x0, x1, x2, x3, 0, 0, 0, 0]).toArray) (congrArg (fun l => Value.agg (List.map jB l).toArray) hx) ?_
  refine aV pU M2 rfl rfl (fun b3 w3 M3 => ?_)
  refine bL 1 _ kU M3 rfl rfl rfl rfl rfl (bA rfl) rfl (fun w4 M4 => ?_)
  refine aE (aF (aH (aB ?_)))
  refine aA (aC (.int _ _) rfl) rfl rfl ?_
  refine aM aRd rfl rfl rfl ?_
  refine (tA _ b hb0 hb1).mono ?_
  rintro _ w5 ⟨v5, rfl, ⟨rfl, hb5⟩⟩
  refine ⟨_, rfl, ?_⟩
  have M5 := M4.callB hb5
  refine aK 15 (.agg (List.map jB [y0, y1, y2, y3, 0, 0, 0, 0]).toArray) (congrArg (fun l => Value.agg (List.map jB l).toArray) hy) ?_
  refine aV pU M5 rfl rfl (fun b6 w6 M6 => ?_)
  refine bL 2 _ kU M6 rfl rfl rfl rfl rfl (bA rfl) rfl (fun w7 M7 => ?_)
  refine aE (aF (aH (aB ?_)))
  refine aV pU M7 rfl rfl (fun b8 w8 M8 => ?_)
  refine aE (aF (aH (aH (aB ?_))))
  refine aA (aD (.int _ _) rfl) rfl rfl ?_
  refine aE (aF (aT ?_))
  refine gX 5 (fI ?_)
  refine aH (aH (aB ?_))
  refine aA (aC (.int _ _) rfl) rfl rfl ?_
  refine aA (aN (.bool (decide _)) rfl rfl rfl) rfl rfl ?_
  refine aK 17 (.bool true) (bT (by first | decide | omega)).symm ?_
  refine aE (aF ?_)
  refine cM rfl ?_
  refine aO (aF (aH (aT (aH (aB ?_)))))
  refine aA (aD (.int _ _) rfl) rfl rfl ?_
  refine aE (aF (aH (aH (aB ?_))))
  refine aA (aD (.int _ _) rfl) rfl rfl ?_
  refine aE (aF (aT ?_))
  refine gX 5 (fI ?_)
  refine aH (aH (aB ?_))
  refine aA (aC (.int _ _) rfl) rfl rfl ?_
  refine aA (aN (.bool (decide _)) rfl rfl rfl) rfl rfl ?_
  refine aK 21 (.bool true) (bT (by first | decide | omega)).symm ?_
  refine aE (aF ?_)
  refine cM rfl ?_
  refine aO (aF (aH (aT (aH ?_))))
  refine bY [(0, 0), (1, 0), (2, 0), (3, 0), (4, 0), (5, 1), (6, 0), (7, 0), (8, 0), (9, 1), (10, 0), (11, 0), (12, 0), (13, 1), (14, 0), (15, 0), (16, 0), (17, 0), (18, 0)] mixed rfl (by kernel_rfl) (fun w9 hb9 hh9 => ?_)
  have M9 := M8.drew hb9 hh9
  obtain ⟨t00, ht00, ba00, bb00, bc00, bd00, be00⟩ := eS (z := 0) (c := 0) (x := x0) (y := y0) (by decide) (by decide) hx0 hy0
  refine aP rfl rfl rfl (fun _ => aC (.int _ _) rfl) ?_
  refine aP rfl rfl rfl (fun _ => aC (.int _ _) rfl) ?_
  refine aP rfl rfl rfl (fun _ => aZ rfl rfl (by first | decide | omega) (by first | decide | omega)) ?_
  refine aP rfl rfl rfl (fun _ => aG 0 bJ rfl) ?_
  refine aP rfl rfl rfl (fun _ => cC (0) cH rfl rfl rfl (by decide)) ?_
  refine cB rfl rfl rfl (aQ 3 (.int _ _) bZ M9 rfl rfl rfl) ?_
  refine aP rfl rfl rfl (fun _ => aC (.int _ _) rfl) ?_
  refine aP rfl rfl rfl (fun _ => aG 0 bJ rfl) ?_
  refine aP rfl rfl rfl (fun _ => cC (0) cH rfl rfl rfl (by decide)) ?_
  refine cB rfl rfl rfl (aQ 1 (.int _ _) bZ M9 rfl rfl rfl) ?_
  refine aP rfl rfl rfl (fun _ => aC (.int _ _) rfl) ?_
  refine aP rfl rfl rfl (fun _ => aG 0 bJ rfl) ?_
  refine aP rfl rfl rfl (fun _ => cC (0) cH rfl rfl rfl (by decide)) ?_
  refine cB rfl rfl rfl (aQ 2 (.int _ _) bZ M9 rfl rfl rfl) ?_
  refine aP rfl rfl rfl (fun _ => aN (.int _ _) rfl rfl rfl) ?_
  refine eG 38 (.int .u64 ((x0 * y0 : Nat) : Int)) (iE (iY x0 y0 ba00)) ?_
  refine aP rfl rfl rfl (fun _ => aN (.int _ _) rfl rfl rfl) ?_
  refine eG 39 (.int .u64 ((0 + x0 * y0 : Nat) : Int)) (iE (iU (0) (x0 * y0) bb00)) ?_
  refine aP rfl rfl rfl (fun _ => aC (.int _ _) rfl) ?_
  refine aP rfl rfl rfl (fun _ => aN (.int _ _) rfl rfl rfl) ?_
  refine eG 41 (.int .u64 (t00 : Int)) (iE ((iU (0 + x0 * y0) (0) bc00).trans (congrArg _ ht00.symm))) ?_
  refine aP rfl rfl rfl (fun _ => aD (.int _ _) rfl) ?_
  refine cI ?_
  refine aF (aH (aB ?_))
  refine aA (aC (.int _ _) rfl) rfl rfl ?_
  refine aA (aC (.int _ _) rfl) rfl rfl ?_
  refine aA (aZ rfl rfl (by first | decide | omega) (by first | decide | omega)) rfl rfl ?_
  refine aK 44 (.int .i64 0) (iE (by first | decide | omega)) ?_
  refine aA (aC (.int _ _) rfl) rfl rfl ?_
  refine aA (fY rfl rfl (by decide)) rfl rfl ?_
  refine aK 46 (.int .u64 ((t00 % 65536 : Nat) : Int)) (iE (gJ t00 65536)) ?_
  refine aA (aG 0 bJ rfl) rfl rfl ?_
  refine aA (cC (0) cH rfl rfl rfl (by decide)) rfl rfl ?_
  refine cY 3 (.int _ _) bZ M9 rfl rfl rfl rfl rfl rfl (fun w10 M10 => ?_)
  refine aE (aF (aB ?_))
  refine aA (aC (.int _ _) rfl) rfl rfl ?_
  refine aA (fO rfl rfl (by decide)) rfl rfl ?_
  refine aK 50 (.int .u64 ((t00 / 65536 : Nat) : Int)) (iE (fX t00 65536 bd00)) ?_
  refine aA (aD (.int _ _) rfl) rfl rfl ?_
  refine aE ?_
  refine cS ?_
  refine aF (aB ?_)
  refine aA (aC (.int _ _) rfl) rfl rfl ?_
  refine aA (aZ rfl rfl (by first | decide | omega) (by first | decide | omega)) rfl rfl ?_
  refine aK 23 (.int .i64 1) (iE (by first | decide | omega)) ?_
  refine aA (aD (.int _ _) rfl) rfl rfl ?_
  refine aE ?_
  refine aF (fI ?_)
  refine dZ (fr := [(4, .pointer _), (5, .pointer _), (6, .pointer _), (7, .pointer _), (8, .int .i64 0), (9, .int _ _), (10, .int .i64 1), (11, .int _ _), (16, .int .i64 0), (17, .bool true)]) (bB rfl (bB rfl (bB rfl (bB rfl (bB rfl (bB rfl (bB rfl (bB rfl (bB rfl (bB rfl dO)))))))))) (fun ρ11 => ?_)
  have M12 : Mem _ _ [_, _, _, (some _, bc [.int .u64 ((t00 % 65536 : Nat) : Int), .int .u64 0, .int .u64 0, .int .u64 0, .int .u64 0, .int .u64 0, .int .u64 0, .int .u64 0] 291)] _ := M10
  refine aH (aH (aB ?_))
  refine aA (aC (.int _ _) rfl) rfl rfl ?_
  refine aA (aN (.bool (decide _)) rfl rfl rfl) rfl rfl ?_
  refine aK 21 (.bool true) (bT (by first | decide | omega)).symm ?_
  refine aE (aF ?_)
  refine cM rfl ?_
  refine aO (aF (aH (aT (aH ?_))))
  refine bY [(0, 0), (1, 0), (2, 0), (3, 0), (4, 0), (5, 1), (6, 0), (7, 0), (8, 0), (9, 1), (10, 0), (11, 0), (12, 0), (13, 1), (14, 0), (15, 0), (16, 0), (17, 0), (18, 0)] mixed rfl (by kernel_rfl) (fun w13 hb13 hh13 => ?_)
  have M13 := M12.drew hb13 hh13
  obtain ⟨t01, ht01, ba01, bb01, bc01, bd01, be01⟩ := eS (z := 0) (c := t00 / 65536) (x := x0) (y := y1) (by decide) be00 hx0 hy1
  refine aP rfl rfl rfl (fun _ => aC (.int _ _) rfl) ?_
  refine aP rfl rfl rfl (fun _ => aC (.int _ _) rfl) ?_
  refine aP rfl rfl rfl (fun _ => aZ rfl rfl (by first | decide | omega) (by first | decide | omega)) ?_
  refine aP rfl rfl rfl (fun _ => aG 0 bJ rfl) ?_
  refine aP rfl rfl rfl (fun _ => cC (1) cH rfl rfl rfl (by decide)) ?_
  refine cB rfl rfl rfl (aQ 3 (.int _ _) bZ M13 rfl rfl rfl) ?_
  refine aP rfl rfl rfl (fun _ => aC (.int _ _) rfl) ?_
  refine aP rfl rfl rfl (fun _ => aG 0 bJ rfl) ?_
  refine aP rfl rfl rfl (fun _ => cC (0) cH rfl rfl rfl (by decide)) ?_
  refine cB rfl rfl rfl (aQ 1 (.int _ _) bZ M13 rfl rfl rfl) ?_
  refine aP rfl rfl rfl (fun _ => aC (.int _ _) rfl) ?_
  refine aP rfl rfl rfl (fun _ => aG 0 bJ rfl) ?_
  refine aP rfl rfl rfl (fun _ => cC (1) cH rfl rfl rfl (by decide)) ?_
  refine cB rfl rfl rfl (aQ 2 (.int _ _) bZ M13 rfl rfl rfl) ?_
  refine aP rfl rfl rfl (fun _ => aN (.int _ _) rfl rfl rfl) ?_
  refine eG 38 (.int .u64 ((x0 * y1 : Nat) : Int)) (iE (iY x0 y1 ba01)) ?_
  refine aP rfl rfl rfl (fun _ => aN (.int _ _) rfl rfl rfl) ?_
  refine eG 39 (.int .u64 ((0 + x0 * y1 : Nat) : Int)) (iE (iU (0) (x0 * y1) bb01)) ?_
  refine aP rfl rfl rfl (fun _ => aC (.int _ _) rfl) ?_
  refine aP rfl rfl rfl (fun _ => aN (.int _ _) rfl rfl rfl) ?_
  refine eG 41 (.int .u64 (t01 : Int)) (iE ((iU (0 + x0 * y1) (t00 / 65536) bc01).trans (congrArg _ ht01.symm))) ?_
  refine aP rfl rfl rfl (fun _ => aD (.int _ _) rfl) ?_
  refine cI ?_
  refine aF (aH (aB ?_))
  refine aA (aC (.int _ _) rfl) rfl rfl ?_
  refine aA (aC (.int _ _) rfl) rfl rfl ?_
  refine aA (aZ rfl rfl (by first | decide | omega) (by first | decide | omega)) rfl rfl ?_
  refine aK 44 (.int .i64 1) (iE (by first | decide | omega)) ?_
  refine aA (aC (.int _ _) rfl) rfl rfl ?_
  refine aA (fY rfl rfl (by decide)) rfl rfl ?_
  refine aK 46 (.int .u64 ((t01 % 65536 : Nat) : Int)) (iE (gJ t01 65536)) ?_
  refine aA (aG 0 bJ rfl) rfl rfl ?_
  refine aA (cC (1) cH rfl rfl rfl (by decide)) rfl rfl ?_
  refine cY 3 (.int _ _) bZ M13 rfl rfl rfl rfl rfl rfl (fun w14 M14 => ?_)
  refine aE (aF (aB ?_))
  refine aA (aC (.int _ _) rfl) rfl rfl ?_
  refine aA (fO rfl rfl (by decide)) rfl rfl ?_
  refine aK 50 (.int .u64 ((t01 / 65536 : Nat) : Int)) (iE (fX t01 65536 bd01)) ?_
  refine aA (aD (.int _ _) rfl) rfl rfl ?_
  refine aE ?_
  refine cS ?_
  refine aF (aB ?_)
  refine aA (aC (.int _ _) rfl) rfl rfl ?_
  refine aA (aZ rfl rfl (by first | decide | omega) (by first | decide | omega)) rfl rfl ?_
  refine aK 23 (.int .i64 2) (iE (by first | decide | omega)) ?_
  refine aA (aD (.int _ _) rfl) rfl rfl ?_
  refine aE ?_
  refine aF (fI ?_)
  refine dZ (fr := [(4, .pointer _), (5, .pointer _), (6, .pointer _), (7, .pointer _), (8, .int .i64 0), (9, .int _ _), (10, .int .i64 2), (11, .int _ _), (16, .int .i64 0), (17, .bool true)]) (bB rfl (bB rfl (bB rfl (bB rfl (bB rfl (bB rfl (bB rfl (bB rfl (bB rfl (bB rfl dO)))))))))) (fun ρ15 => ?_)
  have M16 : Mem _ _ [_, _, _, (some _, bc [.int .u64 ((t00 % 65536 : Nat) : Int), .int .u64 ((t01 % 65536 : Nat) : Int), .int .u64 0, .int .u64 0, .int .u64 0, .int .u64 0, .int .u64 0, .int .u64 0] 291)] _ := M14
  refine aH (aH (aB ?_))
  refine aA (aC (.int _ _) rfl) rfl rfl ?_
  refine aA (aN (.bool (decide _)) rfl rfl rfl) rfl rfl ?_
  refine aK 21 (.bool true) (bT (by first | decide | omega)).symm ?_
  refine aE (aF ?_)
  refine cM rfl ?_
  refine aO (aF (aH (aT (aH ?_))))
  refine bY [(0, 0), (1, 0), (2, 0), (3, 0), (4, 0), (5, 1), (6, 0), (7, 0), (8, 0), (9, 1), (10, 0), (11, 0), (12, 0), (13, 1), (14, 0), (15, 0), (16, 0), (17, 0), (18, 0)] mixed rfl (by kernel_rfl) (fun w17 hb17 hh17 => ?_)
  have M17 := M16.drew hb17 hh17
  obtain ⟨t02, ht02, ba02, bb02, bc02, bd02, be02⟩ := eS (z := 0) (c := t01 / 65536) (x := x0) (y := y2) (by decide) be01 hx0 hy2
  refine aP rfl rfl rfl (fun _ => aC (.int _ _) rfl) ?_
  refine aP rfl rfl rfl (fun _ => aC (.int _ _) rfl) ?_
  refine aP rfl rfl rfl (fun _ => aZ rfl rfl (by first | decide | omega) (by first | decide | omega)) ?_
  refine aP rfl rfl rfl (fun _ => aG 0 bJ rfl) ?_
  refine aP rfl rfl rfl (fun _ => cC (2) cH rfl rfl rfl (by decide)) ?_
  refine cB rfl rfl rfl (aQ 3 (.int _ _) bZ M17 rfl rfl rfl) ?_
  refine aP rfl rfl rfl (fun _ => aC (.int _ _) rfl) ?_
  refine aP rfl rfl rfl (fun _ => aG 0 bJ rfl) ?_
  refine aP rfl rfl rfl (fun _ => cC (0) cH rfl rfl rfl (by decide)) ?_
  refine cB rfl rfl rfl (aQ 1 (.int _ _) bZ M17 rfl rfl rfl) ?_
  refine aP rfl rfl rfl (fun _ => aC (.int _ _) rfl) ?_
  refine aP rfl rfl rfl (fun _ => aG 0 bJ rfl) ?_
  refine aP rfl rfl rfl (fun _ => cC (2) cH rfl rfl rfl (by decide)) ?_
  refine cB rfl rfl rfl (aQ 2 (.int _ _) bZ M17 rfl rfl rfl) ?_
  refine aP rfl rfl rfl (fun _ => aN (.int _ _) rfl rfl rfl) ?_
  refine eG 38 (.int .u64 ((x0 * y2 : Nat) : Int)) (iE (iY x0 y2 ba02)) ?_
  refine aP rfl rfl rfl (fun _ => aN (.int _ _) rfl rfl rfl) ?_
  refine eG 39 (.int .u64 ((0 + x0 * y2 : Nat) : Int)) (iE (iU (0) (x0 * y2) bb02)) ?_
  refine aP rfl rfl rfl (fun _ => aC (.int _ _) rfl) ?_
  refine aP rfl rfl rfl (fun _ => aN (.int _ _) rfl rfl rfl) ?_
  refine eG 41 (.int .u64 (t02 : Int)) (iE ((iU (0 + x0 * y2) (t01 / 65536) bc02).trans (congrArg _ ht02.symm))) ?_
  refine aP rfl rfl rfl (fun _ => aD (.int _ _) rfl) ?_
  refine cI ?_
  refine aF (aH (aB ?_))
  refine aA (aC (.int _ _) rfl) rfl rfl ?_
  refine aA (aC (.int _ _) rfl) rfl rfl ?_
  refine aA (aZ rfl rfl (by first | decide | omega) (by first | decide | omega)) rfl rfl ?_
  refine aK 44 (.int .i64 2) (iE (by first | decide | omega)) ?_
  refine aA (aC (.int _ _) rfl) rfl rfl ?_
  refine aA (fY rfl rfl (by decide)) rfl rfl ?_
  refine aK 46 (.int .u64 ((t02 % 65536 : Nat) : Int)) (iE (gJ t02 65536)) ?_
  refine aA (aG 0 bJ rfl) rfl rfl ?_
  refine aA (cC (2) cH rfl rfl rfl (by decide)) rfl rfl ?_
  refine cY 3 (.int _ _) bZ M17 rfl rfl rfl rfl rfl rfl (fun w18 M18 => ?_)
  refine aE (aF (aB ?_))
  refine aA (aC (.int _ _) rfl) rfl rfl ?_
  refine aA (fO rfl rfl (by decide)) rfl rfl ?_
  refine aK 50 (.int .u64 ((t02 / 65536 : Nat) : Int)) (iE (fX t02 65536 bd02)) ?_
  refine aA (aD (.int _ _) rfl) rfl rfl ?_
  refine aE ?_
  refine cS ?_
  refine aF (aB ?_)
  refine aA (aC (.int _ _) rfl) rfl rfl ?_
  refine aA (aZ rfl rfl (by first | decide | omega) (by first | decide | omega)) rfl rfl ?_
  refine aK 23 (.int .i64 3) (iE (by first | decide | omega)) ?_
  refine aA (aD (.int _ _) rfl) rfl rfl ?_
  refine aE ?_
  refine aF (fI ?_)
  refine dZ (fr := [(4, .pointer _), (5, .pointer _), (6, .pointer _), (7, .pointer _), (8, .int .i64 0), (9, .int _ _), (10, .int .i64 3), (11, .int _ _), (16, .int .i64 0), (17, .bool true)]) (bB rfl (bB rfl (bB rfl (bB rfl (bB rfl (bB rfl (bB rfl (bB rfl (bB rfl (bB rfl dO)))))))))) (fun ρ19 => ?_)
  have M20 : Mem _ _ [_, _, _, (some _, bc [.int .u64 ((t00 % 65536 : Nat) : Int), .int .u64 ((t01 % 65536 : Nat) : Int), .int .u64 ((t02 % 65536 : Nat) : Int), .int .u64 0, .int .u64 0, .int .u64 0, .int .u64 0, .int .u64 0] 291)] _ := M18
  refine aH (aH (aB ?_))
  refine aA (aC (.int _ _) rfl) rfl rfl ?_
  refine aA (aN (.bool (decide _)) rfl rfl rfl) rfl rfl ?_
  refine aK 21 (.bool true) (bT (by first | decide | omega)).symm ?_
  refine aE (aF ?_)
  refine cM rfl ?_
  refine aO (aF (aH (aT (aH ?_))))
  refine bY [(0, 0), (1, 0), (2, 0), (3, 0), (4, 0), (5, 1), (6, 0), (7, 0), (8, 0), (9, 1), (10, 0), (11, 0), (12, 0), (13, 1), (14, 0), (15, 0), (16, 0), (17, 0), (18, 0)] mixed rfl (by kernel_rfl) (fun w21 hb21 hh21 => ?_)
  have M21 := M20.drew hb21 hh21
  obtain ⟨t03, ht03, ba03, bb03, bc03, bd03, be03⟩ := eS (z := 0) (c := t02 / 65536) (x := x0) (y := y3) (by decide) be02 hx0 hy3
  refine aP rfl rfl rfl (fun _ => aC (.int _ _) rfl) ?_
  refine aP rfl rfl rfl (fun _ => aC (.int _ _) rfl) ?_
  refine aP rfl rfl rfl (fun _ => aZ rfl rfl (by first | decide | omega) (by first | decide | omega)) ?_
  refine aP rfl rfl rfl (fun _ => aG 0 bJ rfl) ?_
  refine aP rfl rfl rfl (fun _ => cC (3) cH rfl rfl rfl (by decide)) ?_
  refine cB rfl rfl rfl (aQ 3 (.int _ _) bZ M21 rfl rfl rfl) ?_
  refine aP rfl rfl rfl (fun _ => aC (.int _ _) rfl) ?_
  refine aP rfl rfl rfl (fun _ => aG 0 bJ rfl) ?_
  refine aP rfl rfl rfl (fun _ => cC (0) cH rfl rfl rfl (by decide)) ?_
  refine cB rfl rfl rfl (aQ 1 (.int _ _) bZ M21 rfl rfl rfl) ?_
  refine aP rfl rfl rfl (fun _ => aC (.int _ _) rfl) ?_
  refine aP rfl rfl rfl (fun _ => aG 0 bJ rfl) ?_
  refine aP rfl rfl rfl (fun _ => cC (3) cH rfl rfl rfl (by decide)) ?_
  refine cB rfl rfl rfl (aQ 2 (.int _ _) bZ M21 rfl rfl rfl) ?_
  refine aP rfl rfl rfl (fun _ => aN (.int _ _) rfl rfl rfl) ?_
  refine eG 38 (.int .u64 ((x0 * y3 : Nat) : Int)) (iE (iY x0 y3 ba03)) ?_
  refine aP rfl rfl rfl (fun _ => aN (.int _ _) rfl rfl rfl) ?_
  refine eG 39 (.int .u64 ((0 + x0 * y3 : Nat) : Int)) (iE (iU (0) (x0 * y3) bb03)) ?_
  refine aP rfl rfl rfl (fun _ => aC (.int _ _) rfl) ?_
  refine aP rfl rfl rfl (fun _ => aN (.int _ _) rfl rfl rfl) ?_
  refine eG 41 (.int .u64 (t03 : Int)) (iE ((iU (0 + x0 * y3) (t02 / 65536) bc03).trans (congrArg _ ht03.symm))) ?_
  refine aP rfl rfl rfl (fun _ => aD (.int _ _) rfl) ?_
  refine cI ?_
  refine aF (aH (aB ?_))
  refine aA (aC (.int _ _) rfl) rfl rfl ?_
  refine aA (aC (.int _ _) rfl) rfl rfl ?_
  refine aA (aZ rfl rfl (by first | decide | omega) (by first | decide | omega)) rfl rfl ?_
  refine aK 44 (.int .i64 3) (iE (by first | decide | omega)) ?_
  refine aA (aC (.int _ _) rfl) rfl rfl ?_
  refine aA (fY rfl rfl (by decide)) rfl rfl ?_
  refine aK 46 (.int .u64 ((t03 % 65536 : Nat) : Int)) (iE (gJ t03 65536)) ?_
  refine aA (aG 0 bJ rfl) rfl rfl ?_
  refine aA (cC (3) cH rfl rfl rfl (by decide)) rfl rfl ?_
  refine cY 3 (.int _ _) bZ M21 rfl rfl rfl rfl rfl rfl (fun w22 M22 => ?_)
  refine aE (aF (aB ?_))
  refine aA (aC (.int _ _) rfl) rfl rfl ?_
  refine aA (fO rfl rfl (by decide)) rfl rfl ?_
  refine aK 50 (.int .u64 ((t03 / 65536 : Nat) : Int)) (iE (fX t03 65536 bd03)) ?_
  refine aA (aD (.int _ _) rfl) rfl rfl ?_
  refine aE ?_
  refine cS ?_
  refine aF (aB ?_)
  refine aA (aC (.int _ _) rfl) rfl rfl ?_
  refine aA (aZ rfl rfl (by first | decide | omega) (by first | decide | omega)) rfl rfl ?_
  refine aK 23 (.int .i64 4) (iE (by first | decide | omega)) ?_
  refine aA (aD (.int _ _) rfl) rfl rfl ?_
  refine aE ?_
  refine aF (fI ?_)
  refine dZ (fr := [(4, .pointer _), (5, .pointer _), (6, .pointer _), (7, .pointer _), (8, .int .i64 0), (9, .int _ _), (10, .int .i64 4), (11, .int _ _), (16, .int .i64 0), (17, .bool true)]) (bB rfl (bB rfl (bB rfl (bB rfl (bB rfl (bB rfl (bB rfl (bB rfl (bB rfl (bB rfl dO)))))))))) (fun ρ23 => ?_)
  have M24 : Mem _ _ [_, _, _, (some _, bc [.int .u64 ((t00 % 65536 : Nat) : Int), .int .u64 ((t01 % 65536 : Nat) : Int), .int .u64 ((t02 % 65536 : Nat) : Int), .int .u64 ((t03 % 65536 : Nat) : Int), .int .u64 0, .int .u64 0, .int .u64 0, .int .u64 0] 291)] _ := M22
  refine aH (aH (aB ?_))
  refine aA (aC (.int _ _) rfl) rfl rfl ?_
  refine aA (aN (.bool (decide _)) rfl rfl rfl) rfl rfl ?_
  refine aK 21 (.bool false) (bF (by first | decide | omega)).symm ?_
  refine aE (aF ?_)
  refine cP rfl ?_
  refine cQ ?_
  refine cX (cX ?_)
  refine eJ ?_
  refine aF (aB ?_)
  refine aA (aC (.int _ _) rfl) rfl rfl ?_
  refine aA (aZ rfl rfl (by first | decide | omega) (by first | decide | omega)) rfl rfl ?_
  refine aK 52 (.int .i64 4) (iE (by first | decide | omega)) ?_
  refine aA (aC (.int _ _) rfl) rfl rfl ?_
  refine aA (aG 0 bJ rfl) rfl rfl ?_
  refine aA (cC (4) cH rfl rfl rfl (by decide)) rfl rfl ?_
  refine cY 3 (.int _ _) bZ M24 rfl rfl rfl rfl rfl rfl (fun w25 M25 => ?_)
  refine aE ?_
  refine cS ?_
  refine aF (aB ?_)
  refine aA (aC (.int _ _) rfl) rfl rfl ?_
  refine aA (aZ rfl rfl (by first | decide | omega) (by first | decide | omega)) rfl rfl ?_
  refine aK 19 (.int .i64 1) (iE (by first | decide | omega)) ?_
  refine aA (aD (.int _ _) rfl) rfl rfl ?_
  refine aE ?_
  refine aF (fI ?_)
  refine dZ (fr := [(4, .pointer _), (5, .pointer _), (6, .pointer _), (7, .pointer _), (8, .int .i64 1), (9, .int _ _), (10, .int .i64 4), (11, .int _ _)]) (bB rfl (bB rfl (bB rfl (bB rfl (bB rfl (bB rfl (bB rfl (bB rfl dO)))))))) (fun ρ26 => ?_)
  have M27 : Mem _ _ [_, _, _, (some _, bc [.int .u64 ((t00 % 65536 : Nat) : Int), .int .u64 ((t01 % 65536 : Nat) : Int), .int .u64 ((t02 % 65536 : Nat) : Int), .int .u64 ((t03 % 65536 : Nat) : Int), .int .u64 ((t03 / 65536 : Nat) : Int), .int .u64 0, .int .u64 0, .int .u64 0] 291)] _ := M25
  refine aH (aH (aB ?_))
  refine aA (aC (.int _ _) rfl) rfl rfl ?_
  refine aA (aN (.bool (decide _)) rfl rfl rfl) rfl rfl ?_
  refine aK 17 (.bool true) (bT (by first | decide | omega)).symm ?_
  refine aE (aF ?_)
  refine cM rfl ?_
  refine aO (aF (aH (aT (aH (aB ?_)))))
  refine aA (aD (.int _ _) rfl) rfl rfl ?_
  refine aE (aF (aH (aH (aB ?_))))
  refine aA (aD (.int _ _) rfl) rfl rfl ?_
  refine aE (aF (aT ?_))
  refine gX 5 (fI ?_)
  refine aH (aH (aB ?_))
  refine aA (aC (.int _ _) rfl) rfl rfl ?_
  refine aA (aN (.bool (decide _)) rfl rfl rfl) rfl rfl ?_
  refine aK 21 (.bool true) (bT (by first | decide | omega)).symm ?_
  refine aE (aF ?_)
  refine cM rfl ?_
  refine aO (aF (aH (aT (aH ?_))))
  refine bY [(0, 0), (1, 0), (2, 0), (3, 0), (4, 0), (5, 1), (6, 0), (7, 0), (8, 0), (9, 1), (10, 0), (11, 0), (12, 0), (13, 1), (14, 0), (15, 0), (16, 0), (17, 0), (18, 0)] mixed rfl (by kernel_rfl) (fun w28 hb28 hh28 => ?_)
  have M28 := M27.drew hb28 hh28
  obtain ⟨t10, ht10, ba10, bb10, bc10, bd10, be10⟩ := eS (z := t01 % 65536) (c := 0) (x := x1) (y := y0) (Nat.mod_lt _ (by decide)) (by decide) hx1 hy0
  refine aP rfl rfl rfl (fun _ => aC (.int _ _) rfl) ?_
  refine aP rfl rfl rfl (fun _ => aC (.int _ _) rfl) ?_
  refine aP rfl rfl rfl (fun _ => aZ rfl rfl (by first | decide | omega) (by first | decide | omega)) ?_
  refine aP rfl rfl rfl (fun _ => aG 0 bJ rfl) ?_
  refine aP rfl rfl rfl (fun _ => cC (1) cH rfl rfl rfl (by decide)) ?_
  refine cB rfl rfl rfl (aQ 3 (.int _ _) bZ M28 rfl rfl rfl) ?_
  refine aP rfl rfl rfl (fun _ => aC (.int _ _) rfl) ?_
  refine aP rfl rfl rfl (fun _ => aG 0 bJ rfl) ?_
  refine aP rfl rfl rfl (fun _ => cC (1) cH rfl rfl rfl (by decide)) ?_
  refine cB rfl rfl rfl (aQ 1 (.int _ _) bZ M28 rfl rfl rfl) ?_
  refine aP rfl rfl rfl (fun _ => aC (.int _ _) rfl) ?_
  refine aP rfl rfl rfl (fun _ => aG 0 bJ rfl) ?_
  refine aP rfl rfl rfl (fun _ => cC (0) cH rfl rfl rfl (by decide)) ?_
  refine cB rfl rfl rfl (aQ 2 (.int _ _) bZ M28 rfl rfl rfl) ?_
  refine aP rfl rfl rfl (fun _ => aN (.int _ _) rfl rfl rfl) ?_
  refine eG 38 (.int .u64 ((x1 * y0 : Nat) : Int)) (iE (iY x1 y0 ba10)) ?_
  refine aP rfl rfl rfl (fun _ => aN (.int _ _) rfl rfl rfl) ?_
  refine eG 39 (.int .u64 ((t01 % 65536 + x1 * y0 : Nat) : Int)) (iE (iU (t01 % 65536) (x1 * y0) bb10)) ?_
  refine aP rfl rfl rfl (fun _ => aC (.int _ _) rfl) ?_
  refine aP rfl rfl rfl (fun _ => aN (.int _ _) rfl rfl rfl) ?_
  refine eG 41 (.int .u64 (t10 : Int)) (iE ((iU (t01 % 65536 + x1 * y0) (0) bc10).trans (congrArg _ ht10.symm))) ?_
  refine aP rfl rfl rfl (fun _ => aD (.int _ _) rfl) ?_
  refine cI ?_
  refine aF (aH (aB ?_))
  refine aA (aC (.int _ _) rfl) rfl rfl ?_
  refine aA (aC (.int _ _) rfl) rfl rfl ?_
  refine aA (aZ rfl rfl (by first | decide | omega) (by first | decide | omega)) rfl rfl ?_
  refine aK 44 (.int .i64 1) (iE (by first | decide | omega)) ?_
  refine aA (aC (.int _ _) rfl) rfl rfl ?_
  refine aA (fY rfl rfl (by decide)) rfl rfl ?_
  refine aK 46 (.int .u64 ((t10 % 65536 : Nat) : Int)) (iE (gJ t10 65536)) ?_
  refine aA (aG 0 bJ rfl) rfl rfl ?_
  refine aA (cC (1) cH rfl rfl rfl (by decide)) rfl rfl ?_
  refine cY 3 (.int _ _) bZ M28 rfl rfl rfl rfl rfl rfl (fun w29 M29 => ?_)
  refine aE (aF (aB ?_))
  refine aA (aC (.int _ _) rfl) rfl rfl ?_
  refine aA (fO rfl rfl (by decide)) rfl rfl ?_
  refine aK 50 (.int .u64 ((t10 / 65536 : Nat) : Int)) (iE (fX t10 65536 bd10)) ?_
  refine aA (aD (.int _ _) rfl) rfl rfl ?_
  refine aE ?_
  refine cS ?_
  refine aF (aB ?_)
  refine aA (aC (.int _ _) rfl) rfl rfl ?_
  refine aA (aZ rfl rfl (by first | decide | omega) (by first | decide | omega)) rfl rfl ?_
  refine aK 23 (.int .i64 1) (iE (by first | decide | omega)) ?_
  refine aA (aD (.int _ _) rfl) rfl rfl ?_
  refine aE ?_
  refine aF (fI ?_)
  refine dZ (fr := [(4, .pointer _), (5, .pointer _), (6, .pointer _), (7, .pointer _), (8, .int .i64 1), (9, .int _ _), (10, .int .i64 1), (11, .int _ _), (16, .int .i64 1), (17, .bool true)]) (bB rfl (bB rfl (bB rfl (bB rfl (bB rfl (bB rfl (bB rfl (bB rfl (bB rfl (bB rfl dO)))))))))) (fun ρ30 => ?_)
  have M31 : Mem _ _ [_, _, _, (some _, bc [.int .u64 ((t00 % 65536 : Nat) : Int), .int .u64 ((t10 % 65536 : Nat) : Int), .int .u64 ((t02 % 65536 : Nat) : Int), .int .u64 ((t03 % 65536 : Nat) : Int), .int .u64 ((t03 / 65536 : Nat) : Int), .int .u64 0, .int .u64 0, .int .u64 0] 291)] _ := M29
  refine aH (aH (aB ?_))
  refine aA (aC (.int _ _) rfl) rfl rfl ?_
  refine aA (aN (.bool (decide _)) rfl rfl rfl) rfl rfl ?_
  refine aK 21 (.bool true) (bT (by first | decide | omega)).symm ?_
  refine aE (aF ?_)
  refine cM rfl ?_
  refine aO (aF (aH (aT (aH ?_))))
  refine bY [(0, 0), (1, 0), (2, 0), (3, 0), (4, 0), (5, 1), (6, 0), (7, 0), (8, 0), (9, 1), (10, 0), (11, 0), (12, 0), (13, 1), (14, 0), (15, 0), (16, 0), (17, 0), (18, 0)] mixed rfl (by kernel_rfl) (fun w32 hb32 hh32 => ?_)
  have M32 := M31.drew hb32 hh32
  obtain ⟨t11, ht11, ba11, bb11, bc11, bd11, be11⟩ := eS (z := t02 % 65536) (c := t10 / 65536) (x := x1) (y := y1) (Nat.mod_lt _ (by decide)) be10 hx1 hy1
  refine aP rfl rfl rfl (fun _ => aC (.int _ _) rfl) ?_
  refine aP rfl rfl rfl (fun _ => aC (.int _ _) rfl) ?_
  refine aP rfl rfl rfl (fun _ => aZ rfl rfl (by first | decide | omega) (by first | decide | omega)) ?_
  refine aP rfl rfl rfl (fun _ => aG 0 bJ rfl) ?_
  refine aP rfl rfl rfl (fun _ => cC (2) cH rfl rfl rfl (by decide)) ?_
  refine cB rfl rfl rfl (aQ 3 (.int _ _) bZ M32 rfl rfl rfl) ?_
  refine aP rfl rfl rfl (fun _ => aC (.int _ _) rfl) ?_
  refine aP rfl rfl rfl (fun _ => aG 0 bJ rfl) ?_
  refine aP rfl rfl rfl (fun _ => cC (1) cH rfl rfl rfl (by decide)) ?_
  refine cB rfl rfl rfl (aQ 1 (.int _ _) bZ M32 rfl rfl rfl) ?_
  refine aP rfl rfl rfl (fun _ => aC (.int _ _) rfl) ?_
  refine aP rfl rfl rfl (fun _ => aG 0 bJ rfl) ?_
  refine aP rfl rfl rfl (fun _ => cC (1) cH rfl rfl rfl (by decide)) ?_
  refine cB rfl rfl rfl (aQ 2 (.int _ _) bZ M32 rfl rfl rfl) ?_
  refine aP rfl rfl rfl (fun _ => aN (.int _ _) rfl rfl rfl) ?_
  refine eG 38 (.int .u64 ((x1 * y1 : Nat) : Int)) (iE (iY x1 y1 ba11)) ?_
  refine aP rfl rfl rfl (fun _ => aN (.int _ _) rfl rfl rfl) ?_
  refine eG 39 (.int .u64 ((t02 % 65536 + x1 * y1 : Nat) : Int)) (iE (iU (t02 % 65536) (x1 * y1) bb11)) ?_
  refine aP rfl rfl rfl (fun _ => aC (.int _ _) rfl) ?_
  refine aP rfl rfl rfl (fun _ => aN (.int _ _) rfl rfl rfl) ?_
  refine eG 41 (.int .u64 (t11 : Int)) (iE ((iU (t02 % 65536 + x1 * y1) (t10 / 65536) bc11).trans (congrArg _ ht11.symm))) ?_
  refine aP rfl rfl rfl (fun _ => aD (.int _ _) rfl) ?_
  refine cI ?_
  refine aF (aH (aB ?_))
  refine aA (aC (.int _ _) rfl) rfl rfl ?_
  refine aA (aC (.int _ _) rfl) rfl rfl ?_
  refine aA (aZ rfl rfl (by first | decide | omega) (by first | decide | omega)) rfl rfl ?_
  refine aK 44 (.int .i64 2) (iE (by first | decide | omega)) ?_
  refine aA (aC (.int _ _) rfl) rfl rfl ?_
  refine aA (fY rfl rfl (by decide)) rfl rfl ?_
  refine aK 46 (.int .u64 ((t11 % 65536 : Nat) : Int)) (iE (gJ t11 65536)) ?_
  refine aA (aG 0 bJ rfl) rfl rfl ?_
  refine aA (cC (2) cH rfl rfl rfl (by decide)) rfl rfl ?_
  refine cY 3 (.int _ _) bZ M32 rfl rfl rfl rfl rfl rfl (fun w33 M33 => ?_)
  refine aE (aF (aB ?_))
  refine aA (aC (.int _ _) rfl) rfl rfl ?_
  refine aA (fO rfl rfl (by decide)) rfl rfl ?_
  refine aK 50 (.int .u64 ((t11 / 65536 : Nat) : Int)) (iE (fX t11 65536 bd11)) ?_
  refine aA (aD (.int _ _) rfl) rfl rfl ?_
  refine aE ?_
  refine cS ?_
  refine aF (aB ?_)
  refine aA (aC (.int _ _) rfl) rfl rfl ?_
  refine aA (aZ rfl rfl (by first | decide | omega) (by first | decide | omega)) rfl rfl ?_
  refine aK 23 (.int .i64 2) (iE (by first | decide | omega)) ?_
  refine aA (aD (.int _ _) rfl) rfl rfl ?_
  refine aE ?_
  refine aF (fI ?_)
  refine dZ (fr := [(4, .pointer _), (5, .pointer _), (6, .pointer _), (7, .pointer _), (8, .int .i64 1), (9, .int _ _), (10, .int .i64 2), (11, .int _ _), (16, .int .i64 1), (17, .bool true)]) (bB rfl (bB rfl (bB rfl (bB rfl (bB rfl (bB rfl (bB rfl (bB rfl (bB rfl (bB rfl dO)))))))))) (fun ρ34 => ?_)
  have M35 : Mem _ _ [_, _, _, (some _, bc [.int .u64 ((t00 % 65536 : Nat) : Int), .int .u64 ((t10 % 65536 : Nat) : Int), .int .u64 ((t11 % 65536 : Nat) : Int), .int .u64 ((t03 % 65536 : Nat) : Int), .int .u64 ((t03 / 65536 : Nat) : Int), .int .u64 0, .int .u64 0, .int .u64 0] 291)] _ := M33
  refine aH (aH (aB ?_))
  refine aA (aC (.int _ _) rfl) rfl rfl ?_
  refine aA (aN (.bool (decide _)) rfl rfl rfl) rfl rfl ?_
  refine aK 21 (.bool true) (bT (by first | decide | omega)).symm ?_
  refine aE (aF ?_)
  refine cM rfl ?_
  refine aO (aF (aH (aT (aH ?_))))
  refine bY [(0, 0), (1, 0), (2, 0), (3, 0), (4, 0), (5, 1), (6, 0), (7, 0), (8, 0), (9, 1), (10, 0), (11, 0), (12, 0), (13, 1), (14, 0), (15, 0), (16, 0), (17, 0), (18, 0)] mixed rfl (by kernel_rfl) (fun w36 hb36 hh36 => ?_)
  have M36 := M35.drew hb36 hh36
  obtain ⟨t12, ht12, ba12, bb12, bc12, bd12, be12⟩ := eS (z := t03 % 65536) (c := t11 / 65536) (x := x1) (y := y2) (Nat.mod_lt _ (by decide)) be11 hx1 hy2
  refine aP rfl rfl rfl (fun _ => aC (.int _ _) rfl) ?_
  refine aP rfl rfl rfl (fun _ => aC (.int _ _) rfl) ?_
  refine aP rfl rfl rfl (fun _ => aZ rfl rfl (by first | decide | omega) (by first | decide | omega)) ?_
  refine aP rfl rfl rfl (fun _ => aG 0 bJ rfl) ?_
  refine aP rfl rfl rfl (fun _ => cC (3) cH rfl rfl rfl (by decide)) ?_
  refine cB rfl rfl rfl (aQ 3 (.int _ _) bZ M36 rfl rfl rfl) ?_
  refine aP rfl rfl rfl (fun _ => aC (.int _ _) rfl) ?_
  refine aP rfl rfl rfl (fun _ => aG 0 bJ rfl) ?_
  refine aP rfl rfl rfl (fun _ => cC (1) cH rfl rfl rfl (by decide)) ?_
  refine cB rfl rfl rfl (aQ 1 (.int _ _) bZ M36 rfl rfl rfl) ?_
  refine aP rfl rfl rfl (fun _ => aC (.int _ _) rfl) ?_
  refine aP rfl rfl rfl (fun _ => aG 0 bJ rfl) ?_
  refine aP rfl rfl rfl (fun _ => cC (2) cH rfl rfl rfl (by decide)) ?_
  refine cB rfl rfl rfl (aQ 2 (.int _ _) bZ M36 rfl rfl rfl) ?_
  refine aP rfl rfl rfl (fun _ => aN (.int _ _) rfl rfl rfl) ?_
  refine eG 38 (.int .u64 ((x1 * y2 : Nat) : Int)) (iE (iY x1 y2 ba12)) ?_
  refine aP rfl rfl rfl (fun _ => aN (.int _ _) rfl rfl rfl) ?_
  refine eG 39 (.int .u64 ((t03 % 65536 + x1 * y2 : Nat) : Int)) (iE (iU (t03 % 65536) (x1 * y2) bb12)) ?_
  refine aP rfl rfl rfl (fun _ => aC (.int _ _) rfl) ?_
  refine aP rfl rfl rfl (fun _ => aN (.int _ _) rfl rfl rfl) ?_
  refine eG 41 (.int .u64 (t12 : Int)) (iE ((iU (t03 % 65536 + x1 * y2) (t11 / 65536) bc12).trans (congrArg _ ht12.symm))) ?_
  refine aP rfl rfl rfl (fun _ => aD (.int _ _) rfl) ?_
  refine cI ?_
  refine aF (aH (aB ?_))
  refine aA (aC (.int _ _) rfl) rfl rfl ?_
  refine aA (aC (.int _ _) rfl) rfl rfl ?_
  refine aA (aZ rfl rfl (by first | decide | omega) (by first | decide | omega)) rfl rfl ?_
  refine aK 44 (.int .i64 3) (iE (by first | decide | omega)) ?_
  refine aA (aC (.int _ _) rfl) rfl rfl ?_
  refine aA (fY rfl rfl (by decide)) rfl rfl ?_
  refine aK 46 (.int .u64 ((t12 % 65536 : Nat) : Int)) (iE (gJ t12 65536)) ?_
  refine aA (aG 0 bJ rfl) rfl rfl ?_
  refine aA (cC (3) cH rfl rfl rfl (by decide)) rfl rfl ?_
  refine cY 3 (.int _ _) bZ M36 rfl rfl rfl rfl rfl rfl (fun w37 M37 => ?_)
  refine aE (aF (aB ?_))
  refine aA (aC (.int _ _) rfl) rfl rfl ?_
  refine aA (fO rfl rfl (by decide)) rfl rfl ?_
  refine aK 50 (.int .u64 ((t12 / 65536 : Nat) : Int)) (iE (fX t12 65536 bd12)) ?_
  refine aA (aD (.int _ _) rfl) rfl rfl ?_
  refine aE ?_
  refine cS ?_
  refine aF (aB ?_)
  refine aA (aC (.int _ _) rfl) rfl rfl ?_
  refine aA (aZ rfl rfl (by first | decide | omega) (by first | decide | omega)) rfl rfl ?_
  refine aK 23 (.int .i64 3) (iE (by first | decide | omega)) ?_
  refine aA (aD (.int _ _) rfl) rfl rfl ?_
  refine aE ?_
  refine aF (fI ?_)
  refine dZ (fr := [(4, .pointer _), (5, .pointer _), (6, .pointer _), (7, .pointer _), (8, .int .i64 1), (9, .int _ _), (10, .int .i64 3), (11, .int _ _), (16, .int .i64 1), (17, .bool true)]) (bB rfl (bB rfl (bB rfl (bB rfl (bB rfl (bB rfl (bB rfl (bB rfl (bB rfl (bB rfl dO)))))))))) (fun ρ38 => ?_)
  have M39 : Mem _ _ [_, _, _, (some _, bc [.int .u64 ((t00 % 65536 : Nat) : Int), .int .u64 ((t10 % 65536 : Nat) : Int), .int .u64 ((t11 % 65536 : Nat) : Int), .int .u64 ((t12 % 65536 : Nat) : Int), .int .u64 ((t03 / 65536 : Nat) : Int), .int .u64 0, .int .u64 0, .int .u64 0] 291)] _ := M37
  refine aH (aH (aB ?_))
  refine aA (aC (.int _ _) rfl) rfl rfl ?_
  refine aA (aN (.bool (decide _)) rfl rfl rfl) rfl rfl ?_
  refine aK 21 (.bool true) (bT (by first | decide | omega)).symm ?_
  refine aE (aF ?_)
  refine cM rfl ?_
  refine aO (aF (aH (aT (aH ?_))))
  refine bY [(0, 0), (1, 0), (2, 0), (3, 0), (4, 0), (5, 1), (6, 0), (7, 0), (8, 0), (9, 1), (10, 0), (11, 0), (12, 0), (13, 1), (14, 0), (15, 0), (16, 0), (17, 0), (18, 0)] mixed rfl (by kernel_rfl) (fun w40 hb40 hh40 => ?_)
  have M40 := M39.drew hb40 hh40
  obtain ⟨t13, ht13, ba13, bb13, bc13, bd13, be13⟩ := eS (z := t03 / 65536) (c := t12 / 65536) (x := x1) (y := y3) be03 be12 hx1 hy3
  refine aP rfl rfl rfl (fun _ => aC (.int _ _) rfl) ?_
  refine aP rfl rfl rfl (fun _ => aC (.int _ _) rfl) ?_
  refine aP rfl rfl rfl (fun _ => aZ rfl rfl (by first | decide | omega) (by first | decide | omega)) ?_
  refine aP rfl rfl rfl (fun _ => aG 0 bJ rfl) ?_
  refine aP rfl rfl rfl (fun _ => cC (4) cH rfl rfl rfl (by decide)) ?_
  refine cB rfl rfl rfl (aQ 3 (.int _ _) bZ M40 rfl rfl rfl) ?_
  refine aP rfl rfl rfl (fun _ => aC (.int _ _) rfl) ?_
  refine aP rfl rfl rfl (fun _ => aG 0 bJ rfl) ?_
  refine aP rfl rfl rfl (fun _ => cC (1) cH rfl rfl rfl (by decide)) ?_
  refine cB rfl rfl rfl (aQ 1 (.int _ _) bZ M40 rfl rfl rfl) ?_
  refine aP rfl rfl rfl (fun _ => aC (.int _ _) rfl) ?_
  refine aP rfl rfl rfl (fun _ => aG 0 bJ rfl) ?_
  refine aP rfl rfl rfl (fun _ => cC (3) cH rfl rfl rfl (by decide)) ?_
  refine cB rfl rfl rfl (aQ 2 (.int _ _) bZ M40 rfl rfl rfl) ?_
  refine aP rfl rfl rfl (fun _ => aN (.int _ _) rfl rfl rfl) ?_
  refine eG 38 (.int .u64 ((x1 * y3 : Nat) : Int)) (iE (iY x1 y3 ba13)) ?_
  refine aP rfl rfl rfl (fun _ => aN (.int _ _) rfl rfl rfl) ?_
  refine eG 39 (.int .u64 ((t03 / 65536 + x1 * y3 : Nat) : Int)) (iE (iU (t03 / 65536) (x1 * y3) bb13)) ?_
  refine aP rfl rfl rfl (fun _ => aC (.int _ _) rfl) ?_
  refine aP rfl rfl rfl (fun _ => aN (.int _ _) rfl rfl rfl) ?_
  refine eG 41 (.int .u64 (t13 : Int)) (iE ((iU (t03 / 65536 + x1 * y3) (t12 / 65536) bc13).trans (congrArg _ ht13.symm))) ?_
  refine aP rfl rfl rfl (fun _ => aD (.int _ _) rfl) ?_
  refine cI ?_
  refine aF (aH (aB ?_))
  refine aA (aC (.int _ _) rfl) rfl rfl ?_
  refine aA (aC (.int _ _) rfl) rfl rfl ?_
  refine aA (aZ rfl rfl (by first | decide | omega) (by first | decide | omega)) rfl rfl ?_
  refine aK 44 (.int .i64 4) (iE (by first | decide | omega)) ?_
  refine aA (aC (.int _ _) rfl) rfl rfl ?_
  refine aA (fY rfl rfl (by decide)) rfl rfl ?_
  refine aK 46 (.int .u64 ((t13 % 65536 : Nat) : Int)) (iE (gJ t13 65536)) ?_
  refine aA (aG 0 bJ rfl) rfl rfl ?_
  refine aA (cC (4) cH rfl rfl rfl (by decide)) rfl rfl ?_
  refine cY 3 (.int _ _) bZ M40 rfl rfl rfl rfl rfl rfl (fun w41 M41 => ?_)
  refine aE (aF (aB ?_))
  refine aA (aC (.int _ _) rfl) rfl rfl ?_
  refine aA (fO rfl rfl (by decide)) rfl rfl ?_
  refine aK 50 (.int .u64 ((t13 / 65536 : Nat) : Int)) (iE (fX t13 65536 bd13)) ?_
  refine aA (aD (.int _ _) rfl) rfl rfl ?_
  refine aE ?_
  refine cS ?_
  refine aF (aB ?_)
  refine aA (aC (.int _ _) rfl) rfl rfl ?_
  refine aA (aZ rfl rfl (by first | decide | omega) (by first | decide | omega)) rfl rfl ?_
  refine aK 23 (.int .i64 4) (iE (by first | decide | omega)) ?_
  refine aA (aD (.int _ _) rfl) rfl rfl ?_
  refine aE ?_
  refine aF (fI ?_)
  refine dZ (fr := [(4, .pointer _), (5, .pointer _), (6, .pointer _), (7, .pointer _), (8, .int .i64 1), (9, .int _ _), (10, .int .i64 4), (11, .int _ _), (16, .int .i64 1), (17, .bool true)]) (bB rfl (bB rfl (bB rfl (bB rfl (bB rfl (bB rfl (bB rfl (bB rfl (bB rfl (bB rfl dO)))))))))) (fun ρ42 => ?_)
  have M43 : Mem _ _ [_, _, _, (some _, bc [.int .u64 ((t00 % 65536 : Nat) : Int), .int .u64 ((t10 % 65536 : Nat) : Int), .int .u64 ((t11 % 65536 : Nat) : Int), .int .u64 ((t12 % 65536 : Nat) : Int), .int .u64 ((t13 % 65536 : Nat) : Int), .int .u64 0, .int .u64 0, .int .u64 0] 291)] _ := M41
  refine aH (aH (aB ?_))
  refine aA (aC (.int _ _) rfl) rfl rfl ?_
  refine aA (aN (.bool (decide _)) rfl rfl rfl) rfl rfl ?_
  refine aK 21 (.bool false) (bF (by first | decide | omega)).symm ?_
  refine aE (aF ?_)
  refine cP rfl ?_
  refine cQ ?_
  refine cX (cX ?_)
  refine eJ ?_
  refine aF (aB ?_)
  refine aA (aC (.int _ _) rfl) rfl rfl ?_
  refine aA (aZ rfl rfl (by first | decide | omega) (by first | decide | omega)) rfl rfl ?_
  refine aK 52 (.int .i64 5) (iE (by first | decide | omega)) ?_
  refine aA (aC (.int _ _) rfl) rfl rfl ?_
  refine aA (aG 0 bJ rfl) rfl rfl ?_
  refine aA (cC (5) cH rfl rfl rfl (by decide)) rfl rfl ?_
  refine cY 3 (.int _ _) bZ M43 rfl rfl rfl rfl rfl rfl (fun w44 M44 => ?_)
  refine aE ?_
  refine cS ?_
  refine aF (aB ?_)
  refine aA (aC (.int _ _) rfl) rfl rfl ?_
  refine aA (aZ rfl rfl (by first | decide | omega) (by first | decide | omega)) rfl rfl ?_
  refine aK 19 (.int .i64 2) (iE (by first | decide | omega)) ?_
  refine aA (aD (.int _ _) rfl) rfl rfl ?_
  refine aE ?_
  refine aF (fI ?_)
  refine dZ (fr := [(4, .pointer _), (5, .pointer _), (6, .pointer _), (7, .pointer _), (8, .int .i64 2), (9, .int _ _), (10, .int .i64 4), (11, .int _ _)]) (bB rfl (bB rfl (bB rfl (bB rfl (bB rfl (bB rfl (bB rfl (bB rfl dO)))))))) (fun ρ45 => ?_)
  have M46 : Mem _ _ [_, _, _, (some _, bc [.int .u64 ((t00 % 65536 : Nat) : Int), .int .u64 ((t10 % 65536 : Nat) : Int), .int .u64 ((t11 % 65536 : Nat) : Int), .int .u64 ((t12 % 65536 : Nat) : Int), .int .u64 ((t13 % 65536 : Nat) : Int), .int .u64 ((t13 / 65536 : Nat) : Int), .int .u64 0, .int .u64 0] 291)] _ := M44
  refine aH (aH (aB ?_))
  refine aA (aC (.int _ _) rfl) rfl rfl ?_
  refine aA (aN (.bool (decide _)) rfl rfl rfl) rfl rfl ?_
  refine aK 17 (.bool true) (bT (by first | decide | omega)).symm ?_
  refine aE (aF ?_)
  refine cM rfl ?_
  refine aO (aF (aH (aT (aH (aB ?_)))))
  refine aA (aD (.int _ _) rfl) rfl rfl ?_
  refine aE (aF (aH (aH (aB ?_))))
  refine aA (aD (.int _ _) rfl) rfl rfl ?_
  refine aE (aF (aT ?_))
  refine gX 5 (fI ?_)
  refine aH (aH (aB ?_))
  refine aA (aC (.int _ _) rfl) rfl rfl ?_
  refine aA (aN (.bool (decide _)) rfl rfl rfl) rfl rfl ?_
  refine aK 21 (.bool true) (bT (by first | decide | omega)).symm ?_
  refine aE (aF ?_)
  refine cM rfl ?_
  refine aO (aF (aH (aT (aH ?_))))
  refine bY [(0, 0), (1, 0), (2, 0), (3, 0), (4, 0), (5, 1), (6, 0), (7, 0), (8, 0), (9, 1), (10, 0), (11, 0), (12, 0), (13, 1), (14, 0), (15, 0), (16, 0), (17, 0), (18, 0)] mixed rfl (by kernel_rfl) (fun w47 hb47 hh47 => ?_)
  have M47 := M46.drew hb47 hh47
  obtain ⟨t20, ht20, ba20, bb20, bc20, bd20, be20⟩ := eS (z := t11 % 65536) (c := 0) (x := x2) (y := y0) (Nat.mod_lt _ (by decide)) (by decide) hx2 hy0
  refine aP rfl rfl rfl (fun _ => aC (.int _ _) rfl) ?_
  refine aP rfl rfl rfl (fun _ => aC (.int _ _) rfl) ?_
  refine aP rfl rfl rfl (fun _ => aZ rfl rfl (by first | decide | omega) (by first | decide | omega)) ?_
  refine aP rfl rfl rfl (fun _ => aG 0 bJ rfl) ?_
  refine aP rfl rfl rfl (fun _ => cC (2) cH rfl rfl rfl (by decide)) ?_
  refine cB rfl rfl rfl (aQ 3 (.int _ _) bZ M47 rfl rfl rfl) ?_
  refine aP rfl rfl rfl (fun _ => aC (.int _ _) rfl) ?_
  refine aP rfl rfl rfl (fun _ => aG 0 bJ rfl) ?_
  refine aP rfl rfl rfl (fun _ => cC (2) cH rfl rfl rfl (by decide)) ?_
  refine cB rfl rfl rfl (aQ 1 (.int _ _) bZ M47 rfl rfl rfl) ?_
  refine aP rfl rfl rfl (fun _ => aC (.int _ _) rfl) ?_
  refine aP rfl rfl rfl (fun _ => aG 0 bJ rfl) ?_
  refine aP rfl rfl rfl (fun _ => cC (0) cH rfl rfl rfl (by decide)) ?_
  refine cB rfl rfl rfl (aQ 2 (.int _ _) bZ M47 rfl rfl rfl) ?_
  refine aP rfl rfl rfl (fun _ => aN (.int _ _) rfl rfl rfl) ?_
  refine eG 38 (.int .u64 ((x2 * y0 : Nat) : Int)) (iE (iY x2 y0 ba20)) ?_
  refine aP rfl rfl rfl (fun _ => aN (.int _ _) rfl rfl rfl) ?_
  refine eG 39 (.int .u64 ((t11 % 65536 + x2 * y0 : Nat) : Int)) (iE (iU (t11 % 65536) (x2 * y0) bb20)) ?_
  refine aP rfl rfl rfl (fun _ => aC (.int _ _) rfl) ?_
  refine aP rfl rfl rfl (fun _ => aN (.int _ _) rfl rfl rfl) ?_
  refine eG 41 (.int .u64 (t20 : Int)) (iE ((iU (t11 % 65536 + x2 * y0) (0) bc20).trans (congrArg _ ht20.symm))) ?_
  refine aP rfl rfl rfl (fun _ => aD (.int _ _) rfl) ?_
  refine cI ?_
  refine aF (aH (aB ?_))
  refine aA (aC (.int _ _) rfl) rfl rfl ?_
  refine aA (aC (.int _ _) rfl) rfl rfl ?_
  refine aA (aZ rfl rfl (by first | decide | omega) (by first | decide | omega)) rfl rfl ?_
  refine aK 44 (.int .i64 2) (iE (by first | decide | omega)) ?_
  refine aA (aC (.int _ _) rfl) rfl rfl ?_
  refine aA (fY rfl rfl (by decide)) rfl rfl ?_
  refine aK 46 (.int .u64 ((t20 % 65536 : Nat) : Int)) (iE (gJ t20 65536)) ?_
  refine aA (aG 0 bJ rfl) rfl rfl ?_
  refine aA (cC (2) cH rfl rfl rfl (by decide)) rfl rfl ?_
  refine cY 3 (.int _ _) bZ M47 rfl rfl rfl rfl rfl rfl (fun w48 M48 => ?_)
  refine aE (aF (aB ?_))
  refine aA (aC (.int _ _) rfl) rfl rfl ?_
  refine aA (fO rfl rfl (by decide)) rfl rfl ?_
  refine aK 50 (.int .u64 ((t20 / 65536 : Nat) : Int)) (iE (fX t20 65536 bd20)) ?_
  refine aA (aD (.int _ _) rfl) rfl rfl ?_
  refine aE ?_
  refine cS ?_
  refine aF (aB ?_)
  refine aA (aC (.int _ _) rfl) rfl rfl ?_
  refine aA (aZ rfl rfl (by first | decide | omega) (by first | decide | omega)) rfl rfl ?_
  refine aK 23 (.int .i64 1) (iE (by first | decide | omega)) ?_
  refine aA (aD (.int _ _) rfl) rfl rfl ?_
  refine aE ?_
  refine aF (fI ?_)
  refine dZ (fr := [(4, .pointer _), (5, .pointer _), (6, .pointer _), (7, .pointer _), (8, .int .i64 2), (9, .int _ _), (10, .int .i64 1), (11, .int _ _), (16, .int .i64 2), (17, .bool true)]) (bB rfl (bB rfl (bB rfl (bB rfl (bB rfl (bB rfl (bB rfl (bB rfl (bB rfl (bB rfl dO)))))))))) (fun ρ49 => ?_)
  have M50 : Mem _ _ [_, _, _, (some _, bc [.int .u64 ((t00 % 65536 : Nat) : Int), .int .u64 ((t10 % 65536 : Nat) : Int), .int .u64 ((t20 % 65536 : Nat) : Int), .int .u64 ((t12 % 65536 : Nat) : Int), .int .u64 ((t13 % 65536 : Nat) : Int), .int .u64 ((t13 / 65536 : Nat) : Int), .int .u64 0, .int .u64 0] 291)] _ := M48
  refine aH (aH (aB ?_))
  refine aA (aC (.int _ _) rfl) rfl rfl ?_
  refine aA (aN (.bool (decide _)) rfl rfl rfl) rfl rfl ?_
  refine aK 21 (.bool true) (bT (by first | decide | omega)).symm ?_
  refine aE (aF ?_)
  refine cM rfl ?_
  refine aO (aF (aH (aT (aH ?_))))
  refine bY [(0, 0), (1, 0), (2, 0), (3, 0), (4, 0), (5, 1), (6, 0), (7, 0), (8, 0), (9, 1), (10, 0), (11, 0), (12, 0), (13, 1), (14, 0), (15, 0), (16, 0), (17, 0), (18, 0)] mixed rfl (by kernel_rfl) (fun w51 hb51 hh51 => ?_)
  have M51 := M50.drew hb51 hh51
  obtain ⟨t21, ht21, ba21, bb21, bc21, bd21, be21⟩ := eS (z := t12 % 65536) (c := t20 / 65536) (x := x2) (y := y1) (Nat.mod_lt _ (by decide)) be20 hx2 hy1
  refine aP rfl rfl rfl (fun _ => aC (.int _ _) rfl) ?_
  refine aP rfl rfl rfl (fun _ => aC (.int _ _) rfl) ?_
  refine aP rfl rfl rfl (fun _ => aZ rfl rfl (by first | decide | omega) (by first | decide | omega)) ?_
  refine aP rfl rfl rfl (fun _ => aG 0 bJ rfl) ?_
  refine aP rfl rfl rfl (fun _ => cC (3) cH rfl rfl rfl (by decide)) ?_
  refine cB rfl rfl rfl (aQ 3 (.int _ _) bZ M51 rfl rfl rfl) ?_
  refine aP rfl rfl rfl (fun _ => aC (.int _ _) rfl) ?_
  refine aP rfl rfl rfl (fun _ => aG 0 bJ rfl) ?_
  refine aP rfl rfl rfl (fun _ => cC (2) cH rfl rfl rfl (by decide)) ?_
  refine cB rfl rfl rfl (aQ 1 (.int _ _) bZ M51 rfl rfl rfl) ?_
  refine aP rfl rfl rfl (fun _ => aC (.int _ _) rfl) ?_
  refine aP rfl rfl rfl (fun _ => aG 0 bJ rfl) ?_
  refine aP rfl rfl rfl (fun _ => cC (1) cH rfl rfl rfl (by decide)) ?_
  refine cB rfl rfl rfl (aQ 2 (.int _ _) bZ M51 rfl rfl rfl) ?_
  refine aP rfl rfl rfl (fun _ => aN (.int _ _) rfl rfl rfl) ?_
  refine eG 38 (.int .u64 ((x2 * y1 : Nat) : Int)) (iE (iY x2 y1 ba21)) ?_
  refine aP rfl rfl rfl (fun _ => aN (.int _ _) rfl rfl rfl) ?_
  refine eG 39 (.int .u64 ((t12 % 65536 + x2 * y1 : Nat) : Int)) (iE (iU (t12 % 65536) (x2 * y1) bb21)) ?_
  refine aP rfl rfl rfl (fun _ => aC (.int _ _) rfl) ?_
  refine aP rfl rfl rfl (fun _ => aN (.int _ _) rfl rfl rfl) ?_
  refine eG 41 (.int .u64 (t21 : Int)) (iE ((iU (t12 % 65536 + x2 * y1) (t20 / 65536) bc21).trans (congrArg _ ht21.symm))) ?_
  refine aP rfl rfl rfl (fun _ => aD (.int _ _) rfl) ?_
  refine cI ?_
  refine aF (aH (aB ?_))
  refine aA (aC (.int _ _) rfl) rfl rfl ?_
  refine aA (aC (.int _ _) rfl) rfl rfl ?_
  refine aA (aZ rfl rfl (by first | decide | omega) (by first | decide | omega)) rfl rfl ?_
  refine aK 44 (.int .i64 3) (iE (by first | decide | omega)) ?_
  refine aA (aC (.int _ _) rfl) rfl rfl ?_
  refine aA (fY rfl rfl (by decide)) rfl rfl ?_
  refine aK 46 (.int .u64 ((t21 % 65536 : Nat) : Int)) (iE (gJ t21 65536)) ?_
  refine aA (aG 0 bJ rfl) rfl rfl ?_
  refine aA (cC (3) cH rfl rfl rfl (by decide)) rfl rfl ?_
  refine cY 3 (.int _ _) bZ M51 rfl rfl rfl rfl rfl rfl (fun w52 M52 => ?_)
  refine aE (aF (aB ?_))
  refine aA (aC (.int _ _) rfl) rfl rfl ?_
  refine aA (fO rfl rfl (by decide)) rfl rfl ?_
  refine aK 50 (.int .u64 ((t21 / 65536 : Nat) : Int)) (iE (fX t21 65536 bd21)) ?_
  refine aA (aD (.int _ _) rfl) rfl rfl ?_
  refine aE ?_
  refine cS ?_
  refine aF (aB ?_)
  refine aA (aC (.int _ _) rfl) rfl rfl ?_
  refine aA (aZ rfl rfl (by first | decide | omega) (by first | decide | omega)) rfl rfl ?_
  refine aK 23 (.int .i64 2) (iE (by first | decide | omega)) ?_
  refine aA (aD (.int _ _) rfl) rfl rfl ?_
  refine aE ?_
  refine aF (fI ?_)
  refine dZ (fr := [(4, .pointer _), (5, .pointer _), (6, .pointer _), (7, .pointer _), (8, .int .i64 2), (9, .int _ _), (10, .int .i64 2), (11, .int _ _), (16, .int .i64 2), (17, .bool true)]) (bB rfl (bB rfl (bB rfl (bB rfl (bB rfl (bB rfl (bB rfl (bB rfl (bB rfl (bB rfl dO)))))))))) (fun ρ53 => ?_)
  have M54 : Mem _ _ [_, _, _, (some _, bc [.int .u64 ((t00 % 65536 : Nat) : Int), .int .u64 ((t10 % 65536 : Nat) : Int), .int .u64 ((t20 % 65536 : Nat) : Int), .int .u64 ((t21 % 65536 : Nat) : Int), .int .u64 ((t13 % 65536 : Nat) : Int), .int .u64 ((t13 / 65536 : Nat) : Int), .int .u64 0, .int .u64 0] 291)] _ := M52
  refine aH (aH (aB ?_))
  refine aA (aC (.int _ _) rfl) rfl rfl ?_
  refine aA (aN (.bool (decide _)) rfl rfl rfl) rfl rfl ?_
  refine aK 21 (.bool true) (bT (by first | decide | omega)).symm ?_
  refine aE (aF ?_)
  refine cM rfl ?_
  refine aO (aF (aH (aT (aH ?_))))
  refine bY [(0, 0), (1, 0), (2, 0), (3, 0), (4, 0), (5, 1), (6, 0), (7, 0), (8, 0), (9, 1), (10, 0), (11, 0), (12, 0), (13, 1), (14, 0), (15, 0), (16, 0), (17, 0), (18, 0)] mixed rfl (by kernel_rfl) (fun w55 hb55 hh55 => ?_)
  have M55 := M54.drew hb55 hh55
  obtain ⟨t22, ht22, ba22, bb22, bc22, bd22, be22⟩ := eS (z := t13 % 65536) (c := t21 / 65536) (x := x2) (y := y2) (Nat.mod_lt _ (by decide)) be21 hx2 hy2
  refine aP rfl rfl rfl (fun _ => aC (.int _ _) rfl) ?_
  refine aP rfl rfl rfl (fun _ => aC (.int _ _) rfl) ?_
  refine aP rfl rfl rfl (fun _ => aZ rfl rfl (by first | decide | omega) (by first | decide | omega)) ?_
  refine aP rfl rfl rfl (fun _ => aG 0 bJ rfl) ?_
  refine aP rfl rfl rfl (fun _ => cC (4) cH rfl rfl rfl (by decide)) ?_
  refine cB rfl rfl rfl (aQ 3 (.int _ _) bZ M55 rfl rfl rfl) ?_
  refine aP rfl rfl rfl (fun _ => aC (.int _ _) rfl) ?_
  refine aP rfl rfl rfl (fun _ => aG 0 bJ rfl) ?_
  refine aP rfl rfl rfl (fun _ => cC (2) cH rfl rfl rfl (by decide)) ?_
  refine cB rfl rfl rfl (aQ 1 (.int _ _) bZ M55 rfl rfl rfl) ?_
  refine aP rfl rfl rfl (fun _ => aC (.int _ _) rfl) ?_
  refine aP rfl rfl rfl (fun _ => aG 0 bJ rfl) ?_
  refine aP rfl rfl rfl (fun _ => cC (2) cH rfl rfl rfl (by decide)) ?_
  refine cB rfl rfl rfl (aQ 2 (.int _ _) bZ M55 rfl rfl rfl) ?_
  refine aP rfl rfl rfl (fun _ => aN (.int _ _) rfl rfl rfl) ?_
  refine eG 38 (.int .u64 ((x2 * y2 : Nat) : Int)) (iE (iY x2 y2 ba22)) ?_
  refine aP rfl rfl rfl (fun _ => aN (.int _ _) rfl rfl rfl) ?_
  refine eG 39 (.int .u64 ((t13 % 65536 + x2 * y2 : Nat) : Int)) (iE (iU (t13 % 65536) (x2 * y2) bb22)) ?_
  refine aP rfl rfl rfl (fun _ => aC (.int _ _) rfl) ?_
  refine aP rfl rfl rfl (fun _ => aN (.int _ _) rfl rfl rfl) ?_
  refine eG 41 (.int .u64 (t22 : Int)) (iE ((iU (t13 % 65536 + x2 * y2) (t21 / 65536) bc22).trans (congrArg _ ht22.symm))) ?_
  refine aP rfl rfl rfl (fun _ => aD (.int _ _) rfl) ?_
  refine cI ?_
  refine aF (aH (aB ?_))
  refine aA (aC (.int _ _) rfl) rfl rfl ?_
  refine aA (aC (.int _ _) rfl) rfl rfl ?_
  refine aA (aZ rfl rfl (by first | decide | omega) (by first | decide | omega)) rfl rfl ?_
  refine aK 44 (.int .i64 4) (iE (by first | decide | omega)) ?_
  refine aA (aC (.int _ _) rfl) rfl rfl ?_
  refine aA (fY rfl rfl (by decide)) rfl rfl ?_
  refine aK 46 (.int .u64 ((t22 % 65536 : Nat) : Int)) (iE (gJ t22 65536)) ?_
  refine aA (aG 0 bJ rfl) rfl rfl ?_
  refine aA (cC (4) cH rfl rfl rfl (by decide)) rfl rfl ?_
  refine cY 3 (.int _ _) bZ M55 rfl rfl rfl rfl rfl rfl (fun w56 M56 => ?_)
  refine aE (aF (aB ?_))
  refine aA (aC (.int _ _) rfl) rfl rfl ?_
  refine aA (fO rfl rfl (by decide)) rfl rfl ?_
  refine aK 50 (.int .u64 ((t22 / 65536 : Nat) : Int)) (iE (fX t22 65536 bd22)) ?_
  refine aA (aD (.int _ _) rfl) rfl rfl ?_
  refine aE ?_
  refine cS ?_
  refine aF (aB ?_)
  refine aA (aC (.int _ _) rfl) rfl rfl ?_
  refine aA (aZ rfl rfl (by first | decide | omega) (by first | decide | omega)) rfl rfl ?_
  refine aK 23 (.int .i64 3) (iE (by first | decide | omega)) ?_
  refine aA (aD (.int _ _) rfl) rfl rfl ?_
  refine aE ?_
  refine aF (fI ?_)
  refine dZ (fr := [(4, .pointer _), (5, .pointer _), (6, .pointer _), (7, .pointer _), (8, .int .i64 2), (9, .int _ _), (10, .int .i64 3), (11, .int _ _), (16, .int .i64 2), (17, .bool true)]) (bB rfl (bB rfl (bB rfl (bB rfl (bB rfl (bB rfl (bB rfl (bB rfl (bB rfl (bB rfl dO)))))))))) (fun ρ57 => ?_)
  have M58 : Mem _ _ [_, _, _, (some _, bc [.int .u64 ((t00 % 65536 : Nat) : Int), .int .u64 ((t10 % 65536 : Nat) : Int), .int .u64 ((t20 % 65536 : Nat) : Int), .int .u64 ((t21 % 65536 : Nat) : Int), .int .u64 ((t22 % 65536 : Nat) : Int), .int .u64 ((t13 / 65536 : Nat) : Int), .int .u64 0, .int .u64 0] 291)] _ := M56
  refine aH (aH (aB ?_))
  refine aA (aC (.int _ _) rfl) rfl rfl ?_
  refine aA (aN (.bool (decide _)) rfl rfl rfl) rfl rfl ?_
  refine aK 21 (.bool true) (bT (by first | decide | omega)).symm ?_
  refine aE (aF ?_)
  refine cM rfl ?_
  refine aO (aF (aH (aT (aH ?_))))
  refine bY [(0, 0), (1, 0), (2, 0), (3, 0), (4, 0), (5, 1), (6, 0), (7, 0), (8, 0), (9, 1), (10, 0), (11, 0), (12, 0), (13, 1), (14, 0), (15, 0), (16, 0), (17, 0), (18, 0)] mixed rfl (by kernel_rfl) (fun w59 hb59 hh59 => ?_)
  have M59 := M58.drew hb59 hh59
  obtain ⟨t23, ht23, ba23, bb23, bc23, bd23, be23⟩ := eS (z := t13 / 65536) (c := t22 / 65536) (x := x2) (y := y3) be13 be22 hx2 hy3
  refine aP rfl rfl rfl (fun _ => aC (.int _ _) rfl) ?_
  refine aP rfl rfl rfl (fun _ => aC (.int _ _) rfl) ?_
  refine aP rfl rfl rfl (fun _ => aZ rfl rfl (by first | decide | omega) (by first | decide | omega)) ?_
  refine aP rfl rfl rfl (fun _ => aG 0 bJ rfl) ?_
  refine aP rfl rfl rfl (fun _ => cC (5) cH rfl rfl rfl (by decide)) ?_
  refine cB rfl rfl rfl (aQ 3 (.int _ _) bZ M59 rfl rfl rfl) ?_
  refine aP rfl rfl rfl (fun _ => aC (.int _ _) rfl) ?_
  refine aP rfl rfl rfl (fun _ => aG 0 bJ rfl) ?_
  refine aP rfl rfl rfl (fun _ => cC (2) cH rfl rfl rfl (by decide)) ?_
  refine cB rfl rfl rfl (aQ 1 (.int _ _) bZ M59 rfl rfl rfl) ?_
  refine aP rfl rfl rfl (fun _ => aC (.int _ _) rfl) ?_
  refine aP rfl rfl rfl (fun _ => aG 0 bJ rfl) ?_
  refine aP rfl rfl rfl (fun _ => cC (3) cH rfl rfl rfl (by decide)) ?_
  refine cB rfl rfl rfl (aQ 2 (.int _ _) bZ M59 rfl rfl rfl) ?_
  refine aP rfl rfl rfl (fun _ => aN (.int _ _) rfl rfl rfl) ?_
  refine eG 38 (.int .u64 ((x2 * y3 : Nat) : Int)) (iE (iY x2 y3 ba23)) ?_
  refine aP rfl rfl rfl (fun _ => aN (.int _ _) rfl rfl rfl) ?_
  refine eG 39 (.int .u64 ((t13 / 65536 + x2 * y3 : Nat) : Int)) (iE (iU (t13 / 65536) (x2 * y3) bb23)) ?_
  refine aP rfl rfl rfl (fun _ => aC (.int _ _) rfl) ?_
  refine aP rfl rfl rfl (fun _ => aN (.int _ _) rfl rfl rfl) ?_
  refine eG 41 (.int .u64 (t23 : Int)) (iE ((iU (t13 / 65536 + x2 * y3) (t22 / 65536) bc23).trans (congrArg _ ht23.symm))) ?_
  refine aP rfl rfl rfl (fun _ => aD (.int _ _) rfl) ?_
  refine cI ?_
  refine aF (aH (aB ?_))
  refine aA (aC (.int _ _) rfl) rfl rfl ?_
  refine aA (aC (.int _ _) rfl) rfl rfl ?_
  refine aA (aZ rfl rfl (by first | decide | omega) (by first | decide | omega)) rfl rfl ?_
  refine aK 44 (.int .i64 5) (iE (by first | decide | omega)) ?_
  refine aA (aC (.int _ _) rfl) rfl rfl ?_
  refine aA (fY rfl rfl (by decide)) rfl rfl ?_
  refine aK 46 (.int .u64 ((t23 % 65536 : Nat) : Int)) (iE (gJ t23 65536)) ?_
  refine aA (aG 0 bJ rfl) rfl rfl ?_
  refine aA (cC (5) cH rfl rfl rfl (by decide)) rfl rfl ?_
  refine cY 3 (.int _ _) bZ M59 rfl rfl rfl rfl rfl rfl (fun w60 M60 => ?_)
  refine aE (aF (aB ?_))
  refine aA (aC (.int _ _) rfl) rfl rfl ?_
  refine aA (fO rfl rfl (by decide)) rfl rfl ?_
  refine aK 50 (.int .u64 ((t23 / 65536 : Nat) : Int)) (iE (fX t23 65536 bd23)) ?_
  refine aA (aD (.int _ _) rfl) rfl rfl ?_
  refine aE ?_
  refine cS ?_
  refine aF (aB ?_)
  refine aA (aC (.int _ _) rfl) rfl rfl ?_
  refine aA (aZ rfl rfl (by first | decide | omega) (by first | decide | omega)) rfl rfl ?_
  refine aK 23 (.int .i64 4) (iE (by first | decide | omega)) ?_
  refine aA (aD (.int _ _) rfl) rfl rfl ?_
  refine aE ?_
  refine aF (fI ?_)
  refine dZ (fr := [(4, .pointer _), (5, .pointer _), (6, .pointer _), (7, .pointer _), (8, .int .i64 2), (9, .int _ _), (10, .int .i64 4), (11, .int _ _), (16, .int .i64 2), (17, .bool true)]) (bB rfl (bB rfl (bB rfl (bB rfl (bB rfl (bB rfl (bB rfl (bB rfl (bB rfl (bB rfl dO)))))))))) (fun ρ61 => ?_)
  have M62 : Mem _ _ [_, _, _, (some _, bc [.int .u64 ((t00 % 65536 : Nat) : Int), .int .u64 ((t10 % 65536 : Nat) : Int), .int .u64 ((t20 % 65536 : Nat) : Int), .int .u64 ((t21 % 65536 : Nat) : Int), .int .u64 ((t22 % 65536 : Nat) : Int), .int .u64 ((t23 % 65536 : Nat) : Int), .int .u64 0, .int .u64 0] 291)] _ := M60
  refine aH (aH (aB ?_))
  refine aA (aC (.int _ _) rfl) rfl rfl ?_
  refine aA (aN (.bool (decide _)) rfl rfl rfl) rfl rfl ?_
  refine aK 21 (.bool false) (bF (by first | decide | omega)).symm ?_
  refine aE (aF ?_)
  refine cP rfl ?_
  refine cQ ?_
  refine cX (cX ?_)
  refine eJ ?_
  refine aF (aB ?_)
  refine aA (aC (.int _ _) rfl) rfl rfl ?_
  refine aA (aZ rfl rfl (by first | decide | omega) (by first | decide | omega)) rfl rfl ?_
  refine aK 52 (.int .i64 6) (iE (by first | decide | omega)) ?_
  refine aA (aC (.int _ _) rfl) rfl rfl ?_
  refine aA (aG 0 bJ rfl) rfl rfl ?_
  refine aA (cC (6) cH rfl rfl rfl (by decide)) rfl rfl ?_
  refine cY 3 (.int _ _) bZ M62 rfl rfl rfl rfl rfl rfl (fun w63 M63 => ?_)
  refine aE ?_
  refine cS ?_
  refine aF (aB ?_)
  refine aA (aC (.int _ _) rfl) rfl rfl ?_
  refine aA (aZ rfl rfl (by first | decide | omega) (by first | decide | omega)) rfl rfl ?_
  refine aK 19 (.int .i64 3) (iE (by first | decide | omega)) ?_
  refine aA (aD (.int _ _) rfl) rfl rfl ?_
  refine aE ?_
  refine aF (fI ?_)
  refine dZ (fr := [(4, .pointer _), (5, .pointer _), (6, .pointer _), (7, .pointer _), (8, .int .i64 3), (9, .int _ _), (10, .int .i64 4), (11, .int _ _)]) (bB rfl (bB rfl (bB rfl (bB rfl (bB rfl (bB rfl (bB rfl (bB rfl dO)))))))) (fun ρ64 => ?_)
  have M65 : Mem _ _ [_, _, _, (some _, bc [.int .u64 ((t00 % 65536 : Nat) : Int), .int .u64 ((t10 % 65536 : Nat) : Int), .int .u64 ((t20 % 65536 : Nat) : Int), .int .u64 ((t21 % 65536 : Nat) : Int), .int .u64 ((t22 % 65536 : Nat) : Int), .int .u64 ((t23 % 65536 : Nat) : Int), .int .u64 ((t23 / 65536 : Nat) : Int), .int .u64 0] 291)] _ := M63
  refine aH (aH (aB ?_))
  refine aA (aC (.int _ _) rfl) rfl rfl ?_
  refine aA (aN (.bool (decide _)) rfl rfl rfl) rfl rfl ?_
  refine aK 17 (.bool true) (bT (by first | decide | omega)).symm ?_
  refine aE (aF ?_)
  refine cM rfl ?_
  refine aO (aF (aH (aT (aH (aB ?_)))))
  refine aA (aD (.int _ _) rfl) rfl rfl ?_
  refine aE (aF (aH (aH (aB ?_))))
  refine aA (aD (.int _ _) rfl) rfl rfl ?_
  refine aE (aF (aT ?_))
  refine gX 5 (fI ?_)
  refine aH (aH (aB ?_))
  refine aA (aC (.int _ _) rfl) rfl rfl ?_
  refine aA (aN (.bool (decide _)) rfl rfl rfl) rfl rfl ?_
  refine aK 21 (.bool true) (bT (by first | decide | omega)).symm ?_
  refine aE (aF ?_)
  refine cM rfl ?_
  refine aO (aF (aH (aT (aH ?_))))
  refine bY [(0, 0), (1, 0), (2, 0), (3, 0), (4, 0), (5, 1), (6, 0), (7, 0), (8, 0), (9, 1), (10, 0), (11, 0), (12, 0), (13, 1), (14, 0), (15, 0), (16, 0), (17, 0), (18, 0)] mixed rfl (by kernel_rfl) (fun w66 hb66 hh66 => ?_)
  have M66 := M65.drew hb66 hh66
  obtain ⟨t30, ht30, ba30, bb30, bc30, bd30, be30⟩ := eS (z := t21 % 65536) (c := 0) (x := x3) (y := y0) (Nat.mod_lt _ (by decide)) (by decide) hx3 hy0
  refine aP rfl rfl rfl (fun _ => aC (.int _ _) rfl) ?_
  refine aP rfl rfl rfl (fun _ => aC (.int _ _) rfl) ?_
  refine aP rfl rfl rfl (fun _ => aZ rfl rfl (by first | decide | omega) (by first | decide | omega)) ?_
  refine aP rfl rfl rfl (fun _ => aG 0 bJ rfl) ?_
  refine aP rfl rfl rfl (fun _ => cC (3) cH rfl rfl rfl (by decide)) ?_
  refine cB rfl rfl rfl (aQ 3 (.int _ _) bZ M66 rfl rfl rfl) ?_
  refine aP rfl rfl rfl (fun _ => aC (.int _ _) rfl) ?_
  refine aP rfl rfl rfl (fun _ => aG 0 bJ rfl) ?_
  refine aP rfl rfl rfl (fun _ => cC (3) cH rfl rfl rfl (by decide)) ?_
  refine cB rfl rfl rfl (aQ 1 (.int _ _) bZ M66 rfl rfl rfl) ?_
  refine aP rfl rfl rfl (fun _ => aC (.int _ _) rfl) ?_
  refine aP rfl rfl rfl (fun _ => aG 0 bJ rfl) ?_
  refine aP rfl rfl rfl (fun _ => cC (0) cH rfl rfl rfl (by decide)) ?_
  refine cB rfl rfl rfl (aQ 2 (.int _ _) bZ M66 rfl rfl rfl) ?_
  refine aP rfl rfl rfl (fun _ => aN (.int _ _) rfl rfl rfl) ?_
  refine eG 38 (.int .u64 ((x3 * y0 : Nat) : Int)) (iE (iY x3 y0 ba30)) ?_
  refine aP rfl rfl rfl (fun _ => aN (.int _ _) rfl rfl rfl) ?_
  refine eG 39 (.int .u64 ((t21 % 65536 + x3 * y0 : Nat) : Int)) (iE (iU (t21 % 65536) (x3 * y0) bb30)) ?_
  refine aP rfl rfl rfl (fun _ => aC (.int _ _) rfl) ?_
  refine aP rfl rfl rfl (fun _ => aN (.int _ _) rfl rfl rfl) ?_
  refine eG 41 (.int .u64 (t30 : Int)) (iE ((iU (t21 % 65536 + x3 * y0) (0) bc30).trans (congrArg _ ht30.symm))) ?_
  refine aP rfl rfl rfl (fun _ => aD (.int _ _) rfl) ?_
  refine cI ?_
  refine aF (aH (aB ?_))
  refine aA (aC (.int _ _) rfl) rfl rfl ?_
  refine aA (aC (.int _ _) rfl) rfl rfl ?_
  refine aA (aZ rfl rfl (by first | decide | omega) (by first | decide | omega)) rfl rfl ?_
  refine aK 44 (.int .i64 3) (iE (by first | decide | omega)) ?_
  refine aA (aC (.int _ _) rfl) rfl rfl ?_
  refine aA (fY rfl rfl (by decide)) rfl rfl ?_
  refine aK 46 (.int .u64 ((t30 % 65536 : Nat) : Int)) (iE (gJ t30 65536)) ?_
  refine aA (aG 0 bJ rfl) rfl rfl ?_
  refine aA (cC (3) cH rfl rfl rfl (by decide)) rfl rfl ?_
  refine cY 3 (.int _ _) bZ M66 rfl rfl rfl rfl rfl rfl (fun w67 M67 => ?_)
  refine aE (aF (aB ?_))
  refine aA (aC (.int _ _) rfl) rfl rfl ?_
  refine aA (fO rfl rfl (by decide)) rfl rfl ?_
  refine aK 50 (.int .u64 ((t30 / 65536 : Nat) : Int)) (iE (fX t30 65536 bd30)) ?_
  refine aA (aD (.int _ _) rfl) rfl rfl ?_
  refine aE ?_
  refine cS ?_
  refine aF (aB ?_)
  refine aA (aC (.int _ _) rfl) rfl rfl ?_
  refine aA (aZ rfl rfl (by first | decide | omega) (by first | decide | omega)) rfl rfl ?_
  refine aK 23 (.int .i64 1) (iE (by first | decide | omega)) ?_
  refine aA (aD (.int _ _) rfl) rfl rfl ?_
  refine aE ?_
  refine aF (fI ?_)
  refine dZ (fr := [(4, .pointer _), (5, .pointer _), (6, .pointer _), (7, .pointer _), (8, .int .i64 3), (9, .int _ _), (10, .int .i64 1), (11, .int _ _), (16, .int .i64 3), (17, .bool true)]) (bB rfl (bB rfl (bB rfl (bB rfl (bB rfl (bB rfl (bB rfl (bB rfl (bB rfl (bB rfl dO)))))))))) (fun ρ68 => ?_)
  have M69 : Mem _ _ [_, _, _, (some _, bc [.int .u64 ((t00 % 65536 : Nat) : Int), .int .u64 ((t10 % 65536 : Nat) : Int), .int .u64 ((t20 % 65536 : Nat) : Int), .int .u64 ((t30 % 65536 : Nat) : Int), .int .u64 ((t22 % 65536 : Nat) : Int), .int .u64 ((t23 % 65536 : Nat) : Int), .int .u64 ((t23 / 65536 : Nat) : Int), .int .u64 0] 291)] _ := M67
  refine aH (aH (aB ?_))
  refine aA (aC (.int _ _) rfl) rfl rfl ?_
  refine aA (aN (.bool (decide _)) rfl rfl rfl) rfl rfl ?_
  refine aK 21 (.bool true) (bT (by first | decide | omega)).symm ?_
  refine aE (aF ?_)
  refine cM rfl ?_
  refine aO (aF (aH (aT (aH ?_))))
  refine bY [(0, 0), (1, 0), (2, 0), (3, 0), (4, 0), (5, 1), (6, 0), (7, 0), (8, 0), (9, 1), (10, 0), (11, 0), (12, 0), (13, 1), (14, 0), (15, 0), (16, 0), (17, 0), (18, 0)] mixed rfl (by kernel_rfl) (fun w70 hb70 hh70 => ?_)
  have M70 := M69.drew hb70 hh70
  obtain ⟨t31, ht31, ba31, bb31, bc31, bd31, be31⟩ := eS (z := t22 % 65536) (c := t30 / 65536) (x := x3) (y := y1) (Nat.mod_lt _ (by decide)) be30 hx3 hy1
  refine aP rfl rfl rfl (fun _ => aC (.int _ _) rfl) ?_
  refine aP rfl rfl rfl (fun _ => aC (.int _ _) rfl) ?_
  refine aP rfl rfl rfl (fun _ => aZ rfl rfl (by first | decide | omega) (by first | decide | omega)) ?_
  refine aP rfl rfl rfl (fun _ => aG 0 bJ rfl) ?_
  refine aP rfl rfl rfl (fun _ => cC (4) cH rfl rfl rfl (by decide)) ?_
  refine cB rfl rfl rfl (aQ 3 (.int _ _) bZ M70 rfl rfl rfl) ?_
  refine aP rfl rfl rfl (fun _ => aC (.int _ _) rfl) ?_
  refine aP rfl rfl rfl (fun _ => aG 0 bJ rfl) ?_
  refine aP rfl rfl rfl (fun _ => cC (3) cH rfl rfl rfl (by decide)) ?_
  refine cB rfl rfl rfl (aQ 1 (.int _ _) bZ M70 rfl rfl rfl) ?_
  refine aP rfl rfl rfl (fun _ => aC (.int _ _) rfl) ?_
  refine aP rfl rfl rfl (fun _ => aG 0 bJ rfl) ?_
  refine aP rfl rfl rfl (fun _ => cC (1) cH rfl rfl rfl (by decide)) ?_
  refine cB rfl rfl rfl (aQ 2 (.int _ _) bZ M70 rfl rfl rfl) ?_
  refine aP rfl rfl rfl (fun _ => aN (.int _ _) rfl rfl rfl) ?_
  refine eG 38 (.int .u64 ((x3 * y1 : Nat) : Int)) (iE (iY x3 y1 ba31)) ?_
  refine aP rfl rfl rfl (fun _ => aN (.int _ _) rfl rfl rfl) ?_
  refine eG 39 (.int .u64 ((t22 % 65536 + x3 * y1 : Nat) : Int)) (iE (iU (t22 % 65536) (x3 * y1) bb31)) ?_
  refine aP rfl rfl rfl (fun _ => aC (.int _ _) rfl) ?_
  refine aP rfl rfl rfl (fun _ => aN (.int _ _) rfl rfl rfl) ?_
  refine eG 41 (.int .u64 (t31 : Int)) (iE ((iU (t22 % 65536 + x3 * y1) (t30 / 65536) bc31).trans (congrArg _ ht31.symm))) ?_
  refine aP rfl rfl rfl (fun _ => aD (.int _ _) rfl) ?_
  refine cI ?_
  refine aF (aH (aB ?_))
  refine aA (aC (.int _ _) rfl) rfl rfl ?_
  refine aA (aC (.int _ _) rfl) rfl rfl ?_
  refine aA (aZ rfl rfl (by first | decide | omega) (by first | decide | omega)) rfl rfl ?_
  refine aK 44 (.int .i64 4) (iE (by first | decide | omega)) ?_
  refine aA (aC (.int _ _) rfl) rfl rfl ?_
  refine aA (fY rfl rfl (by decide)) rfl rfl ?_
  refine aK 46 (.int .u64 ((t31 % 65536 : Nat) : Int)) (iE (gJ t31 65536)) ?_
  refine aA (aG 0 bJ rfl) rfl rfl ?_
  refine aA (cC (4) cH rfl rfl rfl (by decide)) rfl rfl ?_
  refine cY 3 (.int _ _) bZ M70 rfl rfl rfl rfl rfl rfl (fun w71 M71 => ?_)
  refine aE (aF (aB ?_))
  refine aA (aC (.int _ _) rfl) rfl rfl ?_
  refine aA (fO rfl rfl (by decide)) rfl rfl ?_
  refine aK 50 (.int .u64 ((t31 / 65536 : Nat) : Int)) (iE (fX t31 65536 bd31)) ?_
  refine aA (aD (.int _ _) rfl) rfl rfl ?_
  refine aE ?_
  refine cS ?_
  refine aF (aB ?_)
  refine aA (aC (.int _ _) rfl) rfl rfl ?_
  refine aA (aZ rfl rfl (by first | decide | omega) (by first | decide | omega)) rfl rfl ?_
  refine aK 23 (.int .i64 2) (iE (by first | decide | omega)) ?_
  refine aA (aD (.int _ _) rfl) rfl rfl ?_
  refine aE ?_
  refine aF (fI ?_)
  refine dZ (fr := [(4, .pointer _), (5, .pointer _), (6, .pointer _), (7, .pointer _), (8, .int .i64 3), (9, .int _ _), (10, .int .i64 2), (11, .int _ _), (16, .int .i64 3), (17, .bool true)]) (bB rfl (bB rfl (bB rfl (bB rfl (bB rfl (bB rfl (bB rfl (bB rfl (bB rfl (bB rfl dO)))))))))) (fun ρ72 => ?_)
  have M73 : Mem _ _ [_, _, _, (some _, bc [.int .u64 ((t00 % 65536 : Nat) : Int), .int .u64 ((t10 % 65536 : Nat) : Int), .int .u64 ((t20 % 65536 : Nat) : Int), .int .u64 ((t30 % 65536 : Nat) : Int), .int .u64 ((t31 % 65536 : Nat) : Int), .int .u64 ((t23 % 65536 : Nat) : Int), .int .u64 ((t23 / 65536 : Nat) : Int), .int .u64 0] 291)] _ := M71
  refine aH (aH (aB ?_))
  refine aA (aC (.int _ _) rfl) rfl rfl ?_
  refine aA (aN (.bool (decide _)) rfl rfl rfl) rfl rfl ?_
  refine aK 21 (.bool true) (bT (by first | decide | omega)).symm ?_
  refine aE (aF ?_)
  refine cM rfl ?_
  refine aO (aF (aH (aT (aH ?_))))
  refine bY [(0, 0), (1, 0), (2, 0), (3, 0), (4, 0), (5, 1), (6, 0), (7, 0), (8, 0), (9, 1), (10, 0), (11, 0), (12, 0), (13, 1), (14, 0), (15, 0), (16, 0), (17, 0), (18, 0)] mixed rfl (by kernel_rfl) (fun w74 hb74 hh74 => ?_)
  have M74 := M73.drew hb74 hh74
  obtain ⟨t32, ht32, ba32, bb32, bc32, bd32, be32⟩ := eS (z := t23 % 65536) (c := t31 / 65536) (x := x3) (y := y2) (Nat.mod_lt _ (by decide)) be31 hx3 hy2
  refine aP rfl rfl rfl (fun _ => aC (.int _ _) rfl) ?_
  refine aP rfl rfl rfl (fun _ => aC (.int _ _) rfl) ?_
  refine aP rfl rfl rfl (fun _ => aZ rfl rfl (by first | decide | omega) (by first | decide | omega)) ?_
  refine aP rfl rfl rfl (fun _ => aG 0 bJ rfl) ?_
  refine aP rfl rfl rfl (fun _ => cC (5) cH rfl rfl rfl (by decide)) ?_
  refine cB rfl rfl rfl (aQ 3 (.int _ _) bZ M74 rfl rfl rfl) ?_
  refine aP rfl rfl rfl (fun _ => aC (.int _ _) rfl) ?_
  refine aP rfl rfl rfl (fun _ => aG 0 bJ rfl) ?_
  refine aP rfl rfl rfl (fun _ => cC (3) cH rfl rfl rfl (by decide)) ?_
  refine cB rfl rfl rfl (aQ 1 (.int _ _) bZ M74 rfl rfl rfl) ?_
  refine aP rfl rfl rfl (fun _ => aC (.int _ _) rfl) ?_
  refine aP rfl rfl rfl (fun _ => aG 0 bJ rfl) ?_
  refine aP rfl rfl rfl (fun _ => cC (2) cH rfl rfl rfl (by decide)) ?_
  refine cB rfl rfl rfl (aQ 2 (.int _ _) bZ M74 rfl rfl rfl) ?_
  refine aP rfl rfl rfl (fun _ => aN (.int _ _) rfl rfl rfl) ?_
  refine eG 38 (.int .u64 ((x3 * y2 : Nat) : Int)) (iE (iY x3 y2 ba32)) ?_
  refine aP rfl rfl rfl (fun _ => aN (.int _ _) rfl rfl rfl) ?_
  refine eG 39 (.int .u64 ((t23 % 65536 + x3 * y2 : Nat) : Int)) (iE (iU (t23 % 65536) (x3 * y2) bb32)) ?_
  refine aP rfl rfl rfl (fun _ => aC (.int _ _) rfl) ?_
  refine aP rfl rfl rfl (fun _ => aN (.int _ _) rfl rfl rfl) ?_
  refine eG 41 (.int .u64 (t32 : Int)) (iE ((iU (t23 % 65536 + x3 * y2) (t31 / 65536) bc32).trans (congrArg _ ht32.symm))) ?_
  refine aP rfl rfl rfl (fun _ => aD (.int _ _) rfl) ?_
  refine cI ?_
  refine aF (aH (aB ?_))
  refine aA (aC (.int _ _) rfl) rfl rfl ?_
  refine aA (aC (.int _ _) rfl) rfl rfl ?_
  refine aA (aZ rfl rfl (by first | decide | omega) (by first | decide | omega)) rfl rfl ?_
  refine aK 44 (.int .i64 5) (iE (by first | decide | omega)) ?_
  refine aA (aC (.int _ _) rfl) rfl rfl ?_
  refine aA (fY rfl rfl (by decide)) rfl rfl ?_
  refine aK 46 (.int .u64 ((t32 % 65536 : Nat) : Int)) (iE (gJ t32 65536)) ?_
  refine aA (aG 0 bJ rfl) rfl rfl ?_
  refine aA (cC (5) cH rfl rfl rfl (by decide)) rfl rfl ?_
  refine cY 3 (.int _ _) bZ M74 rfl rfl rfl rfl rfl rfl (fun w75 M75 => ?_)
  refine aE (aF (aB ?_))
  refine aA (aC (.int _ _) rfl) rfl rfl ?_
  refine aA (fO rfl rfl (by decide)) rfl rfl ?_
  refine aK 50 (.int .u64 ((t32 / 65536 : Nat) : Int)) (iE (fX t32 65536 bd32)) ?_
  refine aA (aD (.int _ _) rfl) rfl rfl ?_
  refine aE ?_
  refine cS ?_
  refine aF (aB ?_)
  refine aA (aC (.int _ _) rfl) rfl rfl ?_
  refine aA (aZ rfl rfl (by first | decide | omega) (by first | decide | omega)) rfl rfl ?_
  refine aK 23 (.int .i64 3) (iE (by first | decide | omega)) ?_
  refine aA (aD (.int _ _) rfl) rfl rfl ?_
  refine aE ?_
  refine aF (fI ?_)
  refine dZ (fr := [(4, .pointer _), (5, .pointer _), (6, .pointer _), (7, .pointer _), (8, .int .i64 3), (9, .int _ _), (10, .int .i64 3), (11, .int _ _), (16, .int .i64 3), (17, .bool true)]) (bB rfl (bB rfl (bB rfl (bB rfl (bB rfl (bB rfl (bB rfl (bB rfl (bB rfl (bB rfl dO)))))))))) (fun ρ76 => ?_)
  have M77 : Mem _ _ [_, _, _, (some _, bc [.int .u64 ((t00 % 65536 : Nat) : Int), .int .u64 ((t10 % 65536 : Nat) : Int), .int .u64 ((t20 % 65536 : Nat) : Int), .int .u64 ((t30 % 65536 : Nat) : Int), .int .u64 ((t31 % 65536 : Nat) : Int), .int .u64 ((t32 % 65536 : Nat) : Int), .int .u64 ((t23 / 65536 : Nat) : Int), .int .u64 0] 291)] _ := M75
  refine aH (aH (aB ?_))
  refine aA (aC (.int _ _) rfl) rfl rfl ?_
  refine aA (aN (.bool (decide _)) rfl rfl rfl) rfl rfl ?_
  refine aK 21 (.bool true) (bT (by first | decide | omega)).symm ?_
  refine aE (aF ?_)
  refine cM rfl ?_
  refine aO (aF (aH (aT (aH ?_))))
  refine bY [(0, 0), (1, 0), (2, 0), (3, 0), (4, 0), (5, 1), (6, 0), (7, 0), (8, 0), (9, 1), (10, 0), (11, 0), (12, 0), (13, 1), (14, 0), (15, 0), (16, 0), (17, 0), (18, 0)] mixed rfl (by kernel_rfl) (fun w78 hb78 hh78 => ?_)
  have M78 := M77.drew hb78 hh78
  obtain ⟨t33, ht33, ba33, bb33, bc33, bd33, be33⟩ := eS (z := t23 / 65536) (c := t32 / 65536) (x := x3) (y := y3) be23 be32 hx3 hy3
  refine aP rfl rfl rfl (fun _ => aC (.int _ _) rfl) ?_
  refine aP rfl rfl rfl (fun _ => aC (.int _ _) rfl) ?_
  refine aP rfl rfl rfl (fun _ => aZ rfl rfl (by first | decide | omega) (by first | decide | omega)) ?_
  refine aP rfl rfl rfl (fun _ => aG 0 bJ rfl) ?_
  refine aP rfl rfl rfl (fun _ => cC (6) cH rfl rfl rfl (by decide)) ?_
  refine cB rfl rfl rfl (aQ 3 (.int _ _) bZ M78 rfl rfl rfl) ?_
  refine aP rfl rfl rfl (fun _ => aC (.int _ _) rfl) ?_
  refine aP rfl rfl rfl (fun _ => aG 0 bJ rfl) ?_
  refine aP rfl rfl rfl (fun _ => cC (3) cH rfl rfl rfl (by decide)) ?_
  refine cB rfl rfl rfl (aQ 1 (.int _ _) bZ M78 rfl rfl rfl) ?_
  refine aP rfl rfl rfl (fun _ => aC (.int _ _) rfl) ?_
  refine aP rfl rfl rfl (fun _ => aG 0 bJ rfl) ?_
  refine aP rfl rfl rfl (fun _ => cC (3) cH rfl rfl rfl (by decide)) ?_
  refine cB rfl rfl rfl (aQ 2 (.int _ _) bZ M78 rfl rfl rfl) ?_
  refine aP rfl rfl rfl (fun _ => aN (.int _ _) rfl rfl rfl) ?_
  refine eG 38 (.int .u64 ((x3 * y3 : Nat) : Int)) (iE (iY x3 y3 ba33)) ?_
  refine aP rfl rfl rfl (fun _ => aN (.int _ _) rfl rfl rfl) ?_
  refine eG 39 (.int .u64 ((t23 / 65536 + x3 * y3 : Nat) : Int)) (iE (iU (t23 / 65536) (x3 * y3) bb33)) ?_
  refine aP rfl rfl rfl (fun _ => aC (.int _ _) rfl) ?_
  refine aP rfl rfl rfl (fun _ => aN (.int _ _) rfl rfl rfl) ?_
  refine eG 41 (.int .u64 (t33 : Int)) (iE ((iU (t23 / 65536 + x3 * y3) (t32 / 65536) bc33).trans (congrArg _ ht33.symm))) ?_
  refine aP rfl rfl rfl (fun _ => aD (.int _ _) rfl) ?_
  refine cI ?_
  refine aF (aH (aB ?_))
  refine aA (aC (.int _ _) rfl) rfl rfl ?_
  refine aA (aC (.int _ _) rfl) rfl rfl ?_
  refine aA (aZ rfl rfl (by first | decide | omega) (by first | decide | omega)) rfl rfl ?_
  refine aK 44 (.int .i64 6) (iE (by first | decide | omega)) ?_
  refine aA (aC (.int _ _) rfl) rfl rfl ?_
  refine aA (fY rfl rfl (by decide)) rfl rfl ?_
  refine aK 46 (.int .u64 ((t33 % 65536 : Nat) : Int)) (iE (gJ t33 65536)) ?_
  refine aA (aG 0 bJ rfl) rfl rfl ?_
  refine aA (cC (6) cH rfl rfl rfl (by decide)) rfl rfl ?_
  refine cY 3 (.int _ _) bZ M78 rfl rfl rfl rfl rfl rfl (fun w79 M79 => ?_)
  refine aE (aF (aB ?_))
  refine aA (aC (.int _ _) rfl) rfl rfl ?_
  refine aA (fO rfl rfl (by decide)) rfl rfl ?_
  refine aK 50 (.int .u64 ((t33 / 65536 : Nat) : Int)) (iE (fX t33 65536 bd33)) ?_
  refine aA (aD (.int _ _) rfl) rfl rfl ?_
  refine aE ?_
  refine cS ?_
  refine aF (aB ?_)
  refine aA (aC (.int _ _) rfl) rfl rfl ?_
  refine aA (aZ rfl rfl (by first | decide | omega) (by first | decide | omega)) rfl rfl ?_
  refine aK 23 (.int .i64 4) (iE (by first | decide | omega)) ?_
  refine aA (aD (.int _ _) rfl) rfl rfl ?_
  refine aE ?_
  refine aF (fI ?_)
  refine dZ (fr := [(4, .pointer _), (5, .pointer _), (6, .pointer _), (7, .pointer _), (8, .int .i64 3), (9, .int _ _), (10, .int .i64 4), (11, .int _ _), (16, .int .i64 3), (17, .bool true)]) (bB rfl (bB rfl (bB rfl (bB rfl (bB rfl (bB rfl (bB rfl (bB rfl (bB rfl (bB rfl dO)))))))))) (fun ρ80 => ?_)
  have M81 : Mem _ _ [_, _, _, (some _, bc [.int .u64 ((t00 % 65536 : Nat) : Int), .int .u64 ((t10 % 65536 : Nat) : Int), .int .u64 ((t20 % 65536 : Nat) : Int), .int .u64 ((t30 % 65536 : Nat) : Int), .int .u64 ((t31 % 65536 : Nat) : Int), .int .u64 ((t32 % 65536 : Nat) : Int), .int .u64 ((t33 % 65536 : Nat) : Int), .int .u64 0] 291)] _ := M79
  refine aH (aH (aB ?_))
  refine aA (aC (.int _ _) rfl) rfl rfl ?_
  refine aA (aN (.bool (decide _)) rfl rfl rfl) rfl rfl ?_
  refine aK 21 (.bool false) (bF (by first | decide | omega)).symm ?_
  refine aE (aF ?_)
  refine cP rfl ?_
  refine cQ ?_
  refine cX (cX ?_)
  refine eJ ?_
  refine aF (aB ?_)
  refine aA (aC (.int _ _) rfl) rfl rfl ?_
  refine aA (aZ rfl rfl (by first | decide | omega) (by first | decide | omega)) rfl rfl ?_
  refine aK 52 (.int .i64 7) (iE (by first | decide | omega)) ?_
  refine aA (aC (.int _ _) rfl) rfl rfl ?_
  refine aA (aG 0 bJ rfl) rfl rfl ?_
  refine aA (cC (7) cH rfl rfl rfl (by decide)) rfl rfl ?_
  refine cY 3 (.int _ _) bZ M81 rfl rfl rfl rfl rfl rfl (fun w82 M82 => ?_)
  refine aE ?_
  refine cS ?_
  refine aF (aB ?_)
  refine aA (aC (.int _ _) rfl) rfl rfl ?_
  refine aA (aZ rfl rfl (by first | decide | omega) (by first | decide | omega)) rfl rfl ?_
  refine aK 19 (.int .i64 4) (iE (by first | decide | omega)) ?_
  refine aA (aD (.int _ _) rfl) rfl rfl ?_
  refine aE ?_
  refine aF (fI ?_)
  refine dZ (fr := [(4, .pointer _), (5, .pointer _), (6, .pointer _), (7, .pointer _), (8, .int .i64 4), (9, .int _ _), (10, .int .i64 4), (11, .int _ _)]) (bB rfl (bB rfl (bB rfl (bB rfl (bB rfl (bB rfl (bB rfl (bB rfl dO)))))))) (fun ρ83 => ?_)
  have M84 : Mem _ _ [_, _, _, (some _, bc [.int .u64 ((t00 % 65536 : Nat) : Int), .int .u64 ((t10 % 65536 : Nat) : Int), .int .u64 ((t20 % 65536 : Nat) : Int), .int .u64 ((t30 % 65536 : Nat) : Int), .int .u64 ((t31 % 65536 : Nat) : Int), .int .u64 ((t32 % 65536 : Nat) : Int), .int .u64 ((t33 % 65536 : Nat) : Int), .int .u64 ((t33 / 65536 : Nat) : Int)] 291)] _ := M82
  refine aH (aH (aB ?_))
  refine aA (aC (.int _ _) rfl) rfl rfl ?_
  refine aA (aN (.bool (decide _)) rfl rfl rfl) rfl rfl ?_
  refine aK 17 (.bool false) (bF (by first | decide | omega)).symm ?_
  refine aE (aF ?_)
  refine cP rfl ?_
  refine cQ ?_
  refine cX (cX ?_)
  refine eJ ?_
  refine aF (aH (aB ?_))
  refine aA (aR 3 kU M84 rfl rfl rfl) rfl rfl ?_
  refine bL 0 _ kU M84 rfl rfl rfl rfl rfl (bA rfl) rfl (fun w85 M85 => ?_)
  refine aE (aF (aU ?_))
  refine gM 0 kU M85 rfl rfl rfl ?_
  have hall := aTl ht00 ht01 ht02 ht03 ht10 ht11 ht12 ht13 ht20 ht21 ht22 ht23 ht30 ht31 ht32 ht33
  rw [hX, hY] at hall
  exact ⟨[t00 % 65536, t10 % 65536, t20 % 65536, t30 % 65536, t31 % 65536, t32 % 65536, t33 % 65536, t33 / 65536], rfl, rfl, bCv (Nat.mod_lt _ (by decide)) (Nat.mod_lt _ (by decide)) (Nat.mod_lt _ (by decide)) (Nat.mod_lt _ (by decide)) (Nat.mod_lt _ (by decide)) (Nat.mod_lt _ (by decide)) (Nat.mod_lt _ (by decide)) be33, hall, M85.below⟩
end Go.Proofs.YtlmcphcgiclanaaGreatDoor

namespace Go.Proofs.YtlmcphcgiclanaaGreatDoor
open Go.Bil
open Go.RowKit (Below)
open Go.Proofs
set_option maxHeartbeats 4000000 in
theorem aKw (w : World) (d0 d1 d2 d3 d4 d5 d6 d7 : Nat) (hd : ∀ x ∈ ([d0, d1, d2, d3, d4, d5, d6, d7] : List Nat), x < 65536) (i : Nat) (hi : i < 128) :
    Calls Tryz.prog 227 #[(.agg (([d0, d1, d2, d3, d4, d5, d6, d7] : List Nat).map jB).toArray), .int .i64 (i : Int)] w (fun ex w' => ∃ v, ex = .returned v ∧ (fun v w' => v = .int .u64 ((oO [d0, d1, d2, d3, d4, d5, d6, d7] / 2 ^ i % 2 : Nat) : Int) ∧ Below w.heap.size w w') v w') := by
  obtain ⟨d, hdj⟩ := dA (xs := ([d0, d1, d2, d3, d4, d5, d6, d7] : List Nat)) (k := i / 16) (n := 8) rfl (by omega)
  have hdl := hd d (List.mem_of_getElem? hdj)
  refine aL #[.tmp 4] 22 Tryz.func227 rfl Tryz.results227 Tryz.ntmps227 rfl ?_
  have M0 := Mem.refl w
  refine aH (aB ?_)
  refine bM (.agg (List.toArray _)) M0 rfl rfl rfl (fun b1 w1 M1 => ?_)
  refine aA (aD (.int _ _) rfl) rfl rfl ?_
  refine aE (aF (aH (aB ?_)))
  refine aA (aC (.int _ _) rfl) rfl rfl ?_
  refine aA (fO rfl rfl (by decide)) rfl rfl ?_
  refine aK 8 (.int .i64 ((i / 16 : Nat) : Int)) (iE (bDb i 16 (by omega))) ?_
  refine aA (aG 0 bJ rfl) rfl rfl ?_
  refine aA (cC ((i / 16)) cH rfl rfl rfl (by omega)) rfl rfl ?_
  refine aA (aQ 0 (.int _ _) bZ M1 rfl rfl (aUh hdj)) rfl rfl ?_
  refine aA (aD (.int _ _) rfl) rfl rfl ?_
  refine aE (aF (aH (aH (aB ?_))))
  refine aA (aD (.int _ _) rfl) rfl rfl ?_
  refine aE (aF (aT ?_))
  refine dM (σ := Nat) [1, 4] (fun k => [(5, .int .u64 ((d / 2 ^ k : Nat) : Int)), (6, .int .i64 (k : Int))]) (fun k w' => k ≤ i % 16 ∧ Mem w [] [(some b1, bc (([d0, d1, d2, d3, d4, d5, d6, d7] : List Nat).map jB) 291)] w') (fun k => i % 16 - k) 0 (bB (iv rfl (by simp)) (bB rfl dO)) (⟨by omega, M1⟩) ?_
  rintro k ρ2 w2 ⟨hk, hM2⟩
  refine aH (aH (aB ?_))
  refine aA (aC (.int _ _) rfl) rfl rfl ?_
  refine aA (aC (.int _ _) rfl) rfl rfl ?_
  refine aA (fY rfl rfl (by decide)) rfl rfl ?_
  refine aK 14 (.int .i64 ((i % 16 : Nat) : Int)) (iE (gJ i 16)) ?_
  refine aA (aN (.bool (decide _)) rfl rfl rfl) rfl rfl ?_
  refine aE (aF ?_)
  refine aX rfl (fun h15 => ?_) (fun h15 => ?_)
  · refine aO (aF (aH (aT (aB ?_))))
    refine aA (aC (.int _ _) rfl) rfl rfl ?_
    refine aA (fO rfl rfl (by decide)) rfl rfl ?_
    refine aK 19 (.int .u64 ((d / 2 ^ (k + 1) : Nat) : Int)) (iE ((fX (d / 2 ^ k) 2 (Nat.lt_of_le_of_lt (Nat.div_le_self _ _) (by omega))).trans (congrArg _ (by rw [Nat.pow_succ, Nat.div_div_eq_div_mul])))) ?_
    refine aA (aD (.int _ _) rfl) rfl rfl ?_
    refine aE ?_
    refine cS ?_
    refine aF (aB ?_)
    refine aA (aC (.int _ _) rfl) rfl rfl ?_
    refine aA (aZ rfl rfl (by omega) (by omega)) rfl rfl ?_
    refine aA (aD (.int _ _) rfl) rfl rfl ?_
    refine aE ?_
    refine cA (k + 1) (bB rfl (bB rfl dO)) (cD rfl (cD rfl fS)) ?_ ?_
    · exact ⟨by omega, hM2⟩
    · omega
  · have hks : k = i % 16 := by omega
    refine cQ ?_
    refine cX ?_
    refine dF ?_
    refine eJ ?_
    refine aF (aH (aB ?_))
    refine aA (aC (.int _ _) rfl) rfl rfl ?_
    refine aA (fY rfl rfl (by decide)) rfl rfl ?_
    refine aK 21 (.int .u64 ((d / 2 ^ k % 2 : Nat) : Int)) (iE (gJ (d / 2 ^ k) 2)) ?_
    refine aA (aD (.int _ _) rfl) rfl rfl ?_
    refine aE (aF (aU ?_))
    refine cU (.int _ _) rfl ?_
    exact ⟨iE (congrArg _ (by rw [hks]; exact bAb (oO [d0, d1, d2, d3, d4, d5, d6, d7]) i (i / 16) (i % 16) d (by omega) (by omega) (aFj [d0, d1, d2, d3, d4, d5, d6, d7] (i / 16) d hd hdj))), hM2.below⟩
set_option maxHeartbeats 8000000 in
theorem sX (w : World) (d0 d1 d2 d3 d4 d5 d6 d7 : Nat) (hd : ∀ x ∈ ([d0, d1, d2, d3, d4, d5, d6, d7] : List Nat), x < 65536) (z : Nat) (hz : 0 < z) (hz1 : z ≤ 9223372036854775807) (hX : oO [d0, d1, d2, d3, d4, d5, d6, d7] / z ≤ 4611686018427387904) (hX2 : oO [d0, d1, d2, d3, d4, d5, d6, d7] < 340282366920938463463374607431768211456) :
    Calls Tryz.prog 211 #[(.agg (([d0, d1, d2, d3, d4, d5, d6, d7] : List Nat).map jB).toArray), .int .u64 (z : Int)] w (fun ex w' => ∃ v, ex = .returned v ∧ (fun v w' => v = .tuple #[.int .u64 ((oO [d0, d1, d2, d3, d4, d5, d6, d7] / z : Nat) : Int), .int .u64 ((oO [d0, d1, d2, d3, d4, d5, d6, d7] % z : Nat) : Int), .bool true] ∧ Below w.heap.size w w') v w') := by
  refine aL #[.tmp 4, .tmp 5, .tmp 6] 42 Tryz.func211 rfl Tryz.results211 Tryz.ntmps211 rfl ?_
  have M0 := Mem.refl w
  refine aH (aB ?_)
  refine bM (.agg (List.toArray _)) M0 rfl rfl rfl (fun b1 w1 M1 => ?_)
  refine aA (aD (.int _ _) rfl) rfl rfl ?_
  refine aA (aD (.int _ _) rfl) rfl rfl ?_
  refine aA (aD (.bool false) rfl) rfl rfl ?_
  refine aE (aF (aH (aB ?_)))
  refine aA (aD (.int _ _) rfl) rfl rfl ?_
  refine aE (aF (aH (aB ?_)))
  refine aA (aD (.int _ _) rfl) rfl rfl ?_
  refine aE (aF (aH (aB ?_)))
  refine aA (aD (.bool true) rfl) rfl rfl ?_
  refine aE (aF (aH (aH (aB ?_))))
  refine aA (aD (.int _ _) rfl) rfl rfl ?_
  refine aE (aF (aT ?_))
  refine dM (σ := Nat × Nat × Nat) [1, 2, 4, 5, 6] (fun (p, q, r) => [(7, .int .u64 (q : Int)), (8, .int .u64 (r : Int)), (9, .bool true), (10, .int .i64 ((p : Int) - 1))]) (fun (p, q, r) w' => (p ≤ 128 ∧ Lb (oO [d0, d1, d2, d3, d4, d5, d6, d7]) z p q r) ∧ Mem w [] [(some b1, bc (([d0, d1, d2, d3, d4, d5, d6, d7] : List Nat).map jB) 291)] w') (fun (p, q, r) => p) (128, 0, 0) (bB rfl (bB rfl (bB rfl (bB (iv rfl (by decide)) dO)))) (⟨⟨by omega, aTj hz hX2⟩, M1⟩) ?_
  rintro ⟨p, q, r⟩ ρ2 w2 ⟨⟨hp, hlb⟩, hM2⟩
  refine aH (aH (aB ?_))
  refine aA (aC (.int _ _) rfl) rfl rfl ?_
  refine aA (aN (.bool (decide _)) rfl rfl rfl) rfl rfl ?_
  refine aE (aF ?_)
  refine aX rfl (fun h13 => ?_) (fun h13 => ?_)
  · obtain ⟨s, rfl⟩ : ∃ s, p = s + 1 := ⟨p - 1, by omega⟩
    obtain ⟨b, hb⟩ : ∃ b, oO [d0, d1, d2, d3, d4, d5, d6, d7] / 2 ^ s % 2 = b := ⟨_, rfl⟩
    obtain ⟨hr, hb2, hq2, hyes, hno⟩ := aTb hz hlb hb
    have hsm := aRy (i := s) hX
    refine aO (aF (aH (aT (aH (aB ?_)))))
    refine aA (aC (.int _ _) rfl) rfl rfl ?_
    refine aA (aN (.bool (decide _)) rfl rfl rfl) rfl rfl ?_
    refine aK 17 (.bool false) (bF (by omega)).symm ?_
    refine aA (aD (.bool false) rfl) rfl rfl ?_
    refine aE (aF (aH (aB ?_)))
    refine aA (aC (.int _ _) rfl) rfl rfl ?_
    refine aA (aN (.int _ _) rfl rfl rfl) rfl rfl ?_
    refine aK 19 (.int .u64 ((2 * r : Nat) : Int)) (iE (by rw [eX]; omega)) ?_
    refine aA (aR 0 kU hM2 rfl rfl rfl) rfl rfl ?_
    refine aA (aC (.int _ _) rfl) rfl rfl ?_
    refine aK 21 (.int .i64 (s : Int)) (iE (by omega)) ?_
    refine aM aXq rfl rfl rfl ?_
    refine (aKw _ d0 d1 d2 d3 d4 d5 d6 d7 hd s (by omega)).mono ?_
    rintro _ w3 ⟨v3, rfl, ⟨rfl, hb3⟩⟩
    refine ⟨_, rfl, ?_⟩
    have M3 := hM2.callB hb3
    refine aK 22 (.int .u64 (b : Int)) (iE (congrArg _ hb)) ?_
    refine aA (aN (.int _ _) rfl rfl rfl) rfl rfl ?_
    refine aK 23 (.int .u64 ((2 * r + b : Nat) : Int)) (iE (by rw [eX]; omega)) ?_
    refine aA (aD (.int _ _) rfl) rfl rfl ?_
    refine aE (aF (aH (aH (aB ?_))))
    refine aA (aC (.int _ _) rfl) rfl rfl ?_
    refine aA (aN (.bool (decide _)) rfl rfl rfl) rfl rfl ?_
    refine aK 25 (.bool false) (bF (by omega)).symm ?_
    refine aE (aF ?_)
    refine cP rfl ?_
    refine aO (aF (aH (aB ?_)))
    refine aA (aC (.int _ _) rfl) rfl rfl ?_
    refine aA (aN (.int _ _) rfl rfl rfl) rfl rfl ?_
    refine aK 27 (.int .u64 ((2 * q : Nat) : Int)) (iE (by rw [eX]; omega)) ?_
    refine aA (aD (.int _ _) rfl) rfl rfl ?_
    refine aE (aF (aH (aB ?_)))
    refine aA (aC (.bool false) rfl) rfl rfl ?_
    refine aA (aC (.bool false) rfl) rfl rfl ?_
    refine aA (aC (.int _ _) rfl) rfl rfl ?_
    refine aA (aC (.int _ _) rfl) rfl rfl ?_
    refine aA (aN (.bool (decide _)) rfl rfl rfl) rfl rfl ?_
    refine aA (bQ false (.bool (decide _)) rfl rfl) rfl rfl ?_
    refine aE (aF ?_)
    refine aX rfl (fun h33 => ?_) (fun h33 => ?_)
    · refine aH (aB ?_)
      refine aA (aC (.int _ _) rfl) rfl rfl ?_
      refine aA (aC (.int _ _) rfl) rfl rfl ?_
      refine aA (aN (.int _ _) rfl rfl rfl) rfl rfl ?_
      refine aK 36 (.int .u64 ((2 * r + b - z : Nat) : Int)) (iE (by rw [eX]; omega)) ?_
      refine aA (aD (.int _ _) rfl) rfl rfl ?_
      refine aE (aF (aB ?_))
      refine aA (aC (.int _ _) rfl) rfl rfl ?_
      refine aA (aN (.int _ _) rfl rfl rfl) rfl rfl ?_
      refine aK 38 (.int .u64 ((2 * q + 1 : Nat) : Int)) (iE (by rw [eX]; omega)) ?_
      refine aA (aD (.int _ _) rfl) rfl rfl ?_
      refine aE ?_
      refine cS ?_
      refine aF (aB ?_)
      refine aA (aC (.int _ _) rfl) rfl rfl ?_
      refine aA (fC rfl rfl (by omega) (by omega)) rfl rfl ?_
      refine aA (aD (.int _ _) rfl) rfl rfl ?_
      refine aE ?_
      refine cA (s, 2 * q + 1, 2 * r + b - z) (bB rfl (bB rfl (bB rfl (bB (iv rfl (by omega)) dO)))) (cD rfl (cD rfl (cD rfl (cD rfl (cD rfl fS))))) ?_ ?_
      · exact ⟨⟨by omega, hyes (by omega)⟩, M3⟩
      · (show s < s + 1; omega)
    · refine aO ?_
      refine cS ?_
      refine aF (aB ?_)
      refine aA (aC (.int _ _) rfl) rfl rfl ?_
      refine aA (fC rfl rfl (by omega) (by omega)) rfl rfl ?_
      refine aA (aD (.int _ _) rfl) rfl rfl ?_
      refine aE ?_
      refine cA (s, 2 * q, 2 * r + b) (bB rfl (bB rfl (bB rfl (bB (iv rfl (by omega)) dO)))) (cD rfl (cD rfl (cD rfl (cD rfl (cD rfl fS))))) ?_ ?_
      · exact ⟨⟨by omega, hno (by omega)⟩, M3⟩
      · (show s < s + 1; omega)
  · obtain rfl : p = 0 := by omega
    obtain ⟨hq, hr⟩ := aVv hlb
    refine cQ ?_
    refine cX ?_
    refine dF ?_
    refine eJ ?_
    refine aF (aH (aB ?_))
    refine aA (aC (.int _ _) rfl) rfl rfl ?_
    refine aA (aC (.int _ _) rfl) rfl rfl ?_
    refine aA (aC (.bool true) rfl) rfl rfl ?_
    refine aA (aD (.int _ _) rfl) rfl rfl ?_
    refine aA (aD (.int _ _) rfl) rfl rfl ?_
    refine aA (aD (.bool true) rfl) rfl rfl ?_
    refine aE (aF (aU ?_))
    refine aSu (.int _ _) (.int _ _) (.bool true) rfl rfl rfl ?_
    exact ⟨by rw [hq, hr], hM2.below⟩
end Go.Proofs.YtlmcphcgiclanaaGreatDoor

namespace Go.Proofs.YtlmcphcgiclanaaGreatDoor
open Go.Bil
open Go.RowKit (Below)
open Go.Proofs
set_option maxHeartbeats 4000000 in
theorem uW (w : World) (q r : Nat) (neg : Bool) (hq : q ≤ 4294967296) :
    Calls Tryz.prog 213 #[.int .u64 (q : Int), .int .u64 (r : Int), .bool true, .bool neg] w (fun ex w' => ∃ v, ex = .returned v ∧ (fun v w' => v = .tuple #[.int .i64 (if neg = true then (if 0 < r then -(q : Int) - 1 else -(q : Int)) else (q : Int)), .bool true] ∧ Below w.heap.size w w') v w') := by
  refine aL #[.tmp 8, .tmp 9] 33 Tryz.func213 rfl Tryz.results213 Tryz.ntmps213 rfl ?_
  have M0 := Mem.refl w
  refine aH (aB ?_)
  refine aA (aD (.int _ _) rfl) rfl rfl ?_
  refine aA (aD (.bool false) rfl) rfl rfl ?_
  refine aE (aF (aH (aH (aB ?_))))
  refine aA (aC (.bool _) rfl) rfl rfl ?_
  refine aA (kF _ rfl rfl) rfl rfl ?_
  refine aE (aF ?_)
  refine iG _ rfl (fun h11 => ?_) (fun h11 => ?_)
  · have hn : neg = false := by simpa using h11
    refine aH (aB ?_)
    refine aA (aC (.int _ _) rfl) rfl rfl ?_
    refine aA (bC qT Tryz.underlying2 rfl (eT _ (by omega) (by omega))) rfl rfl ?_
    refine aA (aC (.bool true) rfl) rfl rfl ?_
    refine aA (aC (.bool true) rfl) rfl rfl ?_
    refine aA (aC (.int _ _) rfl) rfl rfl ?_
    refine aA (aN (.bool (decide _)) rfl rfl rfl) rfl rfl ?_
    refine aK 17 (.bool true) (bT (by omega)).symm ?_
    refine aA (bQ true (.bool true) rfl rfl) rfl rfl ?_
    refine aA (aD (.int _ _) rfl) rfl rfl ?_
    refine aA (aD (.bool true) rfl) rfl rfl ?_
    refine aE (aF (aU (dC ?_)))
    refine fR (.int _ _) (.bool true) rfl rfl ?_
    exact ⟨by rw [hn]; rfl, M0.below⟩
  · have hn : neg = true := by simpa using h11
    refine aO (aF (aH (aH (aB ?_))))
    refine aA (aC (.int _ _) rfl) rfl rfl ?_
    refine aA (aN (.bool (decide _)) rfl rfl rfl) rfl rfl ?_
    refine aE (aF ?_)
    refine aX rfl (fun h20 => ?_) (fun h20 => ?_)
    · refine aH (aH (aB ?_))
      refine aA (aC (.int _ _) rfl) rfl rfl ?_
      refine aA (aN (.bool (decide _)) rfl rfl rfl) rfl rfl ?_
      refine aK 22 (.bool false) (bF (by omega)).symm ?_
      refine aE (aF ?_)
      refine cP rfl ?_
      refine aO (aF (aB ?_))
      refine aA (aC (.int _ _) rfl) rfl rfl ?_
      refine aA (aN (.int _ _) rfl rfl rfl) rfl rfl ?_
      refine aK 24 (.int .u64 ((q + 1 : Nat) : Int)) (iE (by rw [eX]; omega)) ?_
      refine aA (aD (.int _ _) rfl) rfl rfl ?_
      refine aE (aF (aH (aB ?_)))
      refine aA (aC (.int _ _) rfl) rfl rfl ?_
      refine aA (oN rfl) rfl rfl ?_
      refine aA (dH qT Tryz.underlying2 rfl) rfl rfl ?_
      refine aK 27 (.int .i64 (-((q + 1 : Nat) : Int))) (iE (aBt (q + 1) (by omega))) ?_
      refine aA (aC (.bool true) rfl) rfl rfl ?_
      refine aA (aC (.bool true) rfl) rfl rfl ?_
      refine aA (aC (.int _ _) rfl) rfl rfl ?_
      refine aA (aN (.bool (decide _)) rfl rfl rfl) rfl rfl ?_
      refine aK 31 (.bool true) (bT (by omega)).symm ?_
      refine aA (bQ true (.bool true) rfl rfl) rfl rfl ?_
      refine aA (aD (.int _ _) rfl) rfl rfl ?_
      refine aA (aD (.bool true) rfl) rfl rfl ?_
      refine aE (aF (aU ?_))
      refine fR (.int _ _) (.bool true) rfl rfl ?_
      exact ⟨by rw [if_pos hn, if_pos (by omega)]; exact oA (iE (by omega)) rfl, M0.below⟩
    · refine aO (aF (aH (aB ?_)))
      refine aA (aC (.int _ _) rfl) rfl rfl ?_
      refine aA (oN rfl) rfl rfl ?_
      refine aA (dH qT Tryz.underlying2 rfl) rfl rfl ?_
      refine aK 27 (.int .i64 (-((q : Nat) : Int))) (iE (aBt (q) (by omega))) ?_
      refine aA (aC (.bool true) rfl) rfl rfl ?_
      refine aA (aC (.bool true) rfl) rfl rfl ?_
      refine aA (aC (.int _ _) rfl) rfl rfl ?_
      refine aA (aN (.bool (decide _)) rfl rfl rfl) rfl rfl ?_
      refine aK 31 (.bool true) (bT (by omega)).symm ?_
      refine aA (bQ true (.bool true) rfl rfl) rfl rfl ?_
      refine aA (aD (.int _ _) rfl) rfl rfl ?_
      refine aA (aD (.bool true) rfl) rfl rfl ?_
      refine aE (aF (aU ?_))
      refine fR (.int _ _) (.bool true) rfl rfl ?_
      exact ⟨by rw [if_pos hn, if_neg (by omega)], M0.below⟩
set_option maxHeartbeats 8000000 in
theorem sS (w : World) (a n d : Int) (ha : -4294967296 ≤ a ∧ a ≤ 4294967296) (hn : 0 ≤ n) (hnd : n ≤ d) (hd0 : 0 < d) (hd : d ≤ 9223372036854775807) :
    Calls Tryz.prog 210 #[.int .i64 a, .int .i64 n, .int .i64 d] w (fun ex w' => ∃ v, ex = .returned v ∧ (fun v w' => v = .tuple #[.int .i64 (a * n / d), .int .i64 0] ∧ Below w.heap.size w w') v w') := by
  obtain ⟨m, rfl⟩ := Int.eq_ofNat_of_zero_le hn
  obtain ⟨z, rfl⟩ := Int.eq_ofNat_of_zero_le (Int.le_of_lt hd0)
  have hmd := aDp (a := a) (m := m) (z := z) ha (by omega) (by omega) (by omega)
  obtain ⟨q, hq⟩ : ∃ q, a.natAbs * m / z = q := ⟨_, rfl⟩
  obtain ⟨r, hr⟩ : ∃ r, a.natAbs * m % z = r := ⟨_, rfl⟩
  have hql : q ≤ 4294967296 := by rw [← hq]; exact hmd.2.2.2
  have hbig : a.natAbs * m ≤ 4294967296 * 9223372036854775807 := Nat.mul_le_mul (by omega) (by omega)
  refine aL #[.tmp 6, .tmp 7] 49 Tryz.func210 rfl Tryz.results210 Tryz.ntmps210 rfl ?_
  have M0 := Mem.refl w
  refine aH (aB ?_)
  refine aA (aD (.int _ _) rfl) rfl rfl ?_
  refine aA (aD (.int _ _) rfl) rfl rfl ?_
  refine aE (aF (aH (aH (aB ?_))))
  refine aA (aC (.int _ _) rfl) rfl rfl ?_
  refine aA (aN (.bool (decide _)) rfl rfl rfl) rfl rfl ?_
  refine aK 15 (.bool false) (bF (by omega)).symm ?_
  refine aE (aF ?_)
  refine cP rfl ?_
  refine aO (aF (aH (aB ?_)))
  refine aA (aC (.int _ _) rfl) rfl rfl ?_
  refine aA (dH lD Tryz.underlying170 rfl) rfl rfl ?_
  refine aK 17 (.int .u64 (z : Int)) (iE (by rw [eX]; omega)) ?_
  refine aA (aD (.int _ _) rfl) rfl rfl ?_
  refine aE (aF (aH (aH (aB ?_))))
  refine aA (aC (.int _ _) rfl) rfl rfl ?_
  refine aA (aN (.bool (decide _)) rfl rfl rfl) rfl rfl ?_
  refine aK 19 (.bool false) (bF (by omega)).symm ?_
  refine aE (aF ?_)
  refine cP rfl ?_
  refine aO (aF (aH (aB ?_)))
  refine aA (aC (.int _ _) rfl) rfl rfl ?_
  refine aA (aC (.int _ _) rfl) rfl rfl ?_
  refine aM aQt rfl rfl rfl ?_
  refine (qV _ a (m : Int) (by omega) (by omega) (by omega) (by omega)).mono ?_
  rintro _ w1 ⟨v1, rfl, ⟨D, rfl, hD8, hDd, hDv, hb1⟩⟩
  refine ⟨_, rfl, ?_⟩
  have M1 := M0.callB hb1
  obtain ⟨d0, d1, d2, d3, d4, d5, d6, d7, rfl⟩ := aWp hD8
  rw [Int.natAbs_natCast] at hDv
  refine aA (aC (.int _ _) rfl) rfl rfl ?_
  refine aM aNw rfl rfl rfl ?_
  refine (sX _ d0 d1 d2 d3 d4 d5 d6 d7 hDd z (by omega) (by omega) (by rw [hDv]; omega) (by rw [hDv]; omega)).mono ?_
  rintro _ w2 ⟨v2, rfl, ⟨rfl, hb2⟩⟩
  refine ⟨_, rfl, ?_⟩
  have M2 := M1.callB hb2
  refine aA (aC (.tuple (List.toArray _)) rfl) rfl rfl ?_
  refine aA (bI (.int _ _) rfl rfl) rfl rfl ?_
  refine aK 28 (.int .u64 (q : Int)) (iE (by rw [hDv, hq])) ?_
  refine aA (bI (.int _ _) rfl rfl) rfl rfl ?_
  refine aK 29 (.int .u64 (r : Int)) (iE (by rw [hDv, hr])) ?_
  refine aA (bI (.bool true) rfl rfl) rfl rfl ?_
  refine aA (aD (.int _ _) rfl) rfl rfl ?_
  refine aA (aD (.int _ _) rfl) rfl rfl ?_
  refine aA (aD (.bool true) rfl) rfl rfl ?_
  refine aE (aF (aH (aB ?_)))
  refine aA (aC (.int _ _) rfl) rfl rfl ?_
  refine aA (aC (.int _ _) rfl) rfl rfl ?_
  refine aA (aC (.bool true) rfl) rfl rfl ?_
  refine aA (aC (.int _ _) rfl) rfl rfl ?_
  refine aA (aN (.bool (decide _)) rfl rfl rfl) rfl rfl ?_
  refine aA (aC (.int _ _) rfl) rfl rfl ?_
  refine aA (aN (.bool (decide _)) rfl rfl rfl) rfl rfl ?_
  refine aK 38 (.bool false) (bF (by omega)).symm ?_
  refine aA (nK _ Tryz.underlying4 rfl rfl rfl) rfl rfl ?_
  refine aK 39 (.bool (decide (a < 0))) (bv rfl (by simp)) ?_
  refine aA (aC (.int _ _) rfl) rfl rfl ?_
  refine aA (aN (.bool (decide _)) rfl rfl rfl) rfl rfl ?_
  refine aK 41 (.bool false) (bF (by omega)).symm ?_
  refine aA (nK _ Tryz.underlying4 rfl rfl rfl) rfl rfl ?_
  refine aK 42 (.bool (decide (a < 0))) (bv rfl (by simp)) ?_
  refine aM aSo rfl rfl rfl ?_
  refine (uW _ q r (decide (a < 0)) hql).mono ?_
  rintro _ w3 ⟨v3, rfl, ⟨rfl, hb3⟩⟩
  refine ⟨_, rfl, ?_⟩
  have M3 := M2.callB hb3
  refine aA (aC (.tuple (List.toArray _)) rfl) rfl rfl ?_
  refine aA (bI (.int _ _) rfl rfl) rfl rfl ?_
  refine aA (bI (.bool true) rfl rfl) rfl rfl ?_
  refine aA (aD (.int _ _) rfl) rfl rfl ?_
  refine aA (aD (.bool true) rfl) rfl rfl ?_
  refine aE (aF (aH (aH (aB ?_))))
  refine aA (aC (.bool true) rfl) rfl rfl ?_
  refine aA (kF false rfl rfl) rfl rfl ?_
  refine aE (aF ?_)
  refine cP rfl ?_
  refine aO (aF (aH (aB ?_)))
  refine aA (aC (.int _ _) rfl) rfl rfl ?_
  refine aA (aD (.int _ _) rfl) rfl rfl ?_
  refine aA (aD (.int _ _) rfl) rfl rfl ?_
  refine aE (aF (aU ?_))
  refine fR (.int _ _) (.int _ _) rfl rfl ?_
  have hval : (if decide (a < 0) = true then (if 0 < r then -(q : Int) - 1 else -(q : Int)) else (q : Int)) = a * (m : Int) / (z : Int) := aOx hq hr hd0
  exact ⟨oA (iE hval) rfl, M3.below⟩
end Go.Proofs.YtlmcphcgiclanaaGreatDoor

namespace Go.Proofs.YtlmcphcgiclanaaGreatDoor
open Go.Bil
open Go.RowKit (Below)
open Go.Proofs
set_option maxHeartbeats 8000000 in
theorem bCn (w : World) (n : Nat) (hn : n < 18446744073709551616) :
    Calls Tryz.prog 203 #[.int .u64 (n : Int)] w (fun ex w' => ∃ v, ex = .returned v ∧ (fun v w' => v = .int .u64 ((qJ n : Nat) : Int) ∧ Below w.heap.size w w') v w') := by
  refine aL #[.tmp 2] 32 Tryz.func203 rfl Tryz.results203 Tryz.ntmps203 rfl ?_
  have M0 := Mem.refl w
  refine aH (aB ?_)
  refine aA (aD (.int _ _) rfl) rfl rfl ?_
  refine aE (aF (aH (aB ?_)))
  refine aA (aC (.int _ _) rfl) rfl rfl ?_
  refine aA (aD (.int _ _) rfl) rfl rfl ?_
  refine aA (aD (.int _ _) rfl) rfl rfl ?_
  refine aE (aF (aH (aH (aB ?_))))
  refine aA (aC (.int _ _) rfl) rfl rfl ?_
  refine aE (aF (aT ?_))
  refine dM (σ := Nat × Nat × Nat) [2] (fun (i, R, e) => [(8, .int .i64 (i : Int)), (3, .int .u64 ((n - R * R : Nat) : Int)), (4, .int .u64 ((R * e : Nat) : Int))]) (fun (i, R, e) w' => Iq n i R e ∧ Mem w [] [] w') (fun (i, R, e) => 32 - i) (0, 0, 4294967296) (bB rfl (bB (iv rfl (by simp)) (bB (iv rfl (by simp)) dO))) (⟨aVo hn, M0⟩) ?_
  rintro ⟨i, R, e⟩ ρ1 w1 ⟨I, hM1⟩
  have hile := I.ile
  have hle := I.le
  refine aH (aB ?_)
  refine aA (aN (.bool (decide _)) rfl rfl rfl) rfl rfl ?_
  refine aE (aF (aH ?_))
  refine aX rfl (fun h9 => ?_) (fun h9 => ?_)
  · obtain ⟨f, hf1, hf2, hf3, hf4, hf5, hf6, hf7, hf8, hfy, hfn⟩ := aVm (by omega) I
    refine aO (aF (aH (aT (aH (aB ?_)))))
    refine aA (aC (.int _ _) rfl) rfl rfl ?_
    refine aA (aD (.int _ _) rfl) rfl rfl ?_
    refine aE (aF (aH (aB ?_)))
    refine aA (aC (.int _ _) rfl) rfl rfl ?_
    refine aA (fP rfl rfl (by omega) (by omega)) rfl rfl ?_
    refine aA (jN rfl rfl (by omega)) rfl rfl ?_
    refine aK 13 (.int .u64 ((f * f : Nat) : Int)) (iE ((aTc (2 * i) _ (by omega) (by omega)).trans (congrArg _ hf4))) ?_
    refine aA (aD (.int _ _) rfl) rfl rfl ?_
    refine aE (aF (aH (aB ?_)))
    refine aA (aC (.int _ _) rfl) rfl rfl ?_
    refine aA (aC (.int _ _) rfl) rfl rfl ?_
    refine aA (aC (.int _ _) rfl) rfl rfl ?_
    refine aA (aN (.int _ _) rfl rfl rfl) rfl rfl ?_
    refine aK 17 (.int .u64 ((R * e + f * f : Nat) : Int)) (iE (by rw [eX]; omega)) ?_
    refine aA (aN (.bool (decide _)) rfl rfl rfl) rfl rfl ?_
    refine aE (aF ?_)
    refine aX rfl (fun h18 => ?_) (fun h18 => ?_)
    · have h18' : R * e + f * f ≤ n - R * R := by omega
      refine aH (aB ?_)
      refine aA (aC (.int _ _) rfl) rfl rfl ?_
      refine aA (aC (.int _ _) rfl) rfl rfl ?_
      refine aA (aC (.int _ _) rfl) rfl rfl ?_
      refine aA (aN (.int _ _) rfl rfl rfl) rfl rfl ?_
      refine aK 22 (.int .u64 ((R * e + f * f : Nat) : Int)) (iE (by rw [eX]; omega)) ?_
      refine aA (aN (.int _ _) rfl rfl rfl) rfl rfl ?_
      refine aK 23 (.int .u64 ((n - (R + f) * (R + f) : Nat) : Int)) (iE (by rw [eX]; omega)) ?_
      refine aA (aD (.int _ _) rfl) rfl rfl ?_
      refine aE (aF (aB ?_))
      refine aA (aC (.int _ _) rfl) rfl rfl ?_
      refine aA (jN rfl rfl (by decide)) rfl rfl ?_
      refine aK 25 (.int .u64 ((R * f : Nat) : Int)) (iE ((aPh (R * e)).trans (congrArg _ hf5))) ?_
      refine aA (aC (.int _ _) rfl) rfl rfl ?_
      refine aA (aN (.int _ _) rfl rfl rfl) rfl rfl ?_
      refine aK 27 (.int .u64 (((R + f) * f : Nat) : Int)) (iE (by rw [eX]; omega)) ?_
      refine aA (aD (.int _ _) rfl) rfl rfl ?_
      refine aE ?_
      refine cS ?_
      refine aF (aB ?_)
      refine aA (aZ rfl rfl (by omega) (by omega)) rfl rfl ?_
      refine aA (aC (.int _ _) rfl) rfl rfl ?_
      refine aE ?_
      refine cA (i + 1, R + f, f) (bB rfl (bB rfl (bB rfl dO))) (cD rfl fS) ?_ ?_
      · exact ⟨hfy h18', hM1⟩
      · (show 32 - (i + 1) < 32 - i; omega)
    · have h18' : ¬ (R * e + f * f ≤ n - R * R) := by omega
      refine aB ?_
      refine aA (aC (.int _ _) rfl) rfl rfl ?_
      refine aA (jN rfl rfl (by decide)) rfl rfl ?_
      refine aK 29 (.int .u64 ((R * f : Nat) : Int)) (iE ((aPh (R * e)).trans (congrArg _ hf5))) ?_
      refine aA (aD (.int _ _) rfl) rfl rfl ?_
      refine aE ?_
      refine cS ?_
      refine aF (aB ?_)
      refine aA (aZ rfl rfl (by omega) (by omega)) rfl rfl ?_
      refine aA (aC (.int _ _) rfl) rfl rfl ?_
      refine aE ?_
      refine cA (i + 1, R, f) (bB rfl (bB rfl (bB rfl dO))) (cD rfl fS) ?_ ?_
      · exact ⟨hfn h18', hM1⟩
      · (show 32 - (i + 1) < 32 - i; omega)
  · obtain rfl : i = 32 := by omega
    refine cQ ?_
    refine cX ?_
    refine dF ?_
    refine eJ ?_
    refine aF (aH (aB ?_))
    refine aA (aC (.int _ _) rfl) rfl rfl ?_
    refine aA (aD (.int _ _) rfl) rfl rfl ?_
    refine aE (aF (aU ?_))
    refine cU (.int _ _) rfl ?_
    exact ⟨iE (by rw [aVg I]), hM1.below⟩
set_option maxHeartbeats 4000000 in
theorem oU (w : World) (a b : Int × Int) (ha : I32 a) (hb : I32 b) :
    Calls Tryz.prog 200 #[(.agg (bV a).toArray), (.agg (bV b).toArray)] w (fun ex w' => ∃ v, ex = .returned v ∧ (fun v w' => v = .tuple #[.int .i64 (b.1 - a.1), .int .i64 (b.2 - a.2)] ∧ Below w.heap.size w w') v w') := by
  have hax := ha.x
  have hay := ha.y
  have hbx := hb.x
  have hby := hb.y
  refine aL #[.tmp 4, .tmp 5] 20 Tryz.func200 rfl Tryz.results200 Tryz.ntmps200 rfl ?_
  have M0 := Mem.refl w
  refine aH (aB ?_)
  refine bM (.agg (List.toArray _)) M0 rfl rfl rfl (fun b1 w1 M1 => ?_)
  refine bM (.agg (List.toArray _)) M1 rfl rfl rfl (fun b2 w2 M2 => ?_)
  refine aA (aD (.int _ _) rfl) rfl rfl ?_
  refine aA (aD (.int _ _) rfl) rfl rfl ?_
  refine aE (aF (aH ?_))
  refine bY [(0, 0), (1, 1), (2, 0), (3, 0), (4, 1), (5, 0), (6, 0), (7, 0), (8, 1), (9, 0), (10, 0), (11, 1), (12, 0), (13, 0), (14, 0), (15, 0)] mixed rfl (by kernel_rfl) (fun w3 hb3 hh3 => ?_)
  have M3 := M2.drew hb3 hh3
  refine aP rfl rfl rfl (fun _ => aG 0 cN rfl) ?_
  refine cB rfl rfl rfl (aQ 1 (.int _ _) aW M3 rfl rfl rfl) ?_
  refine aP rfl rfl rfl (fun _ => bC dJ Tryz.underlying2 rfl (eT _ (by omega) (by omega))) ?_
  refine aP rfl rfl rfl (fun _ => aG 0 cN rfl) ?_
  refine cB rfl rfl rfl (aQ 0 (.int _ _) aW M3 rfl rfl rfl) ?_
  refine aP rfl rfl rfl (fun _ => bC dJ Tryz.underlying2 rfl (eT _ (by omega) (by omega))) ?_
  refine aP rfl rfl rfl (fun _ => fC rfl rfl (by omega) (by omega)) ?_
  refine aP rfl rfl rfl (fun _ => aG 1 cJ rfl) ?_
  refine cB rfl rfl rfl (aQ 1 (.int _ _) aW M3 rfl rfl rfl) ?_
  refine aP rfl rfl rfl (fun _ => bC dJ Tryz.underlying2 rfl (eT _ (by omega) (by omega))) ?_
  refine aP rfl rfl rfl (fun _ => aG 1 cJ rfl) ?_
  refine cB rfl rfl rfl (aQ 0 (.int _ _) aW M3 rfl rfl rfl) ?_
  refine aP rfl rfl rfl (fun _ => bC dJ Tryz.underlying2 rfl (eT _ (by omega) (by omega))) ?_
  refine aP rfl rfl rfl (fun _ => fC rfl rfl (by omega) (by omega)) ?_
  refine aP rfl rfl rfl (fun _ => aD (.int _ _) rfl) ?_
  refine aP rfl rfl rfl (fun _ => aD (.int _ _) rfl) ?_
  refine cI ?_
  refine aF (aU ?_)
  refine fR (.int _ _) (.int _ _) rfl rfl ?_
  exact ⟨rfl, M3.below⟩
set_option maxHeartbeats 4000000 in
theorem wF (w : World) (n : Int) (hn : qW n) :
    Calls Tryz.prog 201 #[.int .i64 n] w (fun ex w' => ∃ v, ex = .returned v ∧ (fun v w' => v = .int .u64 ((n.natAbs * n.natAbs : Nat) : Int) ∧ Below w.heap.size w w') v w') := by
  have hlt := (nT hn hn).2.1
  unfold qW at hn
  refine aL #[.tmp 2] 12 Tryz.func201 rfl Tryz.results201 Tryz.ntmps201 rfl ?_
  have M0 := Mem.refl w
  refine aH (aB ?_)
  refine aA (aD (.int _ _) rfl) rfl rfl ?_
  refine aE (aF (aH (aH (aB ?_))))
  refine aA (aC (.int _ _) rfl) rfl rfl ?_
  refine aA (aN (.bool (decide _)) rfl rfl rfl) rfl rfl ?_
  refine aE (aF ?_)
  refine aX rfl (fun h4 => ?_) (fun h4 => ?_)
  · refine aB ?_
    refine aA (aC (.int _ _) rfl) rfl rfl ?_
    refine aA (oN rfl) rfl rfl ?_
    refine aK 6 (.int .i64 (-n)) (iE (eT _ (by omega) (by omega))) ?_
    refine aA (aD (.int _ _) rfl) rfl rfl ?_
    refine aE (aF (aH (aB ?_)))
    refine aA (aC (.int _ _) rfl) rfl rfl ?_
    refine aA (dH lD Tryz.underlying170 rfl) rfl rfl ?_
    refine aK 8 (.int .u64 ((n.natAbs : Nat) : Int)) (iE (by rw [eX]; omega)) ?_
    refine aA (aC (.int _ _) rfl) rfl rfl ?_
    refine aA (dH lD Tryz.underlying170 rfl) rfl rfl ?_
    refine aK 10 (.int .u64 ((n.natAbs : Nat) : Int)) (iE (by rw [eX]; omega)) ?_
    refine aA (aN (.int _ _) rfl rfl rfl) rfl rfl ?_
    refine aK 11 (.int .u64 ((n.natAbs * n.natAbs : Nat) : Int)) (iE (iY _ _ (by omega))) ?_
    refine aA (aD (.int _ _) rfl) rfl rfl ?_
    refine aE (aF (aU ?_))
    refine cU (.int _ _) rfl ?_
    exact ⟨rfl, M0.below⟩
  · refine aO (aF (aH (aB ?_)))
    refine aA (aC (.int _ _) rfl) rfl rfl ?_
    refine aA (dH lD Tryz.underlying170 rfl) rfl rfl ?_
    refine aK 8 (.int .u64 ((n.natAbs : Nat) : Int)) (iE (by rw [eX]; omega)) ?_
    refine aA (aC (.int _ _) rfl) rfl rfl ?_
    refine aA (dH lD Tryz.underlying170 rfl) rfl rfl ?_
    refine aK 10 (.int .u64 ((n.natAbs : Nat) : Int)) (iE (by rw [eX]; omega)) ?_
    refine aA (aN (.int _ _) rfl rfl rfl) rfl rfl ?_
    refine aK 11 (.int .u64 ((n.natAbs * n.natAbs : Nat) : Int)) (iE (iY _ _ (by omega))) ?_
    refine aA (aD (.int _ _) rfl) rfl rfl ?_
    refine aE (aF (aU ?_))
    refine cU (.int _ _) rfl ?_
    exact ⟨rfl, M0.below⟩
set_option maxHeartbeats 4000000 in
theorem nQ (w : World) (dx dy : Int) (hx : qW dx) (hy : qW dy) :
    Calls Tryz.prog 173 #[.int .i64 dx, .int .i64 dy] w (fun ex w' => ∃ v, ex = .returned v ∧ (fun v w' => v = .int .u64 ((mI dx dy : Nat) : Int) ∧ Below w.heap.size w w') v w') := by
  have hl := nT hx hy
  refine aL #[.tmp 4] 10 Tryz.func173 rfl Tryz.results173 Tryz.ntmps173 rfl ?_
  have M0 := Mem.refl w
  refine aH (aB ?_)
  refine aA (aD (.int _ _) rfl) rfl rfl ?_
  refine aE (aF (aH (aB ?_)))
  refine aA (aC (.int _ _) rfl) rfl rfl ?_
  refine aM aQw rfl rfl rfl ?_
  refine (wF _ dx hx).mono ?_
  rintro _ w1 ⟨v1, rfl, ⟨rfl, hb1⟩⟩
  refine ⟨_, rfl, ?_⟩
  have M1 := M0.callB hb1
  refine aA (aC (.int _ _) rfl) rfl rfl ?_
  refine aM aQw rfl rfl rfl ?_
  refine (wF _ dy hy).mono ?_
  rintro _ w2 ⟨v2, rfl, ⟨rfl, hb2⟩⟩
  refine ⟨_, rfl, ?_⟩
  have M2 := M1.callB hb2
  refine aA (aN (.int _ _) rfl rfl rfl) rfl rfl ?_
  refine aK 9 (.int .u64 ((mI dx dy : Nat) : Int)) (iE (by rw [eX]; unfold mI at *; omega)) ?_
  refine aA (aD (.int _ _) rfl) rfl rfl ?_
  refine aE (aF (aU ?_))
  refine cU (.int _ _) rfl ?_
  exact ⟨rfl, M2.below⟩
set_option maxHeartbeats 4000000 in
theorem xM (w : World) (dx dy : Int) (hx : qW dx) (hy : qW dy) :
    Calls Tryz.prog 175 #[.int .i64 dx, .int .i64 dy] w (fun ex w' => ∃ v, ex = .returned v ∧ (fun v w' => v = .int .i64 (len dx dy) ∧ Below w.heap.size w w') v w') := by
  have hl := rI hx hy
  refine aL #[.tmp 4] 10 Tryz.func175 rfl Tryz.results175 Tryz.ntmps175 rfl ?_
  have M0 := Mem.refl w
  refine aH (aB ?_)
  refine aA (aD (.int _ _) rfl) rfl rfl ?_
  refine aE (aF (aH (aB ?_)))
  refine aA (aC (.int _ _) rfl) rfl rfl ?_
  refine aA (aC (.int _ _) rfl) rfl rfl ?_
  refine aM aHg rfl rfl rfl ?_
  refine (nQ _ dx dy hx hy).mono ?_
  rintro _ w1 ⟨v1, rfl, ⟨rfl, hb1⟩⟩
  refine ⟨_, rfl, ?_⟩
  have M1 := M0.callB hb1
  refine aM aYu rfl rfl rfl ?_
  refine (bCn _ (mI dx dy) (nT hx hy).1).mono ?_
  rintro _ w2 ⟨v2, rfl, ⟨rfl, hb2⟩⟩
  refine ⟨_, rfl, ?_⟩
  have M2 := M1.callB hb2
  refine aA (dH qT Tryz.underlying2 rfl) rfl rfl ?_
  refine aK 9 (.int .i64 (len dx dy)) (iE (eT (len dx dy) (by omega) (by omega))) ?_
  refine aA (aD (.int _ _) rfl) rfl rfl ?_
  refine aE (aF (aU ?_))
  refine cU (.int _ _) rfl ?_
  exact ⟨rfl, M2.below⟩
set_option maxHeartbeats 4000000 in
theorem aAb (w : World) (a b : Int) (hb : 0 < b) (h0 : -1000000000000000000 ≤ a) (h1 : a ≤ 1000000000000000000) :
    Calls Tryz.prog 202 #[.int .i64 a, .int .i64 b] w (fun ex w' => ∃ v, ex = .returned v ∧ (fun v w' => v = .int .i64 (a / b) ∧ Below w.heap.size w w') v w') := by
  have hf := uD (a := a) hb
  have hb1 := wE a b
  refine aL #[.tmp 4] 16 Tryz.func202 rfl Tryz.results202 Tryz.ntmps202 rfl ?_
  have M0 := Mem.refl w
  refine aH (aB ?_)
  refine aA (aD (.int _ _) rfl) rfl rfl ?_
  refine aE (aF (aH (aB ?_)))
  refine aA (aC (.int _ _) rfl) rfl rfl ?_
  refine aA (aC (.int _ _) rfl) rfl rfl ?_
  refine aA (fO rfl rfl (by omega)) rfl rfl ?_
  refine aK 8 (.int .i64 (a.tdiv b)) (iE (eT _ (by omega) (by omega))) ?_
  refine aA (aD (.int _ _) rfl) rfl rfl ?_
  refine aE (aF (aH (aH (aB ?_))))
  refine aA (aC (.int _ _) rfl) rfl rfl ?_
  refine aA (aC (.int _ _) rfl) rfl rfl ?_
  refine aA (fY rfl rfl (by omega)) rfl rfl ?_
  refine aA (aN (.bool (decide _)) rfl rfl rfl) rfl rfl ?_
  refine aE (aF ?_)
  refine aX rfl (fun h12 => ?_) (fun h12 => ?_)
  · refine aB ?_
    refine aA (aC (.int _ _) rfl) rfl rfl ?_
    refine aA (fC rfl rfl (by omega) (by omega)) rfl rfl ?_
    refine aA (aD (.int _ _) rfl) rfl rfl ?_
    refine aE (aF (aH (aB ?_)))
    refine aA (aC (.int _ _) rfl) rfl rfl ?_
    refine aA (aD (.int _ _) rfl) rfl rfl ?_
    refine aE (aF (aU ?_))
    refine cU (.int _ _) rfl ?_
    exact ⟨iE (by first | exact hf.1 (by omega) | exact hf.2 (by omega)), M0.below⟩
  · refine aO (aF (aH (aB ?_)))
    refine aA (aC (.int _ _) rfl) rfl rfl ?_
    refine aA (aD (.int _ _) rfl) rfl rfl ?_
    refine aE (aF (aU ?_))
    refine cU (.int _ _) rfl ?_
    exact ⟨iE (by first | exact hf.1 (by omega) | exact hf.2 (by omega)), M0.below⟩
set_option maxHeartbeats 4000000 in
theorem aPz (w : World) (dx dy : Int) (hx : qW dx) (hy : qW dy) :
    Calls Tryz.prog 174 #[.int .i64 dx, .int .i64 dy] w (fun ex w' => ∃ v, ex = .returned v ∧ (fun v w' => v = (.agg (bV (jW dx dy)).toArray) ∧ Below w.heap.size w w') v w') := by
  have hl := rI hx hy
  have hxx := hx
  have hyy := hy
  unfold qW at hxx hyy
  refine aL #[.cell 4 38] 23 Tryz.func174 rfl Tryz.results174 Tryz.ntmps174 rfl ?_
  have M0 := Mem.refl w
  refine aH (aB ?_)
  refine aV gE M0 rfl rfl (fun b1 w1 M1 => ?_)
  refine aE (aF (aH (aB ?_)))
  refine aA (aC (.int _ _) rfl) rfl rfl ?_
  refine aA (aC (.int _ _) rfl) rfl rfl ?_
  refine aM aSt rfl rfl rfl ?_
  refine (xM _ dx dy hx hy).mono ?_
  rintro _ w2 ⟨v2, rfl, ⟨rfl, hb2⟩⟩
  refine ⟨_, rfl, ?_⟩
  have M2 := M1.callB hb2
  refine aA (aD (.int _ _) rfl) rfl rfl ?_
  refine aE (aF (aH (aH (aB ?_))))
  refine aA (aC (.int _ _) rfl) rfl rfl ?_
  refine aA (aN (.bool (decide _)) rfl rfl rfl) rfl rfl ?_
  refine aE (aF ?_)
  refine aX rfl (fun h10 => ?_) (fun h10 => ?_)
  · refine aH (aB ?_)
    refine aA (cL [(0, .int _ _)] _ dW rfl rfl) rfl rfl ?_
    refine bL 0 _ bE M2 rfl rfl rfl rfl rfl (bA rfl) rfl (fun w3 M3 => ?_)
    refine aE (aF (aU (dC ?_)))
    refine gM 0 bE M3 rfl rfl rfl ?_
    exact ⟨by unfold jW; first | (rw [if_pos (by omega)]; rfl) | (rw [if_neg (by omega)]; rfl), M3.below⟩
  · refine aO (aF (aH (aB ?_)))
    refine aA (aC (.int _ _) rfl) rfl rfl ?_
    refine aA (zQ rfl rfl (by decide)) rfl rfl ?_
    refine aK 13 (.int .i64 (dx * 65536)) (iE (zW dx hx)) ?_
    refine aA (aC (.int _ _) rfl) rfl rfl ?_
    refine aM aOc rfl rfl rfl ?_
    refine (aAb _ (dx * 65536) (len dx dy) (by omega) (by omega) (by omega)).mono ?_
    rintro _ w4 ⟨v4, rfl, ⟨rfl, hb4⟩⟩
    refine ⟨_, rfl, ?_⟩
    have M4 := M2.callB hb4
    refine aA (dH lD Tryz.underlying21 rfl) rfl rfl ?_
    refine aA (aC (.int _ _) rfl) rfl rfl ?_
    refine aA (zQ rfl rfl (by decide)) rfl rfl ?_
    refine aK 18 (.int .i64 (dy * 65536)) (iE (zW dy hy)) ?_
    refine aA (aC (.int _ _) rfl) rfl rfl ?_
    refine aM aOc rfl rfl rfl ?_
    refine (aAb _ (dy * 65536) (len dx dy) (by omega) (by omega) (by omega)).mono ?_
    rintro _ w5 ⟨v5, rfl, ⟨rfl, hb5⟩⟩
    refine ⟨_, rfl, ?_⟩
    have M5 := M4.callB hb5
    refine aA (dH lD Tryz.underlying21 rfl) rfl rfl ?_
    refine aA (cL [(0, .int _ _), (1, .int _ _)] _ dW rfl rfl) rfl rfl ?_
    refine bL 0 _ bE M5 rfl rfl rfl rfl rfl (bA rfl) rfl (fun w6 M6 => ?_)
    refine aE (aF (aU ?_))
    refine gM 0 bE M6 rfl rfl rfl ?_
    exact ⟨by unfold jW; first | (rw [if_pos (by omega)]; rfl) | (rw [if_neg (by omega)]; rfl), M6.below⟩
end Go.Proofs.YtlmcphcgiclanaaGreatDoor

namespace Go.Proofs.YtlmcphcgiclanaaGreatDoor
open Go.Bil
open Go.RowKit (Below)
open Go.Proofs
set_option maxHeartbeats 4000000 in
theorem eI (w : World) (a b : Int) (hb : 0 < b) (h0 : -1000000000000000000 ≤ a) (h1 : a ≤ 1000000000000000000) :
    Calls Tryz.prog 78 #[.int .i64 a, .int .i64 b] w (fun ex w' => ∃ v, ex = .returned v ∧ (fun v w' => v = .int .i64 (a / b) ∧ Below w.heap.size w w') v w') := by
  have hf := uD (a := a) hb
  have hb1 := wE a b
  refine aL #[.tmp 4] 16 Tryz.func78 rfl Tryz.results78 Tryz.ntmps78 rfl ?_
  have M0 := Mem.refl w
  refine aH (aB ?_)
  refine aA (aD (.int _ _) rfl) rfl rfl ?_
  refine aE (aF (aH (aB ?_)))
  refine aA (aC (.int _ _) rfl) rfl rfl ?_
  refine aA (aC (.int _ _) rfl) rfl rfl ?_
  refine aA (fO rfl rfl (by omega)) rfl rfl ?_
  refine aK 8 (.int .i64 (a.tdiv b)) (iE (eT _ (by omega) (by omega))) ?_
  refine aA (aD (.int _ _) rfl) rfl rfl ?_
  refine aE (aF (aH (aH (aB ?_))))
  refine aA (aC (.int _ _) rfl) rfl rfl ?_
  refine aA (aC (.int _ _) rfl) rfl rfl ?_
  refine aA (fY rfl rfl (by omega)) rfl rfl ?_
  refine aA (aN (.bool (decide _)) rfl rfl rfl) rfl rfl ?_
  refine aE (aF ?_)
  refine aX rfl (fun h12 => ?_) (fun h12 => ?_)
  · refine aH (aB ?_)
    refine aA (aC (.int _ _) rfl) rfl rfl ?_
    refine aA (fC rfl rfl (by omega) (by omega)) rfl rfl ?_
    refine aA (aD (.int _ _) rfl) rfl rfl ?_
    refine aE (aF (aU (dC ?_)))
    refine cU (.int _ _) rfl ?_
    exact ⟨iE (by first | exact hf.1 (by omega) | exact hf.2 (by omega)), M0.below⟩
  · refine aO (aF (aH (aB ?_)))
    refine aA (aC (.int _ _) rfl) rfl rfl ?_
    refine aA (aD (.int _ _) rfl) rfl rfl ?_
    refine aE (aF (aU ?_))
    refine cU (.int _ _) rfl ?_
    exact ⟨iE (by first | exact hf.1 (by omega) | exact hf.2 (by omega)), M0.below⟩
set_option maxHeartbeats 8000000 in
theorem aEw (w : World) (n : Nat) (hn : n < 18446744073709551616) :
    Calls Tryz.prog 147 #[.int .u64 (n : Int)] w (fun ex w' => ∃ v, ex = .returned v ∧ (fun v w' => v = .int .u64 ((qJ n : Nat) : Int) ∧ Below w.heap.size w w') v w') := by
  have hin := aPr hn
  refine aL #[.tmp 2] 23 Tryz.func147 rfl Tryz.results147 Tryz.ntmps147 rfl ?_
  have M0 := Mem.refl w
  refine aH (aB ?_)
  refine aA (aD (.int _ _) rfl) rfl rfl ?_
  refine aE (aF (aH (aB ?_)))
  refine aA (aD (.int _ _) rfl) rfl rfl ?_
  refine aE (aF (aH (aB ?_)))
  refine aA (aD (.int _ _) rfl) rfl rfl ?_
  refine aE (aF (aH (aT ?_)))
  refine dM (σ := Nat × Nat) [0, 2] (fun (lo, hi) => [(3, .int .u64 (lo : Int)), (4, .int .u64 (hi : Int))]) (fun (lo, hi) w' => (lo ≤ qJ n ∧ qJ n ≤ hi ∧ hi ≤ 4294967295) ∧ Mem w [] [] w') (fun (lo, hi) => hi - lo) (0, 4294967295) (bB rfl (bB rfl dO)) (⟨⟨by omega, by omega, by omega⟩, M0⟩) ?_
  rintro ⟨lo, hi⟩ ρ1 w1 ⟨⟨hlo, hhi, hh⟩, hM1⟩
  refine aH (aH (aB ?_))
  refine aA (aC (.int _ _) rfl) rfl rfl ?_
  refine aA (aC (.int _ _) rfl) rfl rfl ?_
  refine aA (aN (.bool (decide _)) rfl rfl rfl) rfl rfl ?_
  refine aE (aF ?_)
  refine aX rfl (fun h8 => ?_) (fun h8 => ?_)
  · obtain ⟨m, hm⟩ : ∃ m, m = (lo + hi + 1) / 2 := ⟨_, rfl⟩
    have hmm := aUw (n := n) (m := m)
    have hm2 : m * m ≤ 4294967295 * 4294967295 := Nat.mul_le_mul (by omega) (by omega)
    refine aO (aF (aT (aH (aB ?_))))
    refine aA (aC (.int _ _) rfl) rfl rfl ?_
    refine aA (aC (.int _ _) rfl) rfl rfl ?_
    refine aA (aN (.int _ _) rfl rfl rfl) rfl rfl ?_
    refine aK 11 (.int .u64 ((lo + hi : Nat) : Int)) (iE (by rw [eX]; omega)) ?_
    refine aA (aN (.int _ _) rfl rfl rfl) rfl rfl ?_
    refine aK 12 (.int .u64 ((lo + hi + 1 : Nat) : Int)) (iE (by rw [eX]; omega)) ?_
    refine aA (fO rfl rfl (by decide)) rfl rfl ?_
    refine aK 13 (.int .u64 (m : Int)) (iE ((fX (lo + hi + 1) 2 (by omega)).trans (congrArg _ hm.symm))) ?_
    refine aA (aD (.int _ _) rfl) rfl rfl ?_
    refine aE (aF (aH (aB ?_)))
    refine aA (aC (.int _ _) rfl) rfl rfl ?_
    refine aA (aC (.int _ _) rfl) rfl rfl ?_
    refine aA (aN (.int _ _) rfl rfl rfl) rfl rfl ?_
    refine aK 16 (.int .u64 ((m * m : Nat) : Int)) (iE (iY m m (by omega))) ?_
    refine aA (aC (.int _ _) rfl) rfl rfl ?_
    refine aA (aN (.bool (decide _)) rfl rfl rfl) rfl rfl ?_
    refine aE (aF ?_)
    refine aX rfl (fun h18 => ?_) (fun h18 => ?_)
    · refine aB ?_
      refine aA (aC (.int _ _) rfl) rfl rfl ?_
      refine aA (aD (.int _ _) rfl) rfl rfl ?_
      refine aE ?_
      refine cS ?_
      refine cA (m, hi) (bB rfl (bB rfl dO)) (cD rfl (cD rfl fS)) ?_ ?_
      · exact ⟨⟨hmm.1 (by omega), by omega, by omega⟩, hM1⟩
      · (show hi - m < hi - lo; omega)
    · refine aB ?_
      refine aA (aC (.int _ _) rfl) rfl rfl ?_
      refine aA (aN (.int _ _) rfl rfl rfl) rfl rfl ?_
      refine aK 21 (.int .u64 ((m - 1 : Nat) : Int)) (iE (by rw [eX]; omega)) ?_
      refine aA (aD (.int _ _) rfl) rfl rfl ?_
      refine aE ?_
      refine cS ?_
      refine cA (lo, m - 1) (bB rfl (bB rfl dO)) (cD rfl (cD rfl fS)) ?_ ?_
      · exact ⟨⟨by omega, by have := hmm.2 (by omega); omega, by omega⟩, hM1⟩
      · (show m - 1 - lo < hi - lo; omega)
  · refine cQ ?_
    refine cX ?_
    refine dF ?_
    refine eJ ?_
    refine aF (aH (aB ?_))
    refine aA (aC (.int _ _) rfl) rfl rfl ?_
    refine aA (aD (.int _ _) rfl) rfl rfl ?_
    refine aE (aF (aU ?_))
    refine cU (.int _ _) rfl ?_
    exact ⟨iE (by omega), hM1.below⟩
set_option maxHeartbeats 4000000 in
theorem oW (w : World) (dx dy : Int) (hx : qW dx) (hy : qW dy) :
    Calls Tryz.prog 146 #[.int .i64 dx, .int .i64 dy] w (fun ex w' => ∃ v, ex = .returned v ∧ (fun v w' => v = .int .u64 ((mI dx dy : Nat) : Int) ∧ Below w.heap.size w w') v w') := by
  have hl := nT hx hy
  unfold qW at hx hy
  refine aL #[.tmp 4] 24 Tryz.func146 rfl Tryz.results146 Tryz.ntmps146 rfl ?_
  have M0 := Mem.refl w
  refine aH (aB ?_)
  refine aA (aD (.int _ _) rfl) rfl rfl ?_
  refine aE (aF (aH (aH (aB ?_))))
  refine aA (aC (.int _ _) rfl) rfl rfl ?_
  refine aA (aN (.bool (decide _)) rfl rfl rfl) rfl rfl ?_
  refine aE (aF ?_)
  refine aX rfl (fun h6 => ?_) (fun h6 => ?_)
  · refine aB ?_
    refine aA (aC (.int _ _) rfl) rfl rfl ?_
    refine aA (oN rfl) rfl rfl ?_
    refine aK 8 (.int .i64 (-dx)) (iE (eT _ (by omega) (by omega))) ?_
    refine aA (aD (.int _ _) rfl) rfl rfl ?_
    refine aE (aF (aH (aH (aB ?_))))
    refine aA (aC (.int _ _) rfl) rfl rfl ?_
    refine aA (aN (.bool (decide _)) rfl rfl rfl) rfl rfl ?_
    refine aE (aF ?_)
    refine aX rfl (fun h10 => ?_) (fun h10 => ?_)
    · refine aB ?_
      refine aA (aC (.int _ _) rfl) rfl rfl ?_
      refine aA (oN rfl) rfl rfl ?_
      refine aK 12 (.int .i64 (-dy)) (iE (eT _ (by omega) (by omega))) ?_
      refine aA (aD (.int _ _) rfl) rfl rfl ?_
      refine aE (aF (aH (aB ?_)))
      refine aA (aC (.int _ _) rfl) rfl rfl ?_
      refine aA (dH lD Tryz.underlying170 rfl) rfl rfl ?_
      refine aK 14 (.int .u64 ((dx.natAbs : Nat) : Int)) (iE (by rw [eX]; omega)) ?_
      refine aA (aC (.int _ _) rfl) rfl rfl ?_
      refine aA (dH lD Tryz.underlying170 rfl) rfl rfl ?_
      refine aK 16 (.int .u64 ((dx.natAbs : Nat) : Int)) (iE (by rw [eX]; omega)) ?_
      refine aA (aN (.int _ _) rfl rfl rfl) rfl rfl ?_
      refine aK 17 (.int .u64 ((dx.natAbs * dx.natAbs : Nat) : Int)) (iE (iY _ _ (by omega))) ?_
      refine aA (aC (.int _ _) rfl) rfl rfl ?_
      refine aA (dH lD Tryz.underlying170 rfl) rfl rfl ?_
      refine aK 19 (.int .u64 ((dy.natAbs : Nat) : Int)) (iE (by rw [eX]; omega)) ?_
      refine aA (aC (.int _ _) rfl) rfl rfl ?_
      refine aA (dH lD Tryz.underlying170 rfl) rfl rfl ?_
      refine aK 21 (.int .u64 ((dy.natAbs : Nat) : Int)) (iE (by rw [eX]; omega)) ?_
      refine aA (aN (.int _ _) rfl rfl rfl) rfl rfl ?_
      refine aK 22 (.int .u64 ((dy.natAbs * dy.natAbs : Nat) : Int)) (iE (iY _ _ (by omega))) ?_
      refine aA (aN (.int _ _) rfl rfl rfl) rfl rfl ?_
      refine aK 23 (.int .u64 ((mI dx dy : Nat) : Int)) (iE (by rw [eX]; unfold mI at *; omega)) ?_
      refine aA (aD (.int _ _) rfl) rfl rfl ?_
      refine aE (aF (aU ?_))
      refine cU (.int _ _) rfl ?_
      exact ⟨rfl, M0.below⟩
    · refine aO (aF (aH (aB ?_)))
      refine aA (aC (.int _ _) rfl) rfl rfl ?_
      refine aA (dH lD Tryz.underlying170 rfl) rfl rfl ?_
      refine aK 14 (.int .u64 ((dx.natAbs : Nat) : Int)) (iE (by rw [eX]; omega)) ?_
      refine aA (aC (.int _ _) rfl) rfl rfl ?_
      refine aA (dH lD Tryz.underlying170 rfl) rfl rfl ?_
      refine aK 16 (.int .u64 ((dx.natAbs : Nat) : Int)) (iE (by rw [eX]; omega)) ?_
      refine aA (aN (.int _ _) rfl rfl rfl) rfl rfl ?_
      refine aK 17 (.int .u64 ((dx.natAbs * dx.natAbs : Nat) : Int)) (iE (iY _ _ (by omega))) ?_
      refine aA (aC (.int _ _) rfl) rfl rfl ?_
      refine aA (dH lD Tryz.underlying170 rfl) rfl rfl ?_
      refine aK 19 (.int .u64 ((dy.natAbs : Nat) : Int)) (iE (by rw [eX]; omega)) ?_
      refine aA (aC (.int _ _) rfl) rfl rfl ?_
      refine aA (dH lD Tryz.underlying170 rfl) rfl rfl ?_
      refine aK 21 (.int .u64 ((dy.natAbs : Nat) : Int)) (iE (by rw [eX]; omega)) ?_
      refine aA (aN (.int _ _) rfl rfl rfl) rfl rfl ?_
      refine aK 22 (.int .u64 ((dy.natAbs * dy.natAbs : Nat) : Int)) (iE (iY _ _ (by omega))) ?_
      refine aA (aN (.int _ _) rfl rfl rfl) rfl rfl ?_
      refine aK 23 (.int .u64 ((mI dx dy : Nat) : Int)) (iE (by rw [eX]; unfold mI at *; omega)) ?_
      refine aA (aD (.int _ _) rfl) rfl rfl ?_
      refine aE (aF (aU ?_))
      refine cU (.int _ _) rfl ?_
      exact ⟨rfl, M0.below⟩
  · refine aO (aF (aH (aH (aB ?_))))
    refine aA (aC (.int _ _) rfl) rfl rfl ?_
    refine aA (aN (.bool (decide _)) rfl rfl rfl) rfl rfl ?_
    refine aE (aF ?_)
    refine aX rfl (fun h10 => ?_) (fun h10 => ?_)
    · refine aB ?_
      refine aA (aC (.int _ _) rfl) rfl rfl ?_
      refine aA (oN rfl) rfl rfl ?_
      refine aK 12 (.int .i64 (-dy)) (iE (eT _ (by omega) (by omega))) ?_
      refine aA (aD (.int _ _) rfl) rfl rfl ?_
      refine aE (aF (aH (aB ?_)))
      refine aA (aC (.int _ _) rfl) rfl rfl ?_
      refine aA (dH lD Tryz.underlying170 rfl) rfl rfl ?_
      refine aK 14 (.int .u64 ((dx.natAbs : Nat) : Int)) (iE (by rw [eX]; omega)) ?_
      refine aA (aC (.int _ _) rfl) rfl rfl ?_
      refine aA (dH lD Tryz.underlying170 rfl) rfl rfl ?_
      refine aK 16 (.int .u64 ((dx.natAbs : Nat) : Int)) (iE (by rw [eX]; omega)) ?_
      refine aA (aN (.int _ _) rfl rfl rfl) rfl rfl ?_
      refine aK 17 (.int .u64 ((dx.natAbs * dx.natAbs : Nat) : Int)) (iE (iY _ _ (by omega))) ?_
      refine aA (aC (.int _ _) rfl) rfl rfl ?_
      refine aA (dH lD Tryz.underlying170 rfl) rfl rfl ?_
      refine aK 19 (.int .u64 ((dy.natAbs : Nat) : Int)) (iE (by rw [eX]; omega)) ?_
      refine aA (aC (.int _ _) rfl) rfl rfl ?_
      refine aA (dH lD Tryz.underlying170 rfl) rfl rfl ?_
      refine aK 21 (.int .u64 ((dy.natAbs : Nat) : Int)) (iE (by rw [eX]; omega)) ?_
      refine aA (aN (.int _ _) rfl rfl rfl) rfl rfl ?_
      refine aK 22 (.int .u64 ((dy.natAbs * dy.natAbs : Nat) : Int)) (iE (iY _ _ (by omega))) ?_
      refine aA (aN (.int _ _) rfl rfl rfl) rfl rfl ?_
      refine aK 23 (.int .u64 ((mI dx dy : Nat) : Int)) (iE (by rw [eX]; unfold mI at *; omega)) ?_
      refine aA (aD (.int _ _) rfl) rfl rfl ?_
      refine aE (aF (aU ?_))
      refine cU (.int _ _) rfl ?_
      exact ⟨rfl, M0.below⟩
    · refine aO (aF (aH (aB ?_)))
      refine aA (aC (.int _ _) rfl) rfl rfl ?_
      refine aA (dH lD Tryz.underlying170 rfl) rfl rfl ?_
      refine aK 14 (.int .u64 ((dx.natAbs : Nat) : Int)) (iE (by rw [eX]; omega)) ?_
      refine aA (aC (.int _ _) rfl) rfl rfl ?_
      refine aA (dH lD Tryz.underlying170 rfl) rfl rfl ?_
      refine aK 16 (.int .u64 ((dx.natAbs : Nat) : Int)) (iE (by rw [eX]; omega)) ?_
      refine aA (aN (.int _ _) rfl rfl rfl) rfl rfl ?_
      refine aK 17 (.int .u64 ((dx.natAbs * dx.natAbs : Nat) : Int)) (iE (iY _ _ (by omega))) ?_
      refine aA (aC (.int _ _) rfl) rfl rfl ?_
      refine aA (dH lD Tryz.underlying170 rfl) rfl rfl ?_
      refine aK 19 (.int .u64 ((dy.natAbs : Nat) : Int)) (iE (by rw [eX]; omega)) ?_
      refine aA (aC (.int _ _) rfl) rfl rfl ?_
      refine aA (dH lD Tryz.underlying170 rfl) rfl rfl ?_
      refine aK 21 (.int .u64 ((dy.natAbs : Nat) : Int)) (iE (by rw [eX]; omega)) ?_
      refine aA (aN (.int _ _) rfl rfl rfl) rfl rfl ?_
      refine aK 22 (.int .u64 ((dy.natAbs * dy.natAbs : Nat) : Int)) (iE (iY _ _ (by omega))) ?_
      refine aA (aN (.int _ _) rfl rfl rfl) rfl rfl ?_
      refine aK 23 (.int .u64 ((mI dx dy : Nat) : Int)) (iE (by rw [eX]; unfold mI at *; omega)) ?_
      refine aA (aD (.int _ _) rfl) rfl rfl ?_
      refine aE (aF (aU ?_))
      refine cU (.int _ _) rfl ?_
      exact ⟨rfl, M0.below⟩
set_option maxHeartbeats 4000000 in
theorem oH (w : World) (dx dy : Int) (hx : qW dx) (hy : qW dy) :
    Calls Tryz.prog 115 #[.int .i64 dx, .int .i64 dy] w (fun ex w' => ∃ v, ex = .returned v ∧ (fun v w' => v = .int .i64 (len dx dy) ∧ Below w.heap.size w w') v w') := by
  have hl := rI hx hy
  refine aL #[.tmp 4] 10 Tryz.func115 rfl Tryz.results115 Tryz.ntmps115 rfl ?_
  have M0 := Mem.refl w
  refine aH (aB ?_)
  refine aA (aD (.int _ _) rfl) rfl rfl ?_
  refine aE (aF (aH (aB ?_)))
  refine aA (aC (.int _ _) rfl) rfl rfl ?_
  refine aA (aC (.int _ _) rfl) rfl rfl ?_
  refine aM aPf rfl rfl rfl ?_
  refine (oW _ dx dy hx hy).mono ?_
  rintro _ w1 ⟨v1, rfl, ⟨rfl, hb1⟩⟩
  refine ⟨_, rfl, ?_⟩
  have M1 := M0.callB hb1
  refine aM aXt rfl rfl rfl ?_
  refine (aEw _ (mI dx dy) (nT hx hy).1).mono ?_
  rintro _ w2 ⟨v2, rfl, ⟨rfl, hb2⟩⟩
  refine ⟨_, rfl, ?_⟩
  have M2 := M1.callB hb2
  refine aA (dH qT Tryz.underlying2 rfl) rfl rfl ?_
  refine aK 9 (.int .i64 (len dx dy)) (iE (eT (len dx dy) (by omega) (by omega))) ?_
  refine aA (aD (.int _ _) rfl) rfl rfl ?_
  refine aE (aF (aU ?_))
  refine cU (.int _ _) rfl ?_
  exact ⟨rfl, M2.below⟩
set_option maxHeartbeats 4000000 in
theorem aJe (w : World) (dx dy : Int) (hx : qW dx) (hy : qW dy) :
    Calls Tryz.prog 114 #[.int .i64 dx, .int .i64 dy] w (fun ex w' => ∃ v, ex = .returned v ∧ (fun v w' => v = (.agg (bV (jW dx dy)).toArray) ∧ Below w.heap.size w w') v w') := by
  have hl := rI hx hy
  have hxx := hx
  have hyy := hy
  unfold qW at hxx hyy
  have hl0 := aPj dx dy
  refine aL #[.cell 4 38] 27 Tryz.func114 rfl Tryz.results114 Tryz.ntmps114 rfl ?_
  have M0 := Mem.refl w
  refine aH (aB ?_)
  refine aV gE M0 rfl rfl (fun b1 w1 M1 => ?_)
  refine aE (aF (aH (aH (aB ?_))))
  refine aA (aC (.int _ _) rfl) rfl rfl ?_
  refine aA (aN (.bool (decide _)) rfl rfl rfl) rfl rfl ?_
  refine aA (aC (.bool (decide _)) rfl) rfl rfl ?_
  refine dT 8 rfl (fun g8 => ?_) (fun g8 => ?_)
  · refine aA (aC (.int _ _) rfl) rfl rfl ?_
    refine aA (aN (.bool (decide _)) rfl rfl rfl) rfl rfl ?_
    refine aA (bQ true (.bool (decide _)) rfl rfl) rfl rfl ?_
    refine aE (aF ?_)
    refine aX rfl (fun h11 => ?_) (fun h11 => ?_)
    · refine aH (aB ?_)
      refine aA (cL [(0, .int _ _)] _ dW rfl rfl) rfl rfl ?_
      refine bL 0 _ bE M1 rfl rfl rfl rfl rfl (bA rfl) rfl (fun w2 M2 => ?_)
      refine aE (aF (aU (dC ?_)))
      refine gM 0 bE M2 rfl rfl rfl ?_
      exact ⟨by unfold jW; first | (rw [if_pos (by omega)]; rfl) | (rw [if_neg (by omega)]; rfl), M2.below⟩
    · refine aO (aF (aH (aB ?_)))
      refine aA (aC (.int _ _) rfl) rfl rfl ?_
      refine aA (aC (.int _ _) rfl) rfl rfl ?_
      refine aM aHx rfl rfl rfl ?_
      refine (oH _ dx dy hx hy).mono ?_
      rintro _ w3 ⟨v3, rfl, ⟨rfl, hb3⟩⟩
      refine ⟨_, rfl, ?_⟩
      have M3 := M1.callB hb3
      refine aA (aD (.int _ _) rfl) rfl rfl ?_
      refine aE (aF (aH (aB ?_)))
      refine aA (aC (.int _ _) rfl) rfl rfl ?_
      refine aA (fP rfl rfl (by omega) (by omega)) rfl rfl ?_
      refine aA (aC (.int _ _) rfl) rfl rfl ?_
      refine aM mK rfl rfl rfl ?_
      refine (eI _ (dx * 65536) (len dx dy) (by omega) (by omega) (by omega)).mono ?_
      rintro _ w4 ⟨v4, rfl, ⟨rfl, hb4⟩⟩
      refine ⟨_, rfl, ?_⟩
      have M4 := M3.callB hb4
      refine aA (dH lD Tryz.underlying21 rfl) rfl rfl ?_
      refine aA (aC (.int _ _) rfl) rfl rfl ?_
      refine aA (fP rfl rfl (by omega) (by omega)) rfl rfl ?_
      refine aA (aC (.int _ _) rfl) rfl rfl ?_
      refine aM mK rfl rfl rfl ?_
      refine (eI _ (dy * 65536) (len dx dy) (by omega) (by omega) (by omega)).mono ?_
      rintro _ w5 ⟨v5, rfl, ⟨rfl, hb5⟩⟩
      refine ⟨_, rfl, ?_⟩
      have M5 := M4.callB hb5
      refine aA (dH lD Tryz.underlying21 rfl) rfl rfl ?_
      refine aA (cL [(0, .int _ _), (1, .int _ _)] _ dW rfl rfl) rfl rfl ?_
      refine bL 0 _ bE M5 rfl rfl rfl rfl rfl (bA rfl) rfl (fun w6 M6 => ?_)
      refine aE (aF (aU ?_))
      refine gM 0 bE M6 rfl rfl rfl ?_
      exact ⟨by unfold jW; first | (rw [if_pos (by omega)]; rfl) | (rw [if_neg (by omega)]; rfl), M6.below⟩
  · refine aS rfl rfl ?_
    refine aS rfl rfl ?_
    refine aA (bQ false (.bool false) rfl rfl) rfl rfl ?_
    refine aE (aF ?_)
    refine cP rfl ?_
    refine aO (aF (aH (aB ?_)))
    refine aA (aC (.int _ _) rfl) rfl rfl ?_
    refine aA (aC (.int _ _) rfl) rfl rfl ?_
    refine aM aHx rfl rfl rfl ?_
    refine (oH _ dx dy hx hy).mono ?_
    rintro _ w7 ⟨v7, rfl, ⟨rfl, hb7⟩⟩
    refine ⟨_, rfl, ?_⟩
    have M7 := M1.callB hb7
    refine aA (aD (.int _ _) rfl) rfl rfl ?_
    refine aE (aF (aH (aB ?_)))
    refine aA (aC (.int _ _) rfl) rfl rfl ?_
    refine aA (fP rfl rfl (by omega) (by omega)) rfl rfl ?_
    refine aA (aC (.int _ _) rfl) rfl rfl ?_
    refine aM mK rfl rfl rfl ?_
    refine (eI _ (dx * 65536) (len dx dy) (by omega) (by omega) (by omega)).mono ?_
    rintro _ w8 ⟨v8, rfl, ⟨rfl, hb8⟩⟩
    refine ⟨_, rfl, ?_⟩
    have M8 := M7.callB hb8
    refine aA (dH lD Tryz.underlying21 rfl) rfl rfl ?_
    refine aA (aC (.int _ _) rfl) rfl rfl ?_
    refine aA (fP rfl rfl (by omega) (by omega)) rfl rfl ?_
    refine aA (aC (.int _ _) rfl) rfl rfl ?_
    refine aM mK rfl rfl rfl ?_
    refine (eI _ (dy * 65536) (len dx dy) (by omega) (by omega) (by omega)).mono ?_
    rintro _ w9 ⟨v9, rfl, ⟨rfl, hb9⟩⟩
    refine ⟨_, rfl, ?_⟩
    have M9 := M8.callB hb9
    refine aA (dH lD Tryz.underlying21 rfl) rfl rfl ?_
    refine aA (cL [(0, .int _ _), (1, .int _ _)] _ dW rfl rfl) rfl rfl ?_
    refine bL 0 _ bE M9 rfl rfl rfl rfl rfl (bA rfl) rfl (fun w10 M10 => ?_)
    refine aE (aF (aU ?_))
    refine gM 0 bE M10 rfl rfl rfl ?_
    exact ⟨by unfold jW; first | (rw [if_pos (by omega)]; rfl) | (rw [if_neg (by omega)]; rfl), M10.below⟩
set_option maxHeartbeats 4000000 in
theorem uF (w : World) (b : Body) (hb : Okb b) :
    Calls Tryz.prog 144 #[(.agg (aI b).toArray)] w (fun ex w' => ∃ v, ex = .returned v ∧ (fun v w' => v = (.agg (bV (tU b)).toArray) ∧ Below w.heap.size w w') v w') := by
  have ha := hb.a
  have hp := hb.p
  refine aL #[.cell 2 38] 18 Tryz.func144 rfl Tryz.results144 Tryz.ntmps144 rfl ?_
  have M0 := Mem.refl w
  refine aH (aB ?_)
  refine bM (.agg (List.toArray _)) M0 rfl rfl rfl (fun b1 w1 M1 => ?_)
  refine aV gE M1 rfl rfl (fun b2 w2 M2 => ?_)
  refine aE (aF (aH (aB ?_)))
  refine aA (aG 6 eO rfl) rfl rfl ?_
  refine aA (aG 0 cN rfl) rfl rfl ?_
  refine aA (aQ 0 (.int _ _) aW M2 rfl rfl rfl) rfl rfl ?_
  refine aA (aG 2 jA rfl) rfl rfl ?_
  refine aA (aG 0 cN rfl) rfl rfl ?_
  refine aA (aQ 0 (.int _ _) aW M2 rfl rfl rfl) rfl rfl ?_
  refine aA (kC rfl rfl (iF _ (by omega) (by omega))) rfl rfl ?_
  refine aA (aG 6 eO rfl) rfl rfl ?_
  refine aA (aG 1 cJ rfl) rfl rfl ?_
  refine aA (aQ 0 (.int _ _) aW M2 rfl rfl rfl) rfl rfl ?_
  refine aA (aG 2 jA rfl) rfl rfl ?_
  refine aA (aG 1 cJ rfl) rfl rfl ?_
  refine aA (aQ 0 (.int _ _) aW M2 rfl rfl rfl) rfl rfl ?_
  refine aA (kC rfl rfl (iF _ (by omega) (by omega))) rfl rfl ?_
  refine aA (cL [(0, .int _ _), (1, .int _ _)] _ dW rfl rfl) rfl rfl ?_
  refine bL 1 _ bE M2 rfl rfl rfl rfl rfl (bA rfl) rfl (fun w3 M3 => ?_)
  refine aE (aF (aU ?_))
  refine gM 1 bE M3 rfl rfl rfl ?_
  exact ⟨rfl, M3.below⟩
set_option maxHeartbeats 4000000 in
theorem sY (w : World) (b : Body) (hb : Okb b) :
    Calls Tryz.prog 145 #[(.agg (aI b).toArray)] w (fun ex w' => ∃ v, ex = .returned v ∧ (fun v w' => v = (.agg (bV (tK b)).toArray) ∧ Below w.heap.size w w') v w') := by
  have ha := hb.a
  have hp := hb.p
  refine aL #[.cell 2 38] 18 Tryz.func145 rfl Tryz.results145 Tryz.ntmps145 rfl ?_
  have M0 := Mem.refl w
  refine aH (aB ?_)
  refine bM (.agg (List.toArray _)) M0 rfl rfl rfl (fun b1 w1 M1 => ?_)
  refine aV gE M1 rfl rfl (fun b2 w2 M2 => ?_)
  refine aE (aF (aH (aB ?_)))
  refine aA (aG 6 eO rfl) rfl rfl ?_
  refine aA (aG 0 cN rfl) rfl rfl ?_
  refine aA (aQ 0 (.int _ _) aW M2 rfl rfl rfl) rfl rfl ?_
  refine aA (aG 2 jA rfl) rfl rfl ?_
  refine aA (aG 0 cN rfl) rfl rfl ?_
  refine aA (aQ 0 (.int _ _) aW M2 rfl rfl rfl) rfl rfl ?_
  refine aA (fZ rfl rfl (iF _ (by omega) (by omega))) rfl rfl ?_
  refine aA (aG 6 eO rfl) rfl rfl ?_
  refine aA (aG 1 cJ rfl) rfl rfl ?_
  refine aA (aQ 0 (.int _ _) aW M2 rfl rfl rfl) rfl rfl ?_
  refine aA (aG 2 jA rfl) rfl rfl ?_
  refine aA (aG 1 cJ rfl) rfl rfl ?_
  refine aA (aQ 0 (.int _ _) aW M2 rfl rfl rfl) rfl rfl ?_
  refine aA (fZ rfl rfl (iF _ (by omega) (by omega))) rfl rfl ?_
  refine aA (cL [(0, .int _ _), (1, .int _ _)] _ dW rfl rfl) rfl rfl ?_
  refine bL 1 _ bE M2 rfl rfl rfl rfl rfl (bA rfl) rfl (fun w3 M3 => ?_)
  refine aE (aF (aU ?_))
  refine gM 1 bE M3 rfl rfl rfl ?_
  exact ⟨rfl, M3.below⟩
end Go.Proofs.YtlmcphcgiclanaaGreatDoor

namespace Go.Proofs.YtlmcphcgiclanaaGreatDoor
open Go.Bil
open Go.RowKit (Below)
open Go.Proofs
set_option maxHeartbeats 4000000 in
theorem aNn (w : World) (b : Body) (hb : Okb b) :
    Calls Tryz.prog 220 #[(.agg (aI b).toArray)] w (fun ex w' => ∃ v, ex = .returned v ∧ (fun v w' => v = .tuple #[(.agg (bV (tU b)).toArray), (.agg (bV (tK b)).toArray)] ∧ Below w.heap.size w w') v w') := by
  have ha := hb.a
  have hp := hb.p
  refine aL #[.cell 2 38, .cell 3 38] 36 Tryz.func220 rfl Tryz.results220 Tryz.ntmps220 rfl ?_
  have M0 := Mem.refl w
  refine aH (aB ?_)
  refine bM (.agg (List.toArray _)) M0 rfl rfl rfl (fun b1 w1 M1 => ?_)
  refine aV gE M1 rfl rfl (fun b2 w2 M2 => ?_)
  refine aV gE M2 rfl rfl (fun b3 w3 M3 => ?_)
  refine aE (aF (aH (aB ?_)))
  refine aA (aG 6 eO rfl) rfl rfl ?_
  refine aA (aG 0 cN rfl) rfl rfl ?_
  refine aA (aQ 0 (.int _ _) aW M3 rfl rfl rfl) rfl rfl ?_
  refine aA (aG 2 jA rfl) rfl rfl ?_
  refine aA (aG 0 cN rfl) rfl rfl ?_
  refine aA (aQ 0 (.int _ _) aW M3 rfl rfl rfl) rfl rfl ?_
  refine aA (kC rfl rfl (iF _ (by omega) (by omega))) rfl rfl ?_
  refine aA (aG 6 eO rfl) rfl rfl ?_
  refine aA (aG 1 cJ rfl) rfl rfl ?_
  refine aA (aQ 0 (.int _ _) aW M3 rfl rfl rfl) rfl rfl ?_
  refine aA (aG 2 jA rfl) rfl rfl ?_
  refine aA (aG 1 cJ rfl) rfl rfl ?_
  refine aA (aQ 0 (.int _ _) aW M3 rfl rfl rfl) rfl rfl ?_
  refine aA (kC rfl rfl (iF _ (by omega) (by omega))) rfl rfl ?_
  refine aA (cL [(0, .int _ _), (1, .int _ _)] _ dW rfl rfl) rfl rfl ?_
  refine bL 1 _ bE M3 rfl rfl rfl rfl rfl (bA rfl) rfl (fun w4 M4 => ?_)
  refine aE (aF (aH (aB ?_)))
  refine aA (aG 6 eO rfl) rfl rfl ?_
  refine aA (aG 0 cN rfl) rfl rfl ?_
  refine aA (aQ 0 (.int _ _) aW M4 rfl rfl rfl) rfl rfl ?_
  refine aA (aG 2 jA rfl) rfl rfl ?_
  refine aA (aG 0 cN rfl) rfl rfl ?_
  refine aA (aQ 0 (.int _ _) aW M4 rfl rfl rfl) rfl rfl ?_
  refine aA (fZ rfl rfl (iF _ (by omega) (by omega))) rfl rfl ?_
  refine aA (aG 6 eO rfl) rfl rfl ?_
  refine aA (aG 1 cJ rfl) rfl rfl ?_
  refine aA (aQ 0 (.int _ _) aW M4 rfl rfl rfl) rfl rfl ?_
  refine aA (aG 2 jA rfl) rfl rfl ?_
  refine aA (aG 1 cJ rfl) rfl rfl ?_
  refine aA (aQ 0 (.int _ _) aW M4 rfl rfl rfl) rfl rfl ?_
  refine aA (fZ rfl rfl (iF _ (by omega) (by omega))) rfl rfl ?_
  refine aA (cL [(0, .int _ _), (1, .int _ _)] _ dW rfl rfl) rfl rfl ?_
  refine bL 2 _ bE M4 rfl rfl rfl rfl rfl (bA rfl) rfl (fun w5 M5 => ?_)
  refine aE (aF (aH ?_))
  refine bY [(0, 1), (1, 1), (2, 2), (3, 2)] mixed rfl (by kernel_rfl) (fun w6 hb6 hh6 => ?_)
  have M6 := M5.drew hb6 hh6
  refine cB rfl rfl rfl (aR 1 bE M6 rfl rfl rfl) ?_
  refine cB rfl rfl rfl (aR 2 bE M6 rfl rfl rfl) ?_
  refine eN [false, true] rfl (by kernel_rfl) ?_
  refine bL 1 _ bE M6 rfl rfl rfl rfl rfl (bA rfl) rfl (fun w7 M7 => ?_)
  refine aE (aF ⟨(fH (cF rfl (aR 2 bE M7 rfl rfl rfl)) eM), ?_⟩)
  refine eN [true] rfl (by kernel_rfl) ?_
  refine bL 2 _ bE M7 rfl rfl rfl rfl rfl (bA rfl) rfl (fun w8 M8 => ?_)
  refine aE (aF ⟨eM, ?_⟩)
  refine cI ?_
  refine aF (aU ?_)
  refine aJk 1 2 bE M8 rfl rfl rfl rfl rfl rfl ?_
  exact ⟨rfl, M8.below⟩
set_option maxHeartbeats 4000000 in
theorem aEd (w : World) (p q c : Pt) (h : SgI p q) (hc : PtI c) :
    Calls Tryz.prog 244 #[(.agg (bV p).toArray), (.agg (bV q).toArray), (.agg (bV c).toArray)] w (fun ex w' => ∃ v, ex = .returned v ∧ (fun v w' => v = .tuple #[.int .i64 (lS p q c), .int .i64 (jT p q)] ∧ Below w.heap.size w w') v w') := by
  have hD := kO h
  have hx := aAv h hc
  refine aL #[.tmp 6, .tmp 7] 42 Tryz.func244 rfl Tryz.results244 Tryz.ntmps244 rfl ?_
  have M0 := Mem.refl w
  refine aH (aB ?_)
  refine bM (.agg (List.toArray _)) M0 rfl rfl rfl (fun b1 w1 M1 => ?_)
  refine bM (.agg (List.toArray _)) M1 rfl rfl rfl (fun b2 w2 M2 => ?_)
  refine bM (.agg (List.toArray _)) M2 rfl rfl rfl (fun b3 w3 M3 => ?_)
  refine aA (aD (.int _ _) rfl) rfl rfl ?_
  refine aA (aD (.int _ _) rfl) rfl rfl ?_
  refine aE (aF (aH (aB ?_)))
  refine aA (aR 0 bE M3 rfl rfl rfl) rfl rfl ?_
  refine aA (aR 1 bE M3 rfl rfl rfl) rfl rfl ?_
  refine aM xT rfl rfl rfl ?_
  refine (oU _ p q h.hp.i32 h.hq.i32).mono ?_
  rintro _ w4 ⟨v4, rfl, ⟨rfl, hb4⟩⟩
  refine ⟨_, rfl, ?_⟩
  have M4 := M3.callB hb4
  refine aA (aC (.tuple (List.toArray _)) rfl) rfl rfl ?_
  refine aA (bI (.int _ _) rfl rfl) rfl rfl ?_
  refine aA (bI (.int _ _) rfl rfl) rfl rfl ?_
  refine aA (aD (.int _ _) rfl) rfl rfl ?_
  refine aA (aD (.int _ _) rfl) rfl rfl ?_
  refine aE (aF (aH (aB ?_)))
  refine aA (aR 0 bE M4 rfl rfl rfl) rfl rfl ?_
  refine aA (aR 2 bE M4 rfl rfl rfl) rfl rfl ?_
  refine aM xT rfl rfl rfl ?_
  refine (oU _ p c h.hp.i32 hc.i32).mono ?_
  rintro _ w5 ⟨v5, rfl, ⟨rfl, hb5⟩⟩
  refine ⟨_, rfl, ?_⟩
  have M5 := M4.callB hb5
  refine aA (aC (.tuple (List.toArray _)) rfl) rfl rfl ?_
  refine aA (bI (.int _ _) rfl rfl) rfl rfl ?_
  refine aA (bI (.int _ _) rfl rfl) rfl rfl ?_
  refine aA (aD (.int _ _) rfl) rfl rfl ?_
  refine aA (aD (.int _ _) rfl) rfl rfl ?_
  refine aE (aF (aH (aB ?_)))
  refine aA (aC (.int _ _) rfl) rfl rfl ?_
  refine aA (aC (.int _ _) rfl) rfl rfl ?_
  refine aA (fP rfl rfl (by omega) (by omega)) rfl rfl ?_
  refine aA (aC (.int _ _) rfl) rfl rfl ?_
  refine aA (aC (.int _ _) rfl) rfl rfl ?_
  refine aA (fP rfl rfl (by omega) (by omega)) rfl rfl ?_
  refine aA (aZ rfl rfl (by omega) (by omega)) rfl rfl ?_
  refine aK 30 (.int .i64 (jT p q)) rfl ?_
  refine aA (aD (.int _ _) rfl) rfl rfl ?_
  refine aE (aF (aH (aB ?_)))
  refine aA (aC (.int _ _) rfl) rfl rfl ?_
  refine aA (aC (.int _ _) rfl) rfl rfl ?_
  refine aA (fP rfl rfl (by omega) (by omega)) rfl rfl ?_
  refine aA (aC (.int _ _) rfl) rfl rfl ?_
  refine aA (aC (.int _ _) rfl) rfl rfl ?_
  refine aA (fP rfl rfl (by omega) (by omega)) rfl rfl ?_
  refine aA (aZ rfl rfl (by omega) (by omega)) rfl rfl ?_
  refine aA (aC (.int _ _) rfl) rfl rfl ?_
  refine aA (wM rfl rfl ) rfl rfl ?_
  refine aA (lJ rfl rfl ) rfl rfl ?_
  refine aA (aC (.int _ _) rfl) rfl rfl ?_
  refine aA (aD (.int _ _) rfl) rfl rfl ?_
  refine aA (aD (.int _ _) rfl) rfl rfl ?_
  refine aE (aF (aU ?_))
  refine fR (.int _ _) (.int _ _) rfl rfl ?_
  exact ⟨rfl, M5.below⟩
set_option maxHeartbeats 4000000 in
theorem aAe (w : World) (f a n d : Int) (bn bd : Nat) (ha : -16777216 ≤ a ∧ a ≤ 16777216) (hn : 0 ≤ n) (hnd : n ≤ d) (hd0 : 0 < d) (hd : d ≤ 562949953421312) (h1 : -16777216 ≤ a * n / d ∧ a * n / d ≤ 16777216) (h2 : -1082130432 ≤ f + a * n / d ∧ f + a * n / d ≤ 1082130432) (K1 : Rd w 1 (some ⟨bn, 0, none⟩) 1 [[.int .i64 n]]) (K2 : Rd w 1 (some ⟨bd, 0, none⟩) 1 [[.int .i64 d]]) :
    Calls Tryz.prog 245 #[.int .i32 f, .int .i64 a, .pointer (some ⟨bn, 0, none⟩), .pointer (some ⟨bd, 0, none⟩)] w (fun ex w' => ∃ v, ex = .returned v ∧ (fun v w' => v = .int .i32 (f + a * n / d) ∧ Below w.heap.size w w') v w') := by
  rw [← iJ bn, ← iJ bd]
  refine aL #[.tmp 6] 20 Tryz.func245 rfl Tryz.results245 Tryz.ntmps245 rfl ?_
  have M0 := Mem.refl w
  refine aH (aB ?_)
  refine aA (aD (.int _ _) rfl) rfl rfl ?_
  refine aE (aF (aH (aB ?_)))
  refine aA (aC (.int _ _) rfl) rfl rfl ?_
  refine aA (dR (o := 0) (.int _ _) gA (K1.mem M0) (show ([[.int .i64 n]] : List (List Value))[0]? = some [.int .i64 n] from rfl) rfl rfl) rfl rfl ?_
  refine aA (dR (o := 0) (.int _ _) gA (K2.mem M0) (show ([[.int .i64 d]] : List (List Value))[0]? = some [.int .i64 d] from rfl) rfl rfl) rfl rfl ?_
  refine aM aBg rfl rfl rfl ?_
  refine (aZs _ a n d (by omega) hn hnd hd0 (by omega)).mono ?_
  rintro _ w1 ⟨v1, rfl, ⟨rfl, hb1⟩⟩
  refine ⟨_, rfl, ?_⟩
  have M1 := M0.callB hb1
  refine aA (aC (.tuple (List.toArray _)) rfl) rfl rfl ?_
  refine aA (bI (.int _ _) rfl rfl) rfl rfl ?_
  refine aA (bI (.int _ _) rfl rfl) rfl rfl ?_
  refine aA (aD (.int _ _) rfl) rfl rfl ?_
  refine aA (aD (.int _ _) rfl) rfl rfl ?_
  refine aE (aF (aH (aB ?_)))
  refine aA (aC (.int _ _) rfl) rfl rfl ?_
  refine aA (aC (.int _ _) rfl) rfl rfl ?_
  refine aA (bC lD Tryz.underlying21 rfl (iF _ (by omega) (by omega))) rfl rfl ?_
  refine aA (fZ rfl rfl (iF _ (by omega) (by omega))) rfl rfl ?_
  refine aA (aD (.int _ _) rfl) rfl rfl ?_
  refine aE (aF (aU ?_))
  refine cU (.int _ _) rfl ?_
  exact ⟨rfl, M1.below⟩
set_option maxHeartbeats 4000000 in
theorem kL (w : World) (p q c : Pt) (h : SgI p q) (hc : PtI c) :
    Calls Tryz.prog 239 #[(.agg (bV p).toArray), (.agg (bV q).toArray), (.agg (bV c).toArray)] w (fun ex w' => ∃ v, ex = .returned v ∧ (fun v w' => v = (.agg (bV (bR p q c)).toArray) ∧ Below w.heap.size w w') v w') := by
  have hD := kO h
  have hn := sD (c := c) h
  have hx := h.x
  have hy := h.y
  refine aL #[.cell 6 38] 40 Tryz.func239 rfl Tryz.results239 Tryz.ntmps239 rfl ?_
  have M0 := Mem.refl w
  refine aH (aB ?_)
  refine bM (.agg (List.toArray _)) M0 rfl rfl rfl (fun b1 w1 M1 => ?_)
  refine bM (.agg (List.toArray _)) M1 rfl rfl rfl (fun b2 w2 M2 => ?_)
  refine bM (.agg (List.toArray _)) M2 rfl rfl rfl (fun b3 w3 M3 => ?_)
  refine aV gE M3 rfl rfl (fun b4 w4 M4 => ?_)
  refine aE (aF (aH (aB ?_)))
  refine aA (aR 0 bE M4 rfl rfl rfl) rfl rfl ?_
  refine aA (aR 1 bE M4 rfl rfl rfl) rfl rfl ?_
  refine aA (aR 2 bE M4 rfl rfl rfl) rfl rfl ?_
  refine aM aYi rfl rfl rfl ?_
  refine (aEd _ p q c h hc).mono ?_
  rintro _ w5 ⟨v5, rfl, ⟨rfl, hb5⟩⟩
  refine ⟨_, rfl, ?_⟩
  have M5 := M4.callB hb5
  refine aA (aC (.tuple (List.toArray _)) rfl) rfl rfl ?_
  refine aA (bI (.int _ _) rfl rfl) rfl rfl ?_
  refine aA (bI (.int _ _) rfl rfl) rfl rfl ?_
  refine aV wB M5 rfl rfl (fun b6 w6 M6 => ?_)
  refine aV wB M6 rfl rfl (fun b7 w7 M7 => ?_)
  refine cY 4 (.int _ _) gA M7 rfl rfl rfl rfl rfl rfl (fun w8 M8 => ?_)
  refine cY 5 (.int _ _) gA M8 rfl rfl rfl rfl rfl rfl (fun w9 M9 => ?_)
  refine aE (aF (aH (aH (aB ?_))))
  refine aA (aQ 5 (.int _ _) gA M9 rfl rfl rfl) rfl rfl ?_
  refine aA (aN (.bool (decide _)) rfl rfl rfl) rfl rfl ?_
  refine aE (aF ?_)
  refine aX rfl (fun h20 => ?_) (fun h20 => ?_)
  · refine aH (aB ?_)
    refine aA (aR 0 bE M9 rfl rfl rfl) rfl rfl ?_
    refine bL 3 _ bE M9 rfl rfl rfl rfl rfl (bA rfl) rfl (fun w10 M10 => ?_)
    refine aE (aF (aU (dC ?_)))
    refine gM 3 bE M10 rfl rfl rfl ?_
    exact ⟨by unfold bR; first | (rw [if_pos h20]; rfl) | (rw [if_neg h20]; rfl), M10.below⟩
  · have hnr := yN (c := c) h h20
    refine aO (aF (aH (aB ?_)))
    refine aA (eH [] [.pointer _, .pointer _] rfl rfl) rfl rfl ?_
    refine aA (aD (.func _ _ _) rfl) rfl rfl ?_
    refine aE (aF (aH (aB ?_)))
    refine aA (aR 0 bE M9 rfl rfl rfl) rfl rfl ?_
    refine aA (aR 1 bE M9 rfl rfl rfl) rfl rfl ?_
    refine aM xT rfl rfl rfl ?_
    refine (oU _ p q h.hp.i32 h.hq.i32).mono ?_
    rintro _ w11 ⟨v11, rfl, ⟨rfl, hb11⟩⟩
    refine ⟨_, rfl, ?_⟩
    have M11 := M9.callB hb11
    refine aA (aC (.tuple (List.toArray _)) rfl) rfl rfl ?_
    refine aA (bI (.int _ _) rfl rfl) rfl rfl ?_
    refine aA (bI (.int _ _) rfl rfl) rfl rfl ?_
    refine aA (aD (.int _ _) rfl) rfl rfl ?_
    refine aA (aD (.int _ _) rfl) rfl rfl ?_
    refine aE (aF (aH ?_))
    refine bY [(0, 0), (1, 0), (2, 1), (3, 0), (5, 0), (6, 0), (7, 1), (8, 0), (4, 2), (9, 2), (10, 0), (11, 2)] mixed rfl (by kernel_rfl) (fun w12 hb12 hh12 => ?_)
    have M12 := M11.drew hb12 hh12
    refine aP rfl rfl rfl (fun _ => aC (.func _ _ _) rfl) ?_
    refine aP rfl rfl rfl (fun _ => aG 0 cN rfl) ?_
    refine cB rfl rfl rfl (aQ 0 (.int _ _) aW M12 rfl rfl rfl) ?_
    refine aP rfl rfl rfl (fun _ => aC (.int _ _) rfl) ?_
    refine aP rfl rfl rfl (fun _ => aC (.func _ _ _) rfl) ?_
    refine aP rfl rfl rfl (fun _ => aG 1 cJ rfl) ?_
    refine cB rfl rfl rfl (aQ 0 (.int _ _) aW M12 rfl rfl rfl) ?_
    refine aP rfl rfl rfl (fun _ => aC (.int _ _) rfl) ?_
    refine eN [false, true] rfl (by kernel_rfl) ?_
    refine aM aQm rfl rfl rfl ?_
    refine (aAe _ p.1 (q.1 - p.1) (lS p q c) (jT p q) b6 b7 (by omega) hn.1 hn.2 (by omega) (by omega) hnr.1.1 hnr.1.2 (qI 4 M12 rfl rfl) (qI 5 M12 rfl rfl)).mono ?_
    rintro _ w13 ⟨v13, rfl, ⟨rfl, hb13⟩⟩
    refine ⟨_, rfl, ?_⟩
    have M13 := M12.callB hb13
    refine aE (aF ⟨(fH (cF rfl (aQ 0 (.int _ _) aW M13 rfl rfl rfl)) eM), ?_⟩)
    refine eN [true] rfl (by kernel_rfl) ?_
    refine aM aQm rfl rfl rfl ?_
    refine (aAe _ p.2 (q.2 - p.2) (lS p q c) (jT p q) b6 b7 (by omega) hn.1 hn.2 (by omega) (by omega) hnr.2.1 hnr.2.2 (qI 4 M13 rfl rfl) (qI 5 M13 rfl rfl)).mono ?_
    rintro _ w14 ⟨v14, rfl, ⟨rfl, hb14⟩⟩
    refine ⟨_, rfl, ?_⟩
    have M14 := M13.callB hb14
    refine aE (aF ⟨eM, ?_⟩)
    refine aP rfl rfl rfl (fun _ => cL [(0, .int _ _), (1, .int _ _)] _ dW rfl rfl) ?_
    refine eN [] rfl (by kernel_rfl) ?_
    refine bL 3 _ bE M14 rfl rfl rfl rfl rfl (bA rfl) rfl (fun w15 M15 => ?_)
    refine aE (aF ⟨eM, ?_⟩)
    refine cI ?_
    refine aF (aU ?_)
    refine gM 3 bE M15 rfl rfl rfl ?_
    exact ⟨by unfold bR; first | (rw [if_pos h20]; rfl) | (rw [if_neg h20]; rfl), M15.below⟩
end Go.Proofs.YtlmcphcgiclanaaGreatDoor

namespace Go.Proofs.YtlmcphcgiclanaaGreatDoor
open Go.Bil
open Go.RowKit (Below)
open Go.Proofs
set_option maxHeartbeats 4000000 in
theorem sW (w : World) (p q : Pt) (h : SgI p q) :
    Calls Tryz.prog 208 #[(.agg (bV p).toArray), (.agg (bV q).toArray)] w (fun ex w' => ∃ v, ex = .returned v ∧ (fun v w' => v = .int .i64 (jT p q) ∧ Below w.heap.size w w') v w') := by
  have hD := kO h
  have hp := h.hp.i32
  have hq := h.hq.i32
  have hpx := hp.x
  have hpy := hp.y
  have hqx := hq.x
  have hqy := hq.y
  refine aL #[.tmp 4] 28 Tryz.func208 rfl Tryz.results208 Tryz.ntmps208 rfl ?_
  have M0 := Mem.refl w
  refine aH (aB ?_)
  refine bM (.agg (List.toArray _)) M0 rfl rfl rfl (fun b1 w1 M1 => ?_)
  refine bM (.agg (List.toArray _)) M1 rfl rfl rfl (fun b2 w2 M2 => ?_)
  refine aA (aD (.int _ _) rfl) rfl rfl ?_
  refine aE (aF (aH (aB ?_)))
  refine aA (aG 0 cN rfl) rfl rfl ?_
  refine aA (aQ 1 (.int _ _) aW M2 rfl rfl rfl) rfl rfl ?_
  refine aA (bC dJ Tryz.underlying2 rfl (eT _ (by omega) (by omega))) rfl rfl ?_
  refine aA (aG 0 cN rfl) rfl rfl ?_
  refine aA (aQ 0 (.int _ _) aW M2 rfl rfl rfl) rfl rfl ?_
  refine aA (bC dJ Tryz.underlying2 rfl (eT _ (by omega) (by omega))) rfl rfl ?_
  refine aA (fC rfl rfl (by omega) (by omega)) rfl rfl ?_
  refine aA (aD (.int _ _) rfl) rfl rfl ?_
  refine aE (aF (aH (aB ?_)))
  refine aA (aG 1 cJ rfl) rfl rfl ?_
  refine aA (aQ 1 (.int _ _) aW M2 rfl rfl rfl) rfl rfl ?_
  refine aA (bC dJ Tryz.underlying2 rfl (eT _ (by omega) (by omega))) rfl rfl ?_
  refine aA (aG 1 cJ rfl) rfl rfl ?_
  refine aA (aQ 0 (.int _ _) aW M2 rfl rfl rfl) rfl rfl ?_
  refine aA (bC dJ Tryz.underlying2 rfl (eT _ (by omega) (by omega))) rfl rfl ?_
  refine aA (fC rfl rfl (by omega) (by omega)) rfl rfl ?_
  refine aA (aD (.int _ _) rfl) rfl rfl ?_
  refine aE (aF (aH (aB ?_)))
  refine aA (aC (.int _ _) rfl) rfl rfl ?_
  refine aA (aC (.int _ _) rfl) rfl rfl ?_
  refine aA (fP rfl rfl (by omega) (by omega)) rfl rfl ?_
  refine aA (aC (.int _ _) rfl) rfl rfl ?_
  refine aA (aC (.int _ _) rfl) rfl rfl ?_
  refine aA (fP rfl rfl (by omega) (by omega)) rfl rfl ?_
  refine aA (aZ rfl rfl (by omega) (by omega)) rfl rfl ?_
  refine aA (aD (.int _ _) rfl) rfl rfl ?_
  refine aE (aF (aU ?_))
  refine cU (.int _ _) rfl ?_
  exact ⟨rfl, M2.below⟩
set_option maxHeartbeats 4000000 in
theorem aGc (w : World) (n lo hi : Int) (h : lo ≤ hi) :
    Calls Tryz.prog 226 #[.int .i64 n, .int .i64 lo, .int .i64 hi] w (fun ex w' => ∃ v, ex = .returned v ∧ (fun v w' => v = .int .i64 (max lo (min n hi)) ∧ Below w.heap.size w w') v w') := by
  refine aL #[.tmp 6] 16 Tryz.func226 rfl Tryz.results226 Tryz.ntmps226 rfl ?_
  have M0 := Mem.refl w
  refine aH (aB ?_)
  refine aA (aD (.int _ _) rfl) rfl rfl ?_
  refine aE (aF (aH (aH (aB ?_))))
  refine aA (aC (.int _ _) rfl) rfl rfl ?_
  refine aA (aC (.int _ _) rfl) rfl rfl ?_
  refine aA (aN (.bool (decide _)) rfl rfl rfl) rfl rfl ?_
  refine aE (aF ?_)
  refine aX rfl (fun h9 => ?_) (fun h9 => ?_)
  · refine aH (aB ?_)
    refine aA (aC (.int _ _) rfl) rfl rfl ?_
    refine aA (aD (.int _ _) rfl) rfl rfl ?_
    refine aE (aF (aU (dC ?_)))
    refine cU (.int _ _) rfl ?_
    exact ⟨iE (by omega), M0.below⟩
  · refine aO (aF (aH (aH (aB ?_))))
    refine aA (aC (.int _ _) rfl) rfl rfl ?_
    refine aA (aC (.int _ _) rfl) rfl rfl ?_
    refine aA (aN (.bool (decide _)) rfl rfl rfl) rfl rfl ?_
    refine aE (aF ?_)
    refine aX rfl (fun h13 => ?_) (fun h13 => ?_)
    · refine aH (aB ?_)
      refine aA (aC (.int _ _) rfl) rfl rfl ?_
      refine aA (aD (.int _ _) rfl) rfl rfl ?_
      refine aE (aF (aU (dC ?_)))
      refine cU (.int _ _) rfl ?_
      exact ⟨iE (by omega), M0.below⟩
    · refine aO (aF (aH (aB ?_)))
      refine aA (aC (.int _ _) rfl) rfl rfl ?_
      refine aA (aD (.int _ _) rfl) rfl rfl ?_
      refine aE (aF (aU ?_))
      refine cU (.int _ _) rfl ?_
      exact ⟨iE (by omega), M0.below⟩
set_option maxHeartbeats 4000000 in
theorem aFx (w : World) (p q c : Pt) (h : SgI p q) (hc : PtI c) :
    Calls Tryz.prog 209 #[(.agg (bV p).toArray), (.agg (bV q).toArray), (.agg (bV c).toArray)] w (fun ex w' => ∃ v, ex = .returned v ∧ (fun v w' => v = .int .i64 (lS p q c) ∧ Below w.heap.size w w') v w') := by
  have hD := kO h
  have hx := aAv h hc
  have hp := h.hp.i32
  have hq := h.hq.i32
  have hci := hc.i32
  have hpx := hp.x
  have hpy := hp.y
  have hqx := hq.x
  have hqy := hq.y
  have hcx := hci.x
  have hcy := hci.y
  refine aL #[.tmp 6] 48 Tryz.func209 rfl Tryz.results209 Tryz.ntmps209 rfl ?_
  have M0 := Mem.refl w
  refine aH (aB ?_)
  refine bM (.agg (List.toArray _)) M0 rfl rfl rfl (fun b1 w1 M1 => ?_)
  refine bM (.agg (List.toArray _)) M1 rfl rfl rfl (fun b2 w2 M2 => ?_)
  refine bM (.agg (List.toArray _)) M2 rfl rfl rfl (fun b3 w3 M3 => ?_)
  refine aA (aD (.int _ _) rfl) rfl rfl ?_
  refine aE (aF (aH (aB ?_)))
  refine aA (aG 0 cN rfl) rfl rfl ?_
  refine aA (aQ 1 (.int _ _) aW M3 rfl rfl rfl) rfl rfl ?_
  refine aA (bC dJ Tryz.underlying2 rfl (eT _ (by omega) (by omega))) rfl rfl ?_
  refine aA (aG 0 cN rfl) rfl rfl ?_
  refine aA (aQ 0 (.int _ _) aW M3 rfl rfl rfl) rfl rfl ?_
  refine aA (bC dJ Tryz.underlying2 rfl (eT _ (by omega) (by omega))) rfl rfl ?_
  refine aA (fC rfl rfl (by omega) (by omega)) rfl rfl ?_
  refine aA (aD (.int _ _) rfl) rfl rfl ?_
  refine aE (aF (aH (aB ?_)))
  refine aA (aG 1 cJ rfl) rfl rfl ?_
  refine aA (aQ 1 (.int _ _) aW M3 rfl rfl rfl) rfl rfl ?_
  refine aA (bC dJ Tryz.underlying2 rfl (eT _ (by omega) (by omega))) rfl rfl ?_
  refine aA (aG 1 cJ rfl) rfl rfl ?_
  refine aA (aQ 0 (.int _ _) aW M3 rfl rfl rfl) rfl rfl ?_
  refine aA (bC dJ Tryz.underlying2 rfl (eT _ (by omega) (by omega))) rfl rfl ?_
  refine aA (fC rfl rfl (by omega) (by omega)) rfl rfl ?_
  refine aA (aD (.int _ _) rfl) rfl rfl ?_
  refine aE (aF (aH (aB ?_)))
  refine aA (aG 0 cN rfl) rfl rfl ?_
  refine aA (aQ 2 (.int _ _) aW M3 rfl rfl rfl) rfl rfl ?_
  refine aA (bC dJ Tryz.underlying2 rfl (eT _ (by omega) (by omega))) rfl rfl ?_
  refine aA (aG 0 cN rfl) rfl rfl ?_
  refine aA (aQ 0 (.int _ _) aW M3 rfl rfl rfl) rfl rfl ?_
  refine aA (bC dJ Tryz.underlying2 rfl (eT _ (by omega) (by omega))) rfl rfl ?_
  refine aA (fC rfl rfl (by omega) (by omega)) rfl rfl ?_
  refine aA (aC (.int _ _) rfl) rfl rfl ?_
  refine aA (fP rfl rfl (by omega) (by omega)) rfl rfl ?_
  refine aA (aG 1 cJ rfl) rfl rfl ?_
  refine aA (aQ 2 (.int _ _) aW M3 rfl rfl rfl) rfl rfl ?_
  refine aA (bC dJ Tryz.underlying2 rfl (eT _ (by omega) (by omega))) rfl rfl ?_
  refine aA (aG 1 cJ rfl) rfl rfl ?_
  refine aA (aQ 0 (.int _ _) aW M3 rfl rfl rfl) rfl rfl ?_
  refine aA (bC dJ Tryz.underlying2 rfl (eT _ (by omega) (by omega))) rfl rfl ?_
  refine aA (fC rfl rfl (by omega) (by omega)) rfl rfl ?_
  refine aA (aC (.int _ _) rfl) rfl rfl ?_
  refine aA (fP rfl rfl (by omega) (by omega)) rfl rfl ?_
  refine aA (aZ rfl rfl (by omega) (by omega)) rfl rfl ?_
  refine aA (aD (.int _ _) rfl) rfl rfl ?_
  refine aE (aF (aH (aB ?_)))
  refine aA (aC (.int _ _) rfl) rfl rfl ?_
  refine aA (aR 0 bE M3 rfl rfl rfl) rfl rfl ?_
  refine aA (aR 1 bE M3 rfl rfl rfl) rfl rfl ?_
  refine aM aSp rfl rfl rfl ?_
  refine (sW _ p q h).mono ?_
  rintro _ w4 ⟨v4, rfl, ⟨rfl, hb4⟩⟩
  refine ⟨_, rfl, ?_⟩
  have M4 := M3.callB hb4
  refine aM aXz rfl rfl rfl ?_
  refine (aGc _ ((c.1 - p.1) * (q.1 - p.1) + (c.2 - p.2) * (q.2 - p.2)) 0 (jT p q) (by omega)).mono ?_
  rintro _ w5 ⟨v5, rfl, ⟨rfl, hb5⟩⟩
  refine ⟨_, rfl, ?_⟩
  have M5 := M4.callB hb5
  refine aA (aD (.int _ _) rfl) rfl rfl ?_
  refine aE (aF (aU ?_))
  refine cU (.int _ _) rfl ?_
  exact ⟨rfl, M5.below⟩
set_option maxHeartbeats 4000000 in
theorem kK (w : World) (p q c : Pt) (h : SgI p q) (hc : PtI c) :
    Calls Tryz.prog 182 #[(.agg (bV p).toArray), (.agg (bV q).toArray), (.agg (bV c).toArray)] w (fun ex w' => ∃ v, ex = .returned v ∧ (fun v w' => v = (.agg (bV (bR p q c)).toArray) ∧ Below w.heap.size w w') v w') := by
  have hD := kO h
  have hn := sD (c := c) h
  have hx := h.x
  have hy := h.y
  have hp := h.hp.i32
  have hq := h.hq.i32
  have hpx := hp.x
  have hpy := hp.y
  have hqx := hq.x
  have hqy := hq.y
  refine aL #[.cell 6 38] 60 Tryz.func182 rfl Tryz.results182 Tryz.ntmps182 rfl ?_
  have M0 := Mem.refl w
  refine aH (aB ?_)
  refine bM (.agg (List.toArray _)) M0 rfl rfl rfl (fun b1 w1 M1 => ?_)
  refine bM (.agg (List.toArray _)) M1 rfl rfl rfl (fun b2 w2 M2 => ?_)
  refine bM (.agg (List.toArray _)) M2 rfl rfl rfl (fun b3 w3 M3 => ?_)
  refine aV gE M3 rfl rfl (fun b4 w4 M4 => ?_)
  refine aE (aF (aH (aB ?_)))
  refine aA (aR 0 bE M4 rfl rfl rfl) rfl rfl ?_
  refine aA (aR 1 bE M4 rfl rfl rfl) rfl rfl ?_
  refine aM aSp rfl rfl rfl ?_
  refine (sW _ p q h).mono ?_
  rintro _ w5 ⟨v5, rfl, ⟨rfl, hb5⟩⟩
  refine ⟨_, rfl, ?_⟩
  have M5 := M4.callB hb5
  refine aA (aD (.int _ _) rfl) rfl rfl ?_
  refine aE (aF (aH (aH (aB ?_))))
  refine aA (aC (.int _ _) rfl) rfl rfl ?_
  refine aA (aN (.bool (decide _)) rfl rfl rfl) rfl rfl ?_
  refine aE (aF ?_)
  refine aX rfl (fun h17 => ?_) (fun h17 => ?_)
  · refine aH (aB ?_)
    refine aA (aR 0 bE M5 rfl rfl rfl) rfl rfl ?_
    refine bL 3 _ bE M5 rfl rfl rfl rfl rfl (bA rfl) rfl (fun w6 M6 => ?_)
    refine aE (aF (aU (dC ?_)))
    refine gM 3 bE M6 rfl rfl rfl ?_
    exact ⟨by unfold bR; first | (rw [if_pos h17]; rfl) | (rw [if_neg h17]; rfl), M6.below⟩
  · have hnr := yN (c := c) h h17
    refine aO (aF (aH (aB ?_)))
    refine aA (aR 0 bE M5 rfl rfl rfl) rfl rfl ?_
    refine aA (aR 1 bE M5 rfl rfl rfl) rfl rfl ?_
    refine aA (aR 2 bE M5 rfl rfl rfl) rfl rfl ?_
    refine aM aYb rfl rfl rfl ?_
    refine (aFx _ p q c h hc).mono ?_
    rintro _ w7 ⟨v7, rfl, ⟨rfl, hb7⟩⟩
    refine ⟨_, rfl, ?_⟩
    have M7 := M5.callB hb7
    refine aA (aD (.int _ _) rfl) rfl rfl ?_
    refine aE (aF (aH (aB ?_)))
    refine aA (aG 0 cN rfl) rfl rfl ?_
    refine aA (aQ 1 (.int _ _) aW M7 rfl rfl rfl) rfl rfl ?_
    refine aA (bC dJ Tryz.underlying2 rfl (eT _ (by omega) (by omega))) rfl rfl ?_
    refine aA (aG 0 cN rfl) rfl rfl ?_
    refine aA (aQ 0 (.int _ _) aW M7 rfl rfl rfl) rfl rfl ?_
    refine aA (bC dJ Tryz.underlying2 rfl (eT _ (by omega) (by omega))) rfl rfl ?_
    refine aA (fC rfl rfl (by omega) (by omega)) rfl rfl ?_
    refine aA (aC (.int _ _) rfl) rfl rfl ?_
    refine aA (aC (.int _ _) rfl) rfl rfl ?_
    refine aM aOo rfl rfl rfl ?_
    refine (sS _ (q.1 - p.1) (lS p q c) (jT p q) (by omega) hn.1 hn.2 (by omega) (by omega)).mono ?_
    rintro _ w8 ⟨v8, rfl, ⟨rfl, hb8⟩⟩
    refine ⟨_, rfl, ?_⟩
    have M8 := M7.callB hb8
    refine aA (aC (.tuple (List.toArray _)) rfl) rfl rfl ?_
    refine aA (bI (.int _ _) rfl rfl) rfl rfl ?_
    refine aA (bI (.int _ _) rfl rfl) rfl rfl ?_
    refine aA (aD (.int _ _) rfl) rfl rfl ?_
    refine aA (aD (.int _ _) rfl) rfl rfl ?_
    refine aE (aF (aH (aB ?_)))
    refine aA (aG 1 cJ rfl) rfl rfl ?_
    refine aA (aQ 1 (.int _ _) aW M8 rfl rfl rfl) rfl rfl ?_
    refine aA (bC dJ Tryz.underlying2 rfl (eT _ (by omega) (by omega))) rfl rfl ?_
    refine aA (aG 1 cJ rfl) rfl rfl ?_
    refine aA (aQ 0 (.int _ _) aW M8 rfl rfl rfl) rfl rfl ?_
    refine aA (bC dJ Tryz.underlying2 rfl (eT _ (by omega) (by omega))) rfl rfl ?_
    refine aA (fC rfl rfl (by omega) (by omega)) rfl rfl ?_
    refine aA (aC (.int _ _) rfl) rfl rfl ?_
    refine aA (aC (.int _ _) rfl) rfl rfl ?_
    refine aM aOo rfl rfl rfl ?_
    refine (sS _ (q.2 - p.2) (lS p q c) (jT p q) (by omega) hn.1 hn.2 (by omega) (by omega)).mono ?_
    rintro _ w9 ⟨v9, rfl, ⟨rfl, hb9⟩⟩
    refine ⟨_, rfl, ?_⟩
    have M9 := M8.callB hb9
    refine aA (aC (.tuple (List.toArray _)) rfl) rfl rfl ?_
    refine aA (bI (.int _ _) rfl rfl) rfl rfl ?_
    refine aA (bI (.int _ _) rfl rfl) rfl rfl ?_
    refine aA (aD (.int _ _) rfl) rfl rfl ?_
    refine aA (aD (.int _ _) rfl) rfl rfl ?_
    refine aE (aF (aH (aB ?_)))
    refine aA (aG 0 cN rfl) rfl rfl ?_
    refine aA (aQ 0 (.int _ _) aW M9 rfl rfl rfl) rfl rfl ?_
    refine aA (aC (.int _ _) rfl) rfl rfl ?_
    refine aA (bC lD Tryz.underlying21 rfl (iF _ (by omega) (by omega))) rfl rfl ?_
    refine aA (fZ rfl rfl (iF _ (by omega) (by omega))) rfl rfl ?_
    refine aA (aG 1 cJ rfl) rfl rfl ?_
    refine aA (aQ 0 (.int _ _) aW M9 rfl rfl rfl) rfl rfl ?_
    refine aA (aC (.int _ _) rfl) rfl rfl ?_
    refine aA (bC lD Tryz.underlying21 rfl (iF _ (by omega) (by omega))) rfl rfl ?_
    refine aA (fZ rfl rfl (iF _ (by omega) (by omega))) rfl rfl ?_
    refine aA (cL [(0, .int _ _), (1, .int _ _)] _ dW rfl rfl) rfl rfl ?_
    refine bL 3 _ bE M9 rfl rfl rfl rfl rfl (bA rfl) rfl (fun w10 M10 => ?_)
    refine aE (aF (aU ?_))
    refine gM 3 bE M10 rfl rfl rfl ?_
    exact ⟨by unfold bR; first | (rw [if_pos h17]; rfl) | (rw [if_neg h17]; rfl), M10.below⟩
set_option maxHeartbeats 4000000 in
theorem nR (w : World) (a b : Pt) (ha : PtI a) (hb : PtI b) :
    Calls Tryz.prog 113 #[(.agg (bV a ++ bV b).toArray)] w (fun ex w' => ∃ v, ex = .returned v ∧ (fun v w' => v = .int .u64 ((mI (b.1 - a.1) (b.2 - a.2) : Nat) : Int) ∧ Below w.heap.size w w') v w') := by
  have hai := ha.i32
  have hbi := hb.i32
  have hax := hai.x
  have hay := hai.y
  have hbx := hbi.x
  have hby := hbi.y
  refine aL #[.tmp 2] 22 Tryz.func113 rfl Tryz.results113 Tryz.ntmps113 rfl ?_
  have M0 := Mem.refl w
  refine aH (aB ?_)
  refine bM (.agg (List.toArray _)) M0 rfl rfl rfl (fun b1 w1 M1 => ?_)
  refine aA (aD (.int _ _) rfl) rfl rfl ?_
  refine aE (aF (aH (aB ?_)))
  refine aA (aG 2 rQ rfl) rfl rfl ?_
  refine aA (aG 0 cN rfl) rfl rfl ?_
  refine aA (aQ 0 (.int _ _) aW M1 rfl rfl rfl) rfl rfl ?_
  refine aA (bC dJ Tryz.underlying2 rfl (eT _ (by omega) (by omega))) rfl rfl ?_
  refine aA (aG 0 sV rfl) rfl rfl ?_
  refine aA (aG 0 cN rfl) rfl rfl ?_
  refine aA (aQ 0 (.int _ _) aW M1 rfl rfl rfl) rfl rfl ?_
  refine aA (bC dJ Tryz.underlying2 rfl (eT _ (by omega) (by omega))) rfl rfl ?_
  refine aA (fC rfl rfl (by omega) (by omega)) rfl rfl ?_
  refine aA (aG 2 rQ rfl) rfl rfl ?_
  refine aA (aG 1 cJ rfl) rfl rfl ?_
  refine aA (aQ 0 (.int _ _) aW M1 rfl rfl rfl) rfl rfl ?_
  refine aA (bC dJ Tryz.underlying2 rfl (eT _ (by omega) (by omega))) rfl rfl ?_
  refine aA (aG 0 sV rfl) rfl rfl ?_
  refine aA (aG 1 cJ rfl) rfl rfl ?_
  refine aA (aQ 0 (.int _ _) aW M1 rfl rfl rfl) rfl rfl ?_
  refine aA (bC dJ Tryz.underlying2 rfl (eT _ (by omega) (by omega))) rfl rfl ?_
  refine aA (fC rfl rfl (by omega) (by omega)) rfl rfl ?_
  refine aM aPf rfl rfl rfl ?_
  refine (oW _ (b.1 - a.1) (b.2 - a.2) (ha.inX hb) (ha.inY hb)).mono ?_
  rintro _ w2 ⟨v2, rfl, ⟨rfl, hb2⟩⟩
  refine ⟨_, rfl, ?_⟩
  have M2 := M1.callB hb2
  refine aA (aD (.int _ _) rfl) rfl rfl ?_
  refine aE (aF (aU ?_))
  refine cU (.int _ _) rfl ?_
  exact ⟨rfl, M2.below⟩
end Go.Proofs.YtlmcphcgiclanaaGreatDoor

namespace Go.Proofs.YtlmcphcgiclanaaGreatDoor
open Go.Bil
open Go.RowKit (Below)
open Go.Proofs
set_option maxHeartbeats 4000000 in
theorem vO (w : World) (s : Ch) (x y : Pt) (ba bb bl : Nat) (hx : PtI x) (hy : PtI y) (hO : Own [(some ba, bc (bV s.1) 38), (some bb, bc (bV s.2.1) 38), (some bl, bc [.int .u64 (s.2.2 : Int)] 170)] w) :
    Calls Tryz.prog 238 #[(.agg (bV x).toArray), (.agg (bV y).toArray), .pointer (some ⟨bl, 0, none⟩), .pointer (some ⟨ba, 0, none⟩), .pointer (some ⟨bb, 0, none⟩)] w (fun ex w' => ∃ v, ex = .returned v ∧ (fun v w' => v = .tuple #[] ∧ Mem w (cT [(some ba, bc (bV s.1) 38), (some bb, bc (bV s.2.1) 38), (some bl, bc [.int .u64 (s.2.2 : Int)] 170)]) [(some ba, bc (bV (eL s x y).1) 38), (some bb, bc (bV (eL s x y).2.1) 38), (some bl, bc [.int .u64 ((eL s x y).2.2 : Int)] 170)] w') v w') := by
  refine aL #[] 20 Tryz.func238 rfl Tryz.results238 Tryz.ntmps238 rfl ?_
  have M0 := hO.mem
  refine aH (aB ?_)
  refine bM (.agg (List.toArray _)) M0 rfl rfl rfl (fun b1 w1 M1 => ?_)
  refine bM (.agg (List.toArray _)) M1 rfl rfl rfl (fun b2 w2 M2 => ?_)
  refine aE (aF (aH (aB ?_)))
  refine aA (aR 3 bE M2 rfl rfl rfl) rfl rfl ?_
  refine aA (aR 4 bE M2 rfl rfl rfl) rfl rfl ?_
  refine aM xT rfl rfl rfl ?_
  refine (oU _ x y hx.i32 hy.i32).mono ?_
  rintro _ w3 ⟨v3, rfl, ⟨rfl, hb3⟩⟩
  refine ⟨_, rfl, ?_⟩
  have M3 := M2.callB hb3
  refine aA (bI (.int _ _) rfl rfl) rfl rfl ?_
  refine aA (bI (.int _ _) rfl rfl) rfl rfl ?_
  refine aM aHg rfl rfl rfl ?_
  refine (nQ _ (y.1 - x.1) (y.2 - x.2) (hx.inX hy) (hx.inY hy)).mono ?_
  rintro _ w4 ⟨v4, rfl, ⟨rfl, hb4⟩⟩
  refine ⟨_, rfl, ?_⟩
  have M4 := M3.callB hb4
  refine aA (aD (.int _ _) rfl) rfl rfl ?_
  refine aE (aF (aH (aB ?_)))
  refine aA (aC (.int _ _) rfl) rfl rfl ?_
  refine aA (aQ 2 (.int _ _) bZ M4 rfl rfl rfl) rfl rfl ?_
  refine aA (aN (.bool (decide _)) rfl rfl rfl) rfl rfl ?_
  refine aE (aF ?_)
  refine aX rfl (fun h16 => ?_) (fun h16 => ?_)
  · refine bY [(0, 1), (1, 1), (2, 0), (3, 2), (4, 2), (5, 2)] mixed rfl (by kernel_rfl) (fun w5 hb5 hh5 => ?_)
    have M5 := M4.drew hb5 hh5
    refine cB rfl rfl rfl (aR 3 bE M5 rfl rfl rfl) ?_
    refine cB rfl rfl rfl (aR 4 bE M5 rfl rfl rfl) ?_
    refine aP rfl rfl rfl (fun _ => aC (.int _ _) rfl) ?_
    refine eN [false, true] rfl (by kernel_rfl) ?_
    refine bL 0 _ bE M5 rfl rfl rfl rfl rfl (bA rfl) rfl (fun w6 M6 => ?_)
    refine aE (aF ⟨(fH (cF rfl (aR 4 bE M6 rfl rfl rfl)) eM), ?_⟩)
    refine eN [true] rfl (by kernel_rfl) ?_
    refine bL 1 _ bE M6 rfl rfl rfl rfl rfl (bA rfl) rfl (fun w7 M7 => ?_)
    refine aE (aF ⟨eM, ?_⟩)
    refine eN [] rfl (by kernel_rfl) ?_
    refine cY 2 (.int _ _) bZ M7 rfl rfl rfl rfl rfl rfl (fun w8 M8 => ?_)
    refine aE (aF ⟨eM, ?_⟩)
    refine cI ?_
    refine jQ ?_
    exact ⟨rfl, by unfold eL; first | (rw [if_pos (by omega)]; exact M8.keep [true, true, true, false, false]) | (rw [if_neg (by omega)]; exact M8.keep [true, true, true, false, false])⟩
  · refine aO ?_
    refine jQ ?_
    exact ⟨rfl, by unfold eL; first | (rw [if_pos (by omega)]; exact M4.keep [true, true, true, false, false]) | (rw [if_neg (by omega)]; exact M4.keep [true, true, true, false, false])⟩
set_option maxHeartbeats 8000000 in
theorem aGm (w : World) (ap aq bp bq : Pt) (h1 : SgI ap aq) (h2 : SgI bp bq) :
    Calls Tryz.prog 221 #[(.agg (bV ap).toArray), (.agg (bV aq).toArray), (.agg (bV bp).toArray), (.agg (bV bq).toArray)] w (fun ex w' => ∃ v, ex = .returned v ∧ (fun v w' => v = .tuple #[(.agg (bV (kE ap aq bp bq).1).toArray), (.agg (bV (kE ap aq bp bq).2.1).toArray), .int .u64 ((kE ap aq bp bq).2.2 : Int)] ∧ Below w.heap.size w w') v w') := by
  refine aL #[.cell 8 38, .cell 9 38, .cell 10 170] 48 Tryz.func221 rfl Tryz.results221 Tryz.ntmps221 rfl ?_
  have M0 := Mem.refl w
  refine aH (aB ?_)
  refine bM (.agg (List.toArray _)) M0 rfl rfl rfl (fun b1 w1 M1 => ?_)
  refine bM (.agg (List.toArray _)) M1 rfl rfl rfl (fun b2 w2 M2 => ?_)
  refine bM (.agg (List.toArray _)) M2 rfl rfl rfl (fun b3 w3 M3 => ?_)
  refine bM (.agg (List.toArray _)) M3 rfl rfl rfl (fun b4 w4 M4 => ?_)
  refine aV gE M4 rfl rfl (fun b5 w5 M5 => ?_)
  refine aV gE M5 rfl rfl (fun b6 w6 M6 => ?_)
  refine aV aUq M6 rfl rfl (fun b7 w7 M7 => ?_)
  refine aE (aF (aH (aB ?_)))
  refine cY 6 (.int _ _) bZ M7 rfl rfl rfl rfl rfl rfl (fun w8 M8 => ?_)
  refine aE (aF (aH (aB ?_)))
  obtain ⟨s, hS⟩ : ∃ z, z = ch0 := ⟨_, rfl⟩
  have hC : ChI s := by rw [hS]; exact aPx
  have M9 : Mem _ _ [_, _, _, _, (some b5, bc (bV ch0.1) 38), (some b6, bc (bV ch0.2.1) 38), (some b7, bc [.int .u64 (ch0.2.2 : Int)] 170)] _ := M8
  rw [← hS] at M9
  refine aA (eH [] [.pointer _, .pointer _, .pointer _] rfl rfl) rfl rfl ?_
  refine aA (aD (.func _ _ _) rfl) rfl rfl ?_
  refine aE (aF (aH (aH (aB ?_))))
  refine aA (aR 0 bE M9 rfl rfl rfl) rfl rfl ?_
  refine aA (aR 1 bE M9 rfl rfl rfl) rfl rfl ?_
  refine aA (wK [.agg (List.toArray _), .agg (List.toArray _)] tS aJh rfl rfl (cZ rfl)) rfl rfl ?_
  refine aA (aC (.int _ _) rfl) rfl rfl ?_
  refine aE (aF (aT ?_))
  refine gX 3 (fI ?_)
  refine aH (aB ?_)
  refine aA (aN (.bool (decide _)) rfl rfl rfl) rfl rfl ?_
  refine aK 21 (.bool true) (bT (by first | decide | omega)).symm ?_
  refine aE (aF (aH ?_))
  refine cM rfl ?_
  refine aO (aF (aH (aT (aH (aB ?_)))))
  refine aA (aCp 0 _ tS bE rfl rfl (by decide) (by decide) rfl rfl) rfl rfl ?_
  refine aV gE M9 rfl rfl (fun b10 w10 M10 => ?_)
  refine bL 7 _ bE M10 rfl rfl rfl rfl rfl (bA rfl) rfl (fun w11 M11 => ?_)
  refine aE (aF ?_)
  refine bY [(0, 0), (1, 1), (2, 1), (3, 1), (4, 1), (5, 2), (6, 2)] mixed rfl (by kernel_rfl) (fun w12 hb12 hh12 => ?_)
  have M12 := M11.drew hb12 hh12
  refine aP rfl rfl rfl (fun _ => aC (.func _ _ _) rfl) ?_
  refine cB rfl rfl rfl (aR 7 bE M12 rfl rfl rfl) ?_
  refine cB rfl rfl rfl (aR 2 bE M12 rfl rfl rfl) ?_
  refine cB rfl rfl rfl (aR 3 bE M12 rfl rfl rfl) ?_
  refine cB rfl rfl rfl (aR 7 bE M12 rfl rfl rfl) ?_
  refine eN [true, true, true, false] rfl (by kernel_rfl) ?_
  refine aM aCj rfl rfl rfl ?_
  refine (kL _ bp bq ap h2 h1.hp).mono ?_
  rintro _ w13 ⟨v13, rfl, ⟨rfl, hb13⟩⟩
  refine ⟨_, rfl, ?_⟩
  have M13 := M12.callB hb13
  refine aE (aF ⟨(fH (cF rfl (aR 7 bE M13 rfl rfl rfl)) eM), ?_⟩)
  refine eN [true] rfl (by kernel_rfl) ?_
  refine aM aDa rfl rfl rfl ?_
  refine (vO _ s ap (bR bp bq ap) _ _ _ h1.hp (dQ h2) (M13.ownSeg 4 3)).mono ?_
  rintro _ w14 ⟨v14, rfl, ⟨rfl, hM14⟩⟩
  refine ⟨_, rfl, ?_⟩
  have M14 : Mem _ _ [_, _, _, _, _, _, _, _] _ := M13.seg 4 3 hM14
  obtain ⟨s, hs⟩ : ∃ z, z = eL s ap (bR bp bq ap) := ⟨_, rfl⟩
  rw [← hs] at M14
  replace hC := hC.step (x := ap) (y := (bR bp bq ap)) h1.hp (dQ h2)
  rw [← hs] at hC
  replace hS := hs.trans (congrArg (fun z => eL z ap (bR bp bq ap)) hS)
  refine aE (aF ⟨eM, ?_⟩)
  refine cI ?_
  refine cS ?_
  refine aF (aB ?_)
  refine aA (aZ rfl rfl (by first | decide | omega) (by first | decide | omega)) rfl rfl ?_
  refine aK 30 (.int .i64 1) (iE (by first | decide | omega)) ?_
  refine aA (aC (.int _ _) rfl) rfl rfl ?_
  refine aE ?_
  refine aF (fI ?_)
  refine aH (aB ?_)
  refine aA (aN (.bool (decide _)) rfl rfl rfl) rfl rfl ?_
  refine aK 21 (.bool true) (bT (by first | decide | omega)).symm ?_
  refine aE (aF (aH ?_))
  refine cM rfl ?_
  refine aO (aF (aH (aT (aH (aB ?_)))))
  refine aA (aCp 1 _ tS bE rfl rfl (by decide) (by decide) rfl rfl) rfl rfl ?_
  refine aV gE M14 rfl rfl (fun b15 w15 M15 => ?_)
  refine bL 8 _ bE M15 rfl rfl rfl rfl rfl (bA rfl) rfl (fun w16 M16 => ?_)
  refine aE (aF ?_)
  refine bY [(0, 0), (1, 1), (2, 1), (3, 1), (4, 1), (5, 2), (6, 2)] mixed rfl (by kernel_rfl) (fun w17 hb17 hh17 => ?_)
  have M17 := M16.drew hb17 hh17
  refine aP rfl rfl rfl (fun _ => aC (.func _ _ _) rfl) ?_
  refine cB rfl rfl rfl (aR 8 bE M17 rfl rfl rfl) ?_
  refine cB rfl rfl rfl (aR 2 bE M17 rfl rfl rfl) ?_
  refine cB rfl rfl rfl (aR 3 bE M17 rfl rfl rfl) ?_
  refine cB rfl rfl rfl (aR 8 bE M17 rfl rfl rfl) ?_
  refine eN [true, true, true, false] rfl (by kernel_rfl) ?_
  refine aM aCj rfl rfl rfl ?_
  refine (kL _ bp bq aq h2 h1.hq).mono ?_
  rintro _ w18 ⟨v18, rfl, ⟨rfl, hb18⟩⟩
  refine ⟨_, rfl, ?_⟩
  have M18 := M17.callB hb18
  refine aE (aF ⟨(fH (cF rfl (aR 8 bE M18 rfl rfl rfl)) eM), ?_⟩)
  refine eN [true] rfl (by kernel_rfl) ?_
  refine aM aDa rfl rfl rfl ?_
  refine (vO _ s aq (bR bp bq aq) _ _ _ h1.hq (dQ h2) (M18.ownSeg 4 3)).mono ?_
  rintro _ w19 ⟨v19, rfl, ⟨rfl, hM19⟩⟩
  refine ⟨_, rfl, ?_⟩
  have M19 : Mem _ _ [_, _, _, _, _, _, _, _, _] _ := M18.seg 4 3 hM19
  obtain ⟨s, hs⟩ : ∃ z, z = eL s aq (bR bp bq aq) := ⟨_, rfl⟩
  rw [← hs] at M19
  replace hC := hC.step (x := aq) (y := (bR bp bq aq)) h1.hq (dQ h2)
  rw [← hs] at hC
  replace hS := hs.trans (congrArg (fun z => eL z aq (bR bp bq aq)) hS)
  refine aE (aF ⟨eM, ?_⟩)
  refine cI ?_
  refine cS ?_
  refine aF (aB ?_)
  refine aA (aZ rfl rfl (by first | decide | omega) (by first | decide | omega)) rfl rfl ?_
  refine aK 30 (.int .i64 2) (iE (by first | decide | omega)) ?_
  refine aA (aC (.int _ _) rfl) rfl rfl ?_
  refine aE ?_
  refine aF (fI ?_)
  refine aH (aB ?_)
  refine aA (aN (.bool (decide _)) rfl rfl rfl) rfl rfl ?_
  refine aK 21 (.bool false) (bF (by first | decide | omega)).symm ?_
  refine aE (aF (aH ?_))
  refine cP rfl ?_
  refine cQ ?_
  refine cX (cX ?_)
  refine eJ ?_
  refine aF (aH (aH (aB ?_)))
  refine aA (aR 2 bE M19 rfl rfl rfl) rfl rfl ?_
  refine aA (aR 3 bE M19 rfl rfl rfl) rfl rfl ?_
  refine aA (wK [.agg (List.toArray _), .agg (List.toArray _)] tS aJh rfl rfl (cZ rfl)) rfl rfl ?_
  refine aA (aC (.int _ _) rfl) rfl rfl ?_
  refine aE (aF (aT ?_))
  refine gX 3 (fI ?_)
  refine aH (aB ?_)
  refine aA (aN (.bool (decide _)) rfl rfl rfl) rfl rfl ?_
  refine aK 35 (.bool true) (bT (by first | decide | omega)).symm ?_
  refine aE (aF (aH ?_))
  refine cM rfl ?_
  refine aO (aF (aH (aT (aH (aB ?_)))))
  refine aA (aCp 0 _ tS bE rfl rfl (by decide) (by decide) rfl rfl) rfl rfl ?_
  refine aV gE M19 rfl rfl (fun b20 w20 M20 => ?_)
  refine bL 9 _ bE M20 rfl rfl rfl rfl rfl (bA rfl) rfl (fun w21 M21 => ?_)
  refine aE (aF ?_)
  refine bY [(0, 0), (1, 1), (2, 1), (3, 1), (5, 1), (4, 2), (6, 2)] mixed rfl (by kernel_rfl) (fun w22 hb22 hh22 => ?_)
  have M22 := M21.drew hb22 hh22
  refine aP rfl rfl rfl (fun _ => aC (.func _ _ _) rfl) ?_
  refine cB rfl rfl rfl (aR 0 bE M22 rfl rfl rfl) ?_
  refine cB rfl rfl rfl (aR 1 bE M22 rfl rfl rfl) ?_
  refine cB rfl rfl rfl (aR 9 bE M22 rfl rfl rfl) ?_
  refine cB rfl rfl rfl (aR 9 bE M22 rfl rfl rfl) ?_
  refine eN [false, true, true, true] rfl (by kernel_rfl) ?_
  refine aM aCj rfl rfl rfl ?_
  refine (kL _ ap aq bp h1 h2.hp).mono ?_
  rintro _ w23 ⟨v23, rfl, ⟨rfl, hb23⟩⟩
  refine ⟨_, rfl, ?_⟩
  have M23 := M22.callB hb23
  refine aE (aF ⟨(fH (cF rfl (aR 9 bE M23 rfl rfl rfl)) eM), ?_⟩)
  refine eN [true] rfl (by kernel_rfl) ?_
  refine aM aDa rfl rfl rfl ?_
  refine (vO _ s (bR ap aq bp) bp _ _ _ (dQ h1) h2.hp (M23.ownSeg 4 3)).mono ?_
  rintro _ w24 ⟨v24, rfl, ⟨rfl, hM24⟩⟩
  refine ⟨_, rfl, ?_⟩
  have M24 : Mem _ _ [_, _, _, _, _, _, _, _, _, _] _ := M23.seg 4 3 hM24
  obtain ⟨s, hs⟩ : ∃ z, z = eL s (bR ap aq bp) bp := ⟨_, rfl⟩
  rw [← hs] at M24
  replace hC := hC.step (x := (bR ap aq bp)) (y := bp) (dQ h1) h2.hp
  rw [← hs] at hC
  replace hS := hs.trans (congrArg (fun z => eL z (bR ap aq bp) bp) hS)
  refine aE (aF ⟨eM, ?_⟩)
  refine cI ?_
  refine cS ?_
  refine aF (aB ?_)
  refine aA (aZ rfl rfl (by first | decide | omega) (by first | decide | omega)) rfl rfl ?_
  refine aK 44 (.int .i64 1) (iE (by first | decide | omega)) ?_
  refine aA (aC (.int _ _) rfl) rfl rfl ?_
  refine aE ?_
  refine aF (fI ?_)
  refine aH (aB ?_)
  refine aA (aN (.bool (decide _)) rfl rfl rfl) rfl rfl ?_
  refine aK 35 (.bool true) (bT (by first | decide | omega)).symm ?_
  refine aE (aF (aH ?_))
  refine cM rfl ?_
  refine aO (aF (aH (aT (aH (aB ?_)))))
  refine aA (aCp 1 _ tS bE rfl rfl (by decide) (by decide) rfl rfl) rfl rfl ?_
  refine aV gE M24 rfl rfl (fun b25 w25 M25 => ?_)
  refine bL 10 _ bE M25 rfl rfl rfl rfl rfl (bA rfl) rfl (fun w26 M26 => ?_)
  refine aE (aF ?_)
  refine bY [(0, 0), (1, 1), (2, 1), (3, 1), (5, 1), (4, 2), (6, 2)] mixed rfl (by kernel_rfl) (fun w27 hb27 hh27 => ?_)
  have M27 := M26.drew hb27 hh27
  refine aP rfl rfl rfl (fun _ => aC (.func _ _ _) rfl) ?_
  refine cB rfl rfl rfl (aR 0 bE M27 rfl rfl rfl) ?_
  refine cB rfl rfl rfl (aR 1 bE M27 rfl rfl rfl) ?_
  refine cB rfl rfl rfl (aR 10 bE M27 rfl rfl rfl) ?_
  refine cB rfl rfl rfl (aR 10 bE M27 rfl rfl rfl) ?_
  refine eN [false, true, true, true] rfl (by kernel_rfl) ?_
  refine aM aCj rfl rfl rfl ?_
  refine (kL _ ap aq bq h1 h2.hq).mono ?_
  rintro _ w28 ⟨v28, rfl, ⟨rfl, hb28⟩⟩
  refine ⟨_, rfl, ?_⟩
  have M28 := M27.callB hb28
  refine aE (aF ⟨(fH (cF rfl (aR 10 bE M28 rfl rfl rfl)) eM), ?_⟩)
  refine eN [true] rfl (by kernel_rfl) ?_
  refine aM aDa rfl rfl rfl ?_
  refine (vO _ s (bR ap aq bq) bq _ _ _ (dQ h1) h2.hq (M28.ownSeg 4 3)).mono ?_
  rintro _ w29 ⟨v29, rfl, ⟨rfl, hM29⟩⟩
  refine ⟨_, rfl, ?_⟩
  have M29 : Mem _ _ [_, _, _, _, _, _, _, _, _, _, _] _ := M28.seg 4 3 hM29
  obtain ⟨s, hs⟩ : ∃ z, z = eL s (bR ap aq bq) bq := ⟨_, rfl⟩
  rw [← hs] at M29
  replace hC := hC.step (x := (bR ap aq bq)) (y := bq) (dQ h1) h2.hq
  rw [← hs] at hC
  replace hS := hs.trans (congrArg (fun z => eL z (bR ap aq bq) bq) hS)
  refine aE (aF ⟨eM, ?_⟩)
  refine cI ?_
  refine cS ?_
  refine aF (aB ?_)
  refine aA (aZ rfl rfl (by first | decide | omega) (by first | decide | omega)) rfl rfl ?_
  refine aK 44 (.int .i64 2) (iE (by first | decide | omega)) ?_
  refine aA (aC (.int _ _) rfl) rfl rfl ?_
  refine aE ?_
  refine aF (fI ?_)
  refine aH (aB ?_)
  refine aA (aN (.bool (decide _)) rfl rfl rfl) rfl rfl ?_
  refine aK 35 (.bool false) (bF (by first | decide | omega)).symm ?_
  refine aE (aF (aH ?_))
  refine cP rfl ?_
  refine cQ ?_
  refine cX (cX ?_)
  refine eJ ?_
  refine aF (aH ?_)
  refine bY [(0, 1), (1, 1), (2, 1), (3, 2), (4, 2), (5, 2)] mixed rfl (by kernel_rfl) (fun w30 hb30 hh30 => ?_)
  have M30 := M29.drew hb30 hh30
  refine cB rfl rfl rfl (aR 4 bE M30 rfl rfl rfl) ?_
  refine cB rfl rfl rfl (aR 5 bE M30 rfl rfl rfl) ?_
  refine cB rfl rfl rfl (aQ 6 (.int _ _) bZ M30 rfl rfl rfl) ?_
  refine eN [false, false, true] rfl (by kernel_rfl) ?_
  refine bL 4 _ bE M30 rfl rfl rfl rfl rfl (bA rfl) rfl (fun w31 M31 => ?_)
  refine aE (aF ⟨(fH (cF rfl (aQ 6 (.int _ _) bZ M31 rfl rfl rfl)) (fH (cF rfl (aR 5 bE M31 rfl rfl rfl)) eM)), ?_⟩)
  refine eN [false, true] rfl (by kernel_rfl) ?_
  refine bL 5 _ bE M31 rfl rfl rfl rfl rfl (bA rfl) rfl (fun w32 M32 => ?_)
  refine aE (aF ⟨(fH (cF rfl (aQ 6 (.int _ _) bZ M32 rfl rfl rfl)) eM), ?_⟩)
  refine eN [true] rfl (by kernel_rfl) ?_
  refine cY 6 (.int _ _) bZ M32 rfl rfl rfl rfl rfl rfl (fun w33 M33 => ?_)
  refine aE (aF ⟨eM, ?_⟩)
  refine cI ?_
  refine aF (aU ?_)
  refine aZz 4 5 6 bE bZ M33 rfl rfl rfl rfl rfl rfl rfl rfl ?_
  exact ⟨by rw [show s = kE ap aq bp bq from hS], M33.below⟩
set_option maxHeartbeats 4000000 in
theorem aGw (w : World) (ap aq bp bq : Pt) (h1 : SgI ap aq) (h2 : SgI bp bq) :
    Calls Tryz.prog 199 #[(.agg (bV ap).toArray), (.agg (bV aq).toArray), (.agg (bV bp).toArray), (.agg (bV bq).toArray)] w (fun ex w' => ∃ v, ex = .returned v ∧ (fun v w' => v = .tuple #[(.agg (bV (kE ap aq bp bq).1).toArray), (.agg (bV (kE ap aq bp bq).2.1).toArray)] ∧ Below w.heap.size w w') v w') := by
  refine aL #[.cell 8 38, .cell 9 38] 21 Tryz.func199 rfl Tryz.results199 Tryz.ntmps199 rfl ?_
  have M0 := Mem.refl w
  refine aH (aB ?_)
  refine bM (.agg (List.toArray _)) M0 rfl rfl rfl (fun b1 w1 M1 => ?_)
  refine bM (.agg (List.toArray _)) M1 rfl rfl rfl (fun b2 w2 M2 => ?_)
  refine bM (.agg (List.toArray _)) M2 rfl rfl rfl (fun b3 w3 M3 => ?_)
  refine bM (.agg (List.toArray _)) M3 rfl rfl rfl (fun b4 w4 M4 => ?_)
  refine aV gE M4 rfl rfl (fun b5 w5 M5 => ?_)
  refine aV gE M5 rfl rfl (fun b6 w6 M6 => ?_)
  refine aE (aF (aH (aB ?_)))
  refine aA (aR 0 bE M6 rfl rfl rfl) rfl rfl ?_
  refine aA (aR 1 bE M6 rfl rfl rfl) rfl rfl ?_
  refine aA (aR 2 bE M6 rfl rfl rfl) rfl rfl ?_
  refine aA (aR 3 bE M6 rfl rfl rfl) rfl rfl ?_
  refine aM aXh rfl rfl rfl ?_
  refine (aGm _ ap aq bp bq h1 h2).mono ?_
  rintro _ w7 ⟨v7, rfl, ⟨rfl, hb7⟩⟩
  refine ⟨_, rfl, ?_⟩
  have M7 := M6.callB hb7
  refine aA (aC (.tuple (List.toArray _)) rfl) rfl rfl ?_
  refine aA (bI (.agg (List.toArray _)) rfl rfl) rfl rfl ?_
  refine aA (bI (.agg (List.toArray _)) rfl rfl) rfl rfl ?_
  refine aA (bI (.int _ _) rfl rfl) rfl rfl ?_
  refine bL 4 _ bE M7 rfl rfl rfl rfl rfl (bA rfl) rfl (fun w8 M8 => ?_)
  refine bL 5 _ bE M8 rfl rfl rfl rfl rfl (bA rfl) rfl (fun w9 M9 => ?_)
  refine aE (aF (aH ?_))
  refine bY [(0, 1), (1, 1), (2, 2), (3, 2)] mixed rfl (by kernel_rfl) (fun w10 hb10 hh10 => ?_)
  have M10 := M9.drew hb10 hh10
  refine cB rfl rfl rfl (aR 4 bE M10 rfl rfl rfl) ?_
  refine cB rfl rfl rfl (aR 5 bE M10 rfl rfl rfl) ?_
  refine eN [false, true] rfl (by kernel_rfl) ?_
  refine bL 4 _ bE M10 rfl rfl rfl rfl rfl (bA rfl) rfl (fun w11 M11 => ?_)
  refine aE (aF ⟨(fH (cF rfl (aR 5 bE M11 rfl rfl rfl)) eM), ?_⟩)
  refine eN [true] rfl (by kernel_rfl) ?_
  refine bL 5 _ bE M11 rfl rfl rfl rfl rfl (bA rfl) rfl (fun w12 M12 => ?_)
  refine aE (aF ⟨eM, ?_⟩)
  refine cI ?_
  refine aF (aU ?_)
  refine aJk 4 5 bE M12 rfl rfl rfl rfl rfl rfl ?_
  exact ⟨rfl, M12.below⟩
end Go.Proofs.YtlmcphcgiclanaaGreatDoor
