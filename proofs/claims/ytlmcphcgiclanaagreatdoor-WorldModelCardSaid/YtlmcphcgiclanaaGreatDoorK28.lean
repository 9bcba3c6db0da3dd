/- Part of the proof of the laws of this seat: Z1, Z1b, Z1c, Z1d, W3, Z2, W4, Z3, Z4, W5. No conditions. -/
import Derived.Test.YtlmcphcgiclanaaGreatDoorK2
import Derived.Test.YtlmcphcgiclanaaGreatDoorK5
import Derived.Test.YtlmcphcgiclanaaGreatDoorK12
import Derived.Test.YtlmcphcgiclanaaGreatDoorK18
import Derived.Test.YtlmcphcgiclanaaGreatDoorK11
import Derived.Test.YtlmcphcgiclanaaGreatDoorK17
set_option linter.unusedVariables false
set_option linter.unusedSimpArgs false
set_option linter.unnecessarySimpa false
namespace Go.Proofs.YtlmcphcgiclanaaGreatDoor
open Go.Bil
open Go.RowKit (Below)
open Go.Proofs
set_option maxHeartbeats 8000000 in
theorem vJ (w : World) (a : Int) (h0 : -9223372036854775808 ≤ a) (h1 : a ≤ 9223372036854775807) :
  Calls Tryz.prog 228 #[.int .i64 a] w (fun ex w' => ∃ v, ex = .returned v ∧ (fun v w' => v = (.agg ((bLf a.natAbs).map kX).toArray) ∧ Below w.heap.size w w') v w') := by
 obtain ⟨m, hm⟩ : ∃ m, m = a.natAbs := ⟨_, rfl⟩
 refine aI #[.cell 2 291] 24 Tryz.func228 rfl Tryz.results228 Tryz.ntmps228 rfl ?_
 have M0 := Mem.refl w
 refine aE (aA (aV tM M0 rfl rfl (fun b1 w1 M1 => (aB (aC (aE (aA (aV tM M1 rfl rfl (fun b2 w2 M2 => (aB (aC (aE (aA (aO rfl rfl ?_))))))))))))))
 refine wq (dA lK Tryz.underlying170 rfl) rfl (bC rfl rfl (aB (aC (aE (aE (aA (aO rfl rfl (cX rfl rfl rfl rfl (aB (aC ?_))))))))))
 refine aS rfl (fun h9 => ?_) (fun h9 => ?_)
 ·refine aA (aO rfl rfl (wq (pN rfl) rfl (aK 11 (.int .u64 ((m : Nat) : Int)) (iE (by rw [fZ, fZ]; omega)) (bC rfl rfl (aB (aC (aE (aE (aA ?_)))))))))
  refine bC rfl rfl (aB (aC (aQ (iL 5 (fG (aE (aE (aA (aO rfl rfl (cX rfl rfl rfl rfl ?_))))))))))
  refine jB 13 rfl (by first | decide | omega) (aB (aC (cC rfl (aL (aC (aE (aQ (aE (aA (aO rfl rfl (aO rfl rfl ?_)))))))))))
  refine aK 17 (.int .u64 ((m : Nat) : Int)) (iE (by first | rfl | (rw [fZ]; omega) | (rw [fZ, fZ]; omega))) (wq (iM rfl rfl (by decide)) rfl (aK 18 (.int .u64 ((m % 65536 : Nat) : Int)) (iE (iZ (m) 65536)) (wq (aD 0 bS rfl) rfl (wq (bX (0) cW rfl rfl rfl (by decide)) rfl ?_))))
  refine cZ 1 (.int _ _) cN M2 rfl rfl rfl rfl rfl rfl (fun w3 M3 => (aB (aC (aA (aO rfl rfl (aK 21 (.int .u64 ((m : Nat) : Int)) (iE (by first | rfl | (rw [fZ]; omega) | (rw [fZ, fZ]; omega))) (wq (fY rfl rfl (by decide)) rfl (aK 22 (.int .u64 ((m / 65536 : Nat) : Int)) (iE (iJ (m) 65536 (by omega))) ?_))))))))
  refine bC rfl rfl (aB (cO (aC (aA (aO rfl rfl (wq (aY rfl rfl (by first | decide | omega) (by first | decide | omega)) rfl ?_))))))
  refine aK 15 (.int .i64 1) (iE (by first | decide | omega)) (bC rfl rfl (aB (aC (fG (dW (fr := [(2, .pointer _), (3, .pointer _), (4, .int _ _), (5, .int .i64 1)]) (bA rfl (bA rfl (bA rfl (bA rfl dX)))) (fun ρ4 => (aE (aE (aA ?_)))))))))
  refine aO rfl rfl (cX rfl rfl rfl rfl (jB 13 rfl (by first | decide | omega) (aB (aC (cC rfl (aL (aC (aE (aQ (aE (aA ?_)))))))))))
  refine aO rfl rfl (aO rfl rfl (aK 17 (.int .u64 ((m / 65536 : Nat) : Int)) (iE (by first | rfl | (rw [fZ]; omega) | (rw [fZ, fZ]; omega))) (wq (iM rfl rfl (by decide)) rfl (aK 18 (.int .u64 ((m / 65536 % 65536 : Nat) : Int)) (iE (iZ (m / 65536) 65536)) (wq (aD 0 bS rfl) rfl ?_)))))
  refine wq (bX (1) cW rfl rfl rfl (by decide)) rfl (cZ 1 (.int _ _) cN M3 rfl rfl rfl rfl rfl rfl (fun w5 M5 => (aB (aC (aA (aO rfl rfl (aK 21 (.int .u64 ((m / 65536 : Nat) : Int)) (iE (by first | rfl | (rw [fZ]; omega) | (rw [fZ, fZ]; omega))) (wq (fY rfl rfl (by decide)) rfl ?_))))))))
  refine aK 22 (.int .u64 ((m / 65536 / 65536 : Nat) : Int)) (iE (iJ (m / 65536) 65536 (by omega))) (bC rfl rfl (aB (cO (aC (aA (aO rfl rfl ?_))))))
  refine wq (aY rfl rfl (by first | decide | omega) (by first | decide | omega)) rfl (aK 15 (.int .i64 2) (iE (by first | decide | omega)) (bC rfl rfl (aB (aC (fG (dW (fr := [(2, .pointer _), (3, .pointer _), (4, .int _ _), (5, .int .i64 2)]) (bA rfl (bA rfl (bA rfl (bA rfl dX)))) (fun ρ6 => ?_)))))))
  refine aE (aE (aA (aO rfl rfl (cX rfl rfl rfl rfl (jB 13 rfl (by first | decide | omega) (aB (aC (cC rfl ?_))))))))
  refine aL (aC (aE (aQ (aE (aA (aO rfl rfl (aO rfl rfl (aK 17 (.int .u64 ((m / 65536 / 65536 : Nat) : Int)) (iE (by first | rfl | (rw [fZ]; omega) | (rw [fZ, fZ]; omega))) (wq (iM rfl rfl (by decide)) rfl (aK 18 (.int .u64 ((m / 65536 / 65536 % 65536 : Nat) : Int)) (iE (iZ (m / 65536 / 65536) 65536)) ?_))))))))))
  refine wq (aD 0 bS rfl) rfl (wq (bX (2) cW rfl rfl rfl (by decide)) rfl (cZ 1 (.int _ _) cN M5 rfl rfl rfl rfl rfl rfl (fun w7 M7 => (aB (aC (aA (aO rfl rfl (aK 21 (.int .u64 ((m / 65536 / 65536 : Nat) : Int)) (iE (by first | rfl | (rw [fZ]; omega) | (rw [fZ, fZ]; omega))) ?_))))))))
  refine wq (fY rfl rfl (by decide)) rfl (aK 22 (.int .u64 ((m / 65536 / 65536 / 65536 : Nat) : Int)) (iE (iJ (m / 65536 / 65536) 65536 (by omega))) (bC rfl rfl (aB (cO (aC (aA ?_))))))
  refine aO rfl rfl (wq (aY rfl rfl (by first | decide | omega) (by first | decide | omega)) rfl (aK 15 (.int .i64 3) (iE (by first | decide | omega)) (bC rfl rfl (aB (aC (fG ?_))))))
  refine dW (fr := [(2, .pointer _), (3, .pointer _), (4, .int _ _), (5, .int .i64 3)]) (bA rfl (bA rfl (bA rfl (bA rfl dX)))) (fun ρ8 => (aE (aE (aA (aO rfl rfl (cX rfl rfl rfl rfl (jB 13 rfl (by first | decide | omega) (aB (aC ?_)))))))))
  refine cC rfl (aL (aC (aE (aQ (aE (aA (aO rfl rfl (aO rfl rfl (aK 17 (.int .u64 ((m / 65536 / 65536 / 65536 : Nat) : Int)) (iE (by first | rfl | (rw [fZ]; omega) | (rw [fZ, fZ]; omega))) (wq (iM rfl rfl (by decide)) rfl ?_))))))))))
  refine aK 18 (.int .u64 ((m / 65536 / 65536 / 65536 % 65536 : Nat) : Int)) (iE (iZ (m / 65536 / 65536 / 65536) 65536)) (wq (aD 0 bS rfl) rfl (wq (bX (3) cW rfl rfl rfl (by decide)) rfl (cZ 1 (.int _ _) cN M7 rfl rfl rfl rfl rfl rfl (fun w9 M9 => (aB (aC (aA ?_)))))))
  refine aO rfl rfl (aK 21 (.int .u64 ((m / 65536 / 65536 / 65536 : Nat) : Int)) (iE (by first | rfl | (rw [fZ]; omega) | (rw [fZ, fZ]; omega))) (wq (fY rfl rfl (by decide)) rfl (aK 22 (.int .u64 ((m / 65536 / 65536 / 65536 / 65536 : Nat) : Int)) (iE (iJ (m / 65536 / 65536 / 65536) 65536 (by omega))) ?_)))
  refine bC rfl rfl (aB (cO (aC (aA (aO rfl rfl (wq (aY rfl rfl (by first | decide | omega) (by first | decide | omega)) rfl ?_))))))
  refine aK 15 (.int .i64 4) (iE (by first | decide | omega)) (bC rfl rfl (aB (aC (fG (dW (fr := [(2, .pointer _), (3, .pointer _), (4, .int _ _), (5, .int .i64 4)]) (bA rfl (bA rfl (bA rfl (bA rfl dX)))) (fun ρ10 => (aE (aE (aA ?_)))))))))
  refine aO rfl rfl (cX rfl rfl rfl rfl (pA 13 rfl (by first | decide | omega) (aB (aC (cM rfl (cV ?_))))))
  refine dD (dD (eO (aC (aE (aA (wq (aU 1 nA M9 rfl rfl rfl) rfl (bG 0 _ nA M9 rfl rfl rfl rfl rfl (aT rfl) rfl (fun w11 M11 => (aB (aC (aP ?_)))))))))))
  refine eX 0 nA M11 rfl rfl rfl ?_
  exact ⟨by rw [← hm]; rfl, M11.below⟩
 ·refine aL (aC (aE (aE (aA (bC rfl rfl (aB (aC (aQ (iL 5 (fG (aE (aE (aA (aO rfl rfl ?_))))))))))))))
  refine cX rfl rfl rfl rfl (jB 13 rfl (by first | decide | omega) (aB (aC (cC rfl (aL (aC (aE (aQ (aE (aA (aO rfl rfl ?_)))))))))))
  refine aO rfl rfl (aK 17 (.int .u64 ((m : Nat) : Int)) (iE (by first | rfl | (rw [fZ]; omega) | (rw [fZ, fZ]; omega))) (wq (iM rfl rfl (by decide)) rfl (aK 18 (.int .u64 ((m % 65536 : Nat) : Int)) (iE (iZ (m) 65536)) (wq (aD 0 bS rfl) rfl (wq (bX (0) cW rfl rfl rfl (by decide)) rfl ?_)))))
  refine cZ 1 (.int _ _) cN M2 rfl rfl rfl rfl rfl rfl (fun w12 M12 => (aB (aC (aA (aO rfl rfl (aK 21 (.int .u64 ((m : Nat) : Int)) (iE (by first | rfl | (rw [fZ]; omega) | (rw [fZ, fZ]; omega))) (wq (fY rfl rfl (by decide)) rfl (aK 22 (.int .u64 ((m / 65536 : Nat) : Int)) (iE (iJ (m) 65536 (by omega))) ?_))))))))
  refine bC rfl rfl (aB (cO (aC (aA (aO rfl rfl (wq (aY rfl rfl (by first | decide | omega) (by first | decide | omega)) rfl ?_))))))
  refine aK 15 (.int .i64 1) (iE (by first | decide | omega)) (bC rfl rfl (aB (aC (fG (dW (fr := [(2, .pointer _), (3, .pointer _), (4, .int _ _), (5, .int .i64 1)]) (bA rfl (bA rfl (bA rfl (bA rfl dX)))) (fun ρ13 => (aE (aE (aA ?_)))))))))
  refine aO rfl rfl (cX rfl rfl rfl rfl (jB 13 rfl (by first | decide | omega) (aB (aC (cC rfl (aL (aC (aE (aQ (aE (aA ?_)))))))))))
  refine aO rfl rfl (aO rfl rfl (aK 17 (.int .u64 ((m / 65536 : Nat) : Int)) (iE (by first | rfl | (rw [fZ]; omega) | (rw [fZ, fZ]; omega))) (wq (iM rfl rfl (by decide)) rfl (aK 18 (.int .u64 ((m / 65536 % 65536 : Nat) : Int)) (iE (iZ (m / 65536) 65536)) (wq (aD 0 bS rfl) rfl ?_)))))
  refine wq (bX (1) cW rfl rfl rfl (by decide)) rfl (cZ 1 (.int _ _) cN M12 rfl rfl rfl rfl rfl rfl (fun w14 M14 => (aB (aC (aA (aO rfl rfl (aK 21 (.int .u64 ((m / 65536 : Nat) : Int)) (iE (by first | rfl | (rw [fZ]; omega) | (rw [fZ, fZ]; omega))) (wq (fY rfl rfl (by decide)) rfl ?_))))))))
  refine aK 22 (.int .u64 ((m / 65536 / 65536 : Nat) : Int)) (iE (iJ (m / 65536) 65536 (by omega))) (bC rfl rfl (aB (cO (aC (aA (aO rfl rfl ?_))))))
  refine wq (aY rfl rfl (by first | decide | omega) (by first | decide | omega)) rfl (aK 15 (.int .i64 2) (iE (by first | decide | omega)) (bC rfl rfl (aB (aC (fG (dW (fr := [(2, .pointer _), (3, .pointer _), (4, .int _ _), (5, .int .i64 2)]) (bA rfl (bA rfl (bA rfl (bA rfl dX)))) (fun ρ15 => ?_)))))))
  refine aE (aE (aA (aO rfl rfl (cX rfl rfl rfl rfl (jB 13 rfl (by first | decide | omega) (aB (aC (cC rfl ?_))))))))
  refine aL (aC (aE (aQ (aE (aA (aO rfl rfl (aO rfl rfl (aK 17 (.int .u64 ((m / 65536 / 65536 : Nat) : Int)) (iE (by first | rfl | (rw [fZ]; omega) | (rw [fZ, fZ]; omega))) (wq (iM rfl rfl (by decide)) rfl (aK 18 (.int .u64 ((m / 65536 / 65536 % 65536 : Nat) : Int)) (iE (iZ (m / 65536 / 65536) 65536)) ?_))))))))))
  refine wq (aD 0 bS rfl) rfl (wq (bX (2) cW rfl rfl rfl (by decide)) rfl (cZ 1 (.int _ _) cN M14 rfl rfl rfl rfl rfl rfl (fun w16 M16 => (aB (aC (aA (aO rfl rfl (aK 21 (.int .u64 ((m / 65536 / 65536 : Nat) : Int)) (iE (by first | rfl | (rw [fZ]; omega) | (rw [fZ, fZ]; omega))) ?_))))))))
  refine wq (fY rfl rfl (by decide)) rfl (aK 22 (.int .u64 ((m / 65536 / 65536 / 65536 : Nat) : Int)) (iE (iJ (m / 65536 / 65536) 65536 (by omega))) (bC rfl rfl (aB (cO (aC (aA ?_))))))
  refine aO rfl rfl (wq (aY rfl rfl (by first | decide | omega) (by first | decide | omega)) rfl (aK 15 (.int .i64 3) (iE (by first | decide | omega)) (bC rfl rfl (aB (aC (fG ?_))))))
  refine dW (fr := [(2, .pointer _), (3, .pointer _), (4, .int _ _), (5, .int .i64 3)]) (bA rfl (bA rfl (bA rfl (bA rfl dX)))) (fun ρ17 => (aE (aE (aA (aO rfl rfl (cX rfl rfl rfl rfl (jB 13 rfl (by first | decide | omega) (aB (aC ?_)))))))))
  refine cC rfl (aL (aC (aE (aQ (aE (aA (aO rfl rfl (aO rfl rfl (aK 17 (.int .u64 ((m / 65536 / 65536 / 65536 : Nat) : Int)) (iE (by first | rfl | (rw [fZ]; omega) | (rw [fZ, fZ]; omega))) (wq (iM rfl rfl (by decide)) rfl ?_))))))))))
  refine aK 18 (.int .u64 ((m / 65536 / 65536 / 65536 % 65536 : Nat) : Int)) (iE (iZ (m / 65536 / 65536 / 65536) 65536)) (wq (aD 0 bS rfl) rfl (wq (bX (3) cW rfl rfl rfl (by decide)) rfl (cZ 1 (.int _ _) cN M16 rfl rfl rfl rfl rfl rfl (fun w18 M18 => (aB (aC (aA ?_)))))))
  refine aO rfl rfl (aK 21 (.int .u64 ((m / 65536 / 65536 / 65536 : Nat) : Int)) (iE (by first | rfl | (rw [fZ]; omega) | (rw [fZ, fZ]; omega))) (wq (fY rfl rfl (by decide)) rfl (aK 22 (.int .u64 ((m / 65536 / 65536 / 65536 / 65536 : Nat) : Int)) (iE (iJ (m / 65536 / 65536 / 65536) 65536 (by omega))) ?_)))
  refine bC rfl rfl (aB (cO (aC (aA (aO rfl rfl (wq (aY rfl rfl (by first | decide | omega) (by first | decide | omega)) rfl ?_))))))
  refine aK 15 (.int .i64 4) (iE (by first | decide | omega)) (bC rfl rfl (aB (aC (fG (dW (fr := [(2, .pointer _), (3, .pointer _), (4, .int _ _), (5, .int .i64 4)]) (bA rfl (bA rfl (bA rfl (bA rfl dX)))) (fun ρ19 => (aE (aE (aA ?_)))))))))
  refine aO rfl rfl (cX rfl rfl rfl rfl (pA 13 rfl (by first | decide | omega) (aB (aC (cM rfl (cV ?_))))))
  refine dD (dD (eO (aC (aE (aA (wq (aU 1 nA M18 rfl rfl rfl) rfl (bG 0 _ nA M18 rfl rfl rfl rfl rfl (aT rfl) rfl (fun w20 M20 => (aB (aC (aP ?_)))))))))))
  refine eX 0 nA M20 rfl rfl rfl ?_
  exact ⟨by rw [← hm]; rfl, M20.below⟩
set_option maxHeartbeats 64000000 in
set_option maxRecDepth 10000 in
theorem uB (w : World) (a b : Int) (ha0 : -9223372036854775808 ≤ a) (ha1 : a ≤ 9223372036854775807) (hb0 : -9223372036854775808 ≤ b) (hb1 : b ≤ 9223372036854775807) :
  Calls Tryz.prog 212 #[.int .i64 a, .int .i64 b] w (fun ex w' => ∃ v, ex = .returned v ∧ (fun v w' => ∃ D : List Nat, v = (.agg ((D).map kX).toArray) ∧ D.length = 8 ∧ (∀ x ∈ D, x < 65536) ∧ rW D = a.natAbs * b.natAbs ∧ Below w.heap.size w w') v w') := by
 obtain ⟨x0, x1, x2, x3, hx, hx0, hx1, hx2, hx3, hX⟩ := bFb (m := a.natAbs) (by omega)
 obtain ⟨y0, y1, y2, y3, hy, hy0, hy1, hy2, hy3, hY⟩ := bFb (m := b.natAbs) (by omega)
 refine aI #[.cell 4 291] 57 Tryz.func212 rfl Tryz.results212 Tryz.ntmps212 rfl ?_
 have M0 := Mem.refl w
 refine aE (aA (aV tM M0 rfl rfl (fun b1 w1 M1 => (aB (aC (aE (aA (aO rfl rfl (bZ aYv rfl rfl (vJ _ a ha0 ha1) ?_)))))))))
 rintro v2 w2 ⟨rfl, hb2⟩
 have M2 := M1.callB hb2
 refine aK 13 (.agg (List.map kX [x0, x1, x2, x3, 0, 0, 0, 0]).toArray) (congrArg (fun l => Value.agg (List.map kX l).toArray) hx) (aV tM M2 rfl rfl (fun b3 w3 M3 => (bG 1 _ nA M3 rfl rfl rfl rfl rfl (aT rfl) rfl (fun w4 M4 => (aB (aC (aE (aA (aO rfl rfl ?_)))))))))
 refine bZ aYv rfl rfl (vJ _ b hb0 hb1) ?_
 rintro v5 w5 ⟨rfl, hb5⟩
 have M5 := M4.callB hb5
 refine aK 15 (.agg (List.map kX [y0, y1, y2, y3, 0, 0, 0, 0]).toArray) (congrArg (fun l => Value.agg (List.map kX l).toArray) hy) (aV tM M5 rfl rfl (fun b6 w6 M6 => (bG 2 _ nA M6 rfl rfl rfl rfl rfl (aT rfl) rfl (fun w7 M7 => (aB (aC (aE (aA (aV tM M7 rfl rfl (fun b8 w8 M8 => ?_))))))))))
 refine aB (aC (aE (aE (aA (bC rfl rfl (aB (aC (aQ (iL 5 (fG (aE (aE (aA (aO rfl rfl ?_))))))))))))))
 refine cX rfl rfl rfl rfl (jB 17 rfl (by first | decide | omega) (aB (aC (cC rfl (aL (aC (aE (aQ (aE (aA (bC rfl rfl ?_)))))))))))
 refine aB (aC (aE (aE (aA (bC rfl rfl (aB (aC (aQ (iL 5 (fG (aE (aE (aA (aO rfl rfl ?_))))))))))))))
 refine cX rfl rfl rfl rfl (jB 21 rfl (by first | decide | omega) (aB (aC (cC rfl (aL (aC (aE (aQ (aE (bR [(0, 0), (1, 0), (2, 0), (3, 0), (4, 0), (5, 1), (6, 0), (7, 0), (8, 0), (9, 1), (10, 0), (11, 0), (12, 0), (13, 1), (14, 0), (15, 0), (16, 0), (17, 0), (18, 0)] mixed rfl (by kernel_rfl) (fun w9 hb9 hh9 => ?_)))))))))))
 have M9 := M8.drew hb9 hh9
 obtain ⟨t00, ht00, ba00, bb00, bc00, bd00, be00⟩ := fV (z := 0) (c := 0) (x := x0) (y := y0) (by decide) (by decide) hx0 hy0
 refine eF rfl rfl rfl (eF rfl rfl rfl (aX rfl rfl rfl (fun _ => aY rfl rfl (by first | decide | omega) (by first | decide | omega)) (aX rfl rfl rfl (fun _ => aD 0 bS rfl) (aX rfl rfl rfl (fun _ => bX (0) cW rfl rfl rfl (by decide)) (bV rfl rfl rfl (aM 3 (.int _ _) cN M9 rfl rfl rfl) ?_)))))
 refine eF rfl rfl rfl (aX rfl rfl rfl (fun _ => aD 0 bS rfl) (aX rfl rfl rfl (fun _ => bX (0) cW rfl rfl rfl (by decide)) (bV rfl rfl rfl (aM 1 (.int _ _) cN M9 rfl rfl rfl) (eF rfl rfl rfl (aX rfl rfl rfl (fun _ => aD 0 bS rfl) ?_)))))
 refine aX rfl rfl rfl (fun _ => bX (0) cW rfl rfl rfl (by decide)) (bV rfl rfl rfl (aM 2 (.int _ _) cN M9 rfl rfl rfl) (aX rfl rfl rfl (fun _ => cA (.int _ _) rfl rfl rfl) (dY 38 (.int .u64 ((x0 * y0 : Nat) : Int)) (iE (kL x0 y0 ba00)) (aX rfl rfl rfl (fun _ => cA (.int _ _) rfl rfl rfl) ?_))))
 refine dY 39 (.int .u64 ((0 + x0 * y0 : Nat) : Int)) (iE (kM (0) (x0 * y0) bb00)) (eF rfl rfl rfl (aX rfl rfl rfl (fun _ => cA (.int _ _) rfl rfl rfl) (dY 41 (.int .u64 (t00 : Int)) (iE ((kM (0 + x0 * y0) (0) bc00).trans (congrArg _ ht00.symm))) (lM rfl rfl rfl (bY ?_)))))
 refine aC (aE (aA (aO rfl rfl (aO rfl rfl (wq (aY rfl rfl (by first | decide | omega) (by first | decide | omega)) rfl (aK 44 (.int .i64 0) (iE (by first | decide | omega)) (aO rfl rfl ?_)))))))
 refine wq (iM rfl rfl (by decide)) rfl (aK 46 (.int .u64 ((t00 % 65536 : Nat) : Int)) (iE (iZ t00 65536)) (wq (aD 0 bS rfl) rfl (wq (bX (0) cW rfl rfl rfl (by decide)) rfl (cZ 3 (.int _ _) cN M9 rfl rfl rfl rfl rfl rfl (fun w10 M10 => (aB (aC (aA ?_))))))))
 refine aO rfl rfl (wq (fY rfl rfl (by decide)) rfl (aK 50 (.int .u64 ((t00 / 65536 : Nat) : Int)) (iE (iJ t00 65536 bd00)) (bC rfl rfl (aB (cO ?_)))))
 refine aC (aA (aO rfl rfl (wq (aY rfl rfl (by first | decide | omega) (by first | decide | omega)) rfl (aK 23 (.int .i64 1) (iE (by first | decide | omega)) (bC rfl rfl (aB ?_))))))
 refine aC (fG (dW (fr := [(4, .pointer _), (5, .pointer _), (6, .pointer _), (7, .pointer _), (8, .int .i64 0), (9, .int _ _), (10, .int .i64 1), (11, .int _ _), (16, .int .i64 0), (17, .bool true)]) (bA rfl (bA rfl (bA rfl (bA rfl (bA rfl (bA rfl (bA rfl (bA rfl (bA rfl (bA rfl dX)))))))))) (fun ρ11 => ?_)))
 have M12 : Mem _ _ [_, _, _, (some _, bc [.int .u64 ((t00 % 65536 : Nat) : Int), .int .u64 0, .int .u64 0, .int .u64 0, .int .u64 0, .int .u64 0, .int .u64 0, .int .u64 0] 291)] _ := M10
 refine aE (aE (aA (aO rfl rfl (cX rfl rfl rfl rfl (jB 21 rfl (by first | decide | omega) (aB (aC (cC rfl ?_))))))))
 refine aL (aC (aE (aQ (aE (bR [(0, 0), (1, 0), (2, 0), (3, 0), (4, 0), (5, 1), (6, 0), (7, 0), (8, 0), (9, 1), (10, 0), (11, 0), (12, 0), (13, 1), (14, 0), (15, 0), (16, 0), (17, 0), (18, 0)] mixed rfl (by kernel_rfl) (fun w13 hb13 hh13 => ?_))))))
 have M13 := M12.drew hb13 hh13
 obtain ⟨t01, ht01, ba01, bb01, bc01, bd01, be01⟩ := fV (z := 0) (c := t00 / 65536) (x := x0) (y := y1) (by decide) be00 hx0 hy1
 refine eF rfl rfl rfl (eF rfl rfl rfl (aX rfl rfl rfl (fun _ => aY rfl rfl (by first | decide | omega) (by first | decide | omega)) (aX rfl rfl rfl (fun _ => aD 0 bS rfl) (aX rfl rfl rfl (fun _ => bX (1) cW rfl rfl rfl (by decide)) (bV rfl rfl rfl (aM 3 (.int _ _) cN M13 rfl rfl rfl) ?_)))))
 refine eF rfl rfl rfl (aX rfl rfl rfl (fun _ => aD 0 bS rfl) (aX rfl rfl rfl (fun _ => bX (0) cW rfl rfl rfl (by decide)) (bV rfl rfl rfl (aM 1 (.int _ _) cN M13 rfl rfl rfl) (eF rfl rfl rfl (aX rfl rfl rfl (fun _ => aD 0 bS rfl) ?_)))))
 refine aX rfl rfl rfl (fun _ => bX (1) cW rfl rfl rfl (by decide)) (bV rfl rfl rfl (aM 2 (.int _ _) cN M13 rfl rfl rfl) (aX rfl rfl rfl (fun _ => cA (.int _ _) rfl rfl rfl) (dY 38 (.int .u64 ((x0 * y1 : Nat) : Int)) (iE (kL x0 y1 ba01)) (aX rfl rfl rfl (fun _ => cA (.int _ _) rfl rfl rfl) ?_))))
 refine dY 39 (.int .u64 ((0 + x0 * y1 : Nat) : Int)) (iE (kM (0) (x0 * y1) bb01)) (eF rfl rfl rfl (aX rfl rfl rfl (fun _ => cA (.int _ _) rfl rfl rfl) (dY 41 (.int .u64 (t01 : Int)) (iE ((kM (0 + x0 * y1) (t00 / 65536) bc01).trans (congrArg _ ht01.symm))) (lM rfl rfl rfl (bY ?_)))))
 refine aC (aE (aA (aO rfl rfl (aO rfl rfl (wq (aY rfl rfl (by first | decide | omega) (by first | decide | omega)) rfl (aK 44 (.int .i64 1) (iE (by first | decide | omega)) (aO rfl rfl ?_)))))))
 refine wq (iM rfl rfl (by decide)) rfl (aK 46 (.int .u64 ((t01 % 65536 : Nat) : Int)) (iE (iZ t01 65536)) (wq (aD 0 bS rfl) rfl (wq (bX (1) cW rfl rfl rfl (by decide)) rfl (cZ 3 (.int _ _) cN M13 rfl rfl rfl rfl rfl rfl (fun w14 M14 => (aB (aC (aA ?_))))))))
 refine aO rfl rfl (wq (fY rfl rfl (by decide)) rfl (aK 50 (.int .u64 ((t01 / 65536 : Nat) : Int)) (iE (iJ t01 65536 bd01)) (bC rfl rfl (aB (cO ?_)))))
 refine aC (aA (aO rfl rfl (wq (aY rfl rfl (by first | decide | omega) (by first | decide | omega)) rfl (aK 23 (.int .i64 2) (iE (by first | decide | omega)) (bC rfl rfl (aB ?_))))))
 refine aC (fG (dW (fr := [(4, .pointer _), (5, .pointer _), (6, .pointer _), (7, .pointer _), (8, .int .i64 0), (9, .int _ _), (10, .int .i64 2), (11, .int _ _), (16, .int .i64 0), (17, .bool true)]) (bA rfl (bA rfl (bA rfl (bA rfl (bA rfl (bA rfl (bA rfl (bA rfl (bA rfl (bA rfl dX)))))))))) (fun ρ15 => ?_)))
 have M16 : Mem _ _ [_, _, _, (some _, bc [.int .u64 ((t00 % 65536 : Nat) : Int), .int .u64 ((t01 % 65536 : Nat) : Int), .int .u64 0, .int .u64 0, .int .u64 0, .int .u64 0, .int .u64 0, .int .u64 0] 291)] _ := M14
 refine aE (aE (aA (aO rfl rfl (cX rfl rfl rfl rfl (jB 21 rfl (by first | decide | omega) (aB (aC (cC rfl ?_))))))))
 refine aL (aC (aE (aQ (aE (bR [(0, 0), (1, 0), (2, 0), (3, 0), (4, 0), (5, 1), (6, 0), (7, 0), (8, 0), (9, 1), (10, 0), (11, 0), (12, 0), (13, 1), (14, 0), (15, 0), (16, 0), (17, 0), (18, 0)] mixed rfl (by kernel_rfl) (fun w17 hb17 hh17 => ?_))))))
 have M17 := M16.drew hb17 hh17
 obtain ⟨t02, ht02, ba02, bb02, bc02, bd02, be02⟩ := fV (z := 0) (c := t01 / 65536) (x := x0) (y := y2) (by decide) be01 hx0 hy2
 refine eF rfl rfl rfl (eF rfl rfl rfl (aX rfl rfl rfl (fun _ => aY rfl rfl (by first | decide | omega) (by first | decide | omega)) (aX rfl rfl rfl (fun _ => aD 0 bS rfl) (aX rfl rfl rfl (fun _ => bX (2) cW rfl rfl rfl (by decide)) (bV rfl rfl rfl (aM 3 (.int _ _) cN M17 rfl rfl rfl) ?_)))))
 refine eF rfl rfl rfl (aX rfl rfl rfl (fun _ => aD 0 bS rfl) (aX rfl rfl rfl (fun _ => bX (0) cW rfl rfl rfl (by decide)) (bV rfl rfl rfl (aM 1 (.int _ _) cN M17 rfl rfl rfl) (eF rfl rfl rfl (aX rfl rfl rfl (fun _ => aD 0 bS rfl) ?_)))))
 refine aX rfl rfl rfl (fun _ => bX (2) cW rfl rfl rfl (by decide)) (bV rfl rfl rfl (aM 2 (.int _ _) cN M17 rfl rfl rfl) (aX rfl rfl rfl (fun _ => cA (.int _ _) rfl rfl rfl) (dY 38 (.int .u64 ((x0 * y2 : Nat) : Int)) (iE (kL x0 y2 ba02)) (aX rfl rfl rfl (fun _ => cA (.int _ _) rfl rfl rfl) ?_))))
 refine dY 39 (.int .u64 ((0 + x0 * y2 : Nat) : Int)) (iE (kM (0) (x0 * y2) bb02)) (eF rfl rfl rfl (aX rfl rfl rfl (fun _ => cA (.int _ _) rfl rfl rfl) (dY 41 (.int .u64 (t02 : Int)) (iE ((kM (0 + x0 * y2) (t01 / 65536) bc02).trans (congrArg _ ht02.symm))) (lM rfl rfl rfl (bY ?_)))))
 refine aC (aE (aA (aO rfl rfl (aO rfl rfl (wq (aY rfl rfl (by first | decide | omega) (by first | decide | omega)) rfl (aK 44 (.int .i64 2) (iE (by first | decide | omega)) (aO rfl rfl ?_)))))))
 refine wq (iM rfl rfl (by decide)) rfl (aK 46 (.int .u64 ((t02 % 65536 : Nat) : Int)) (iE (iZ t02 65536)) (wq (aD 0 bS rfl) rfl (wq (bX (2) cW rfl rfl rfl (by decide)) rfl (cZ 3 (.int _ _) cN M17 rfl rfl rfl rfl rfl rfl (fun w18 M18 => (aB (aC (aA ?_))))))))
 refine aO rfl rfl (wq (fY rfl rfl (by decide)) rfl (aK 50 (.int .u64 ((t02 / 65536 : Nat) : Int)) (iE (iJ t02 65536 bd02)) (bC rfl rfl (aB (cO ?_)))))
 refine aC (aA (aO rfl rfl (wq (aY rfl rfl (by first | decide | omega) (by first | decide | omega)) rfl (aK 23 (.int .i64 3) (iE (by first | decide | omega)) (bC rfl rfl (aB ?_))))))
 refine aC (fG (dW (fr := [(4, .pointer _), (5, .pointer _), (6, .pointer _), (7, .pointer _), (8, .int .i64 0), (9, .int _ _), (10, .int .i64 3), (11, .int _ _), (16, .int .i64 0), (17, .bool true)]) (bA rfl (bA rfl (bA rfl (bA rfl (bA rfl (bA rfl (bA rfl (bA rfl (bA rfl (bA rfl dX)))))))))) (fun ρ19 => ?_)))
 have M20 : Mem _ _ [_, _, _, (some _, bc [.int .u64 ((t00 % 65536 : Nat) : Int), .int .u64 ((t01 % 65536 : Nat) : Int), .int .u64 ((t02 % 65536 : Nat) : Int), .int .u64 0, .int .u64 0, .int .u64 0, .int .u64 0, .int .u64 0] 291)] _ := M18
 refine aE (aE (aA (aO rfl rfl (cX rfl rfl rfl rfl (jB 21 rfl (by first | decide | omega) (aB (aC (cC rfl ?_))))))))
 refine aL (aC (aE (aQ (aE (bR [(0, 0), (1, 0), (2, 0), (3, 0), (4, 0), (5, 1), (6, 0), (7, 0), (8, 0), (9, 1), (10, 0), (11, 0), (12, 0), (13, 1), (14, 0), (15, 0), (16, 0), (17, 0), (18, 0)] mixed rfl (by kernel_rfl) (fun w21 hb21 hh21 => ?_))))))
 have M21 := M20.drew hb21 hh21
 obtain ⟨t03, ht03, ba03, bb03, bc03, bd03, be03⟩ := fV (z := 0) (c := t02 / 65536) (x := x0) (y := y3) (by decide) be02 hx0 hy3
 refine eF rfl rfl rfl (eF rfl rfl rfl (aX rfl rfl rfl (fun _ => aY rfl rfl (by first | decide | omega) (by first | decide | omega)) (aX rfl rfl rfl (fun _ => aD 0 bS rfl) (aX rfl rfl rfl (fun _ => bX (3) cW rfl rfl rfl (by decide)) (bV rfl rfl rfl (aM 3 (.int _ _) cN M21 rfl rfl rfl) ?_)))))
 refine eF rfl rfl rfl (aX rfl rfl rfl (fun _ => aD 0 bS rfl) (aX rfl rfl rfl (fun _ => bX (0) cW rfl rfl rfl (by decide)) (bV rfl rfl rfl (aM 1 (.int _ _) cN M21 rfl rfl rfl) (eF rfl rfl rfl (aX rfl rfl rfl (fun _ => aD 0 bS rfl) ?_)))))
 refine aX rfl rfl rfl (fun _ => bX (3) cW rfl rfl rfl (by decide)) (bV rfl rfl rfl (aM 2 (.int _ _) cN M21 rfl rfl rfl) (aX rfl rfl rfl (fun _ => cA (.int _ _) rfl rfl rfl) (dY 38 (.int .u64 ((x0 * y3 : Nat) : Int)) (iE (kL x0 y3 ba03)) (aX rfl rfl rfl (fun _ => cA (.int _ _) rfl rfl rfl) ?_))))
 refine dY 39 (.int .u64 ((0 + x0 * y3 : Nat) : Int)) (iE (kM (0) (x0 * y3) bb03)) (eF rfl rfl rfl (aX rfl rfl rfl (fun _ => cA (.int _ _) rfl rfl rfl) (dY 41 (.int .u64 (t03 : Int)) (iE ((kM (0 + x0 * y3) (t02 / 65536) bc03).trans (congrArg _ ht03.symm))) (lM rfl rfl rfl (bY ?_)))))
 refine aC (aE (aA (aO rfl rfl (aO rfl rfl (wq (aY rfl rfl (by first | decide | omega) (by first | decide | omega)) rfl (aK 44 (.int .i64 3) (iE (by first | decide | omega)) (aO rfl rfl ?_)))))))
 refine wq (iM rfl rfl (by decide)) rfl (aK 46 (.int .u64 ((t03 % 65536 : Nat) : Int)) (iE (iZ t03 65536)) (wq (aD 0 bS rfl) rfl (wq (bX (3) cW rfl rfl rfl (by decide)) rfl (cZ 3 (.int _ _) cN M21 rfl rfl rfl rfl rfl rfl (fun w22 M22 => (aB (aC (aA ?_))))))))
 refine aO rfl rfl (wq (fY rfl rfl (by decide)) rfl (aK 50 (.int .u64 ((t03 / 65536 : Nat) : Int)) (iE (iJ t03 65536 bd03)) (bC rfl rfl (aB (cO ?_)))))
 refine aC (aA (aO rfl rfl (wq (aY rfl rfl (by first | decide | omega) (by first | decide | omega)) rfl (aK 23 (.int .i64 4) (iE (by first | decide | omega)) (bC rfl rfl (aB ?_))))))
 refine aC (fG (dW (fr := [(4, .pointer _), (5, .pointer _), (6, .pointer _), (7, .pointer _), (8, .int .i64 0), (9, .int _ _), (10, .int .i64 4), (11, .int _ _), (16, .int .i64 0), (17, .bool true)]) (bA rfl (bA rfl (bA rfl (bA rfl (bA rfl (bA rfl (bA rfl (bA rfl (bA rfl (bA rfl dX)))))))))) (fun ρ23 => ?_)))
 have M24 : Mem _ _ [_, _, _, (some _, bc [.int .u64 ((t00 % 65536 : Nat) : Int), .int .u64 ((t01 % 65536 : Nat) : Int), .int .u64 ((t02 % 65536 : Nat) : Int), .int .u64 ((t03 % 65536 : Nat) : Int), .int .u64 0, .int .u64 0, .int .u64 0, .int .u64 0] 291)] _ := M22
 refine aE (aE (aA (aO rfl rfl (cX rfl rfl rfl rfl (pA 21 rfl (by first | decide | omega) (aB (aC (cM rfl ?_))))))))
 refine cV (dD (dD (eO (aC (aA (aO rfl rfl (wq (aY rfl rfl (by first | decide | omega) (by first | decide | omega)) rfl ?_)))))))
 refine aK 52 (.int .i64 4) (iE (by first | decide | omega)) (aO rfl rfl (wq (aD 0 bS rfl) rfl (wq (bX (4) cW rfl rfl rfl (by decide)) rfl (cZ 3 (.int _ _) cN M24 rfl rfl rfl rfl rfl rfl (fun w25 M25 => (aB ?_))))))
 refine cO (aC (aA (aO rfl rfl (wq (aY rfl rfl (by first | decide | omega) (by first | decide | omega)) rfl (aK 19 (.int .i64 1) (iE (by first | decide | omega)) (bC rfl rfl ?_))))))
 refine aB (aC (fG (dW (fr := [(4, .pointer _), (5, .pointer _), (6, .pointer _), (7, .pointer _), (8, .int .i64 1), (9, .int _ _), (10, .int .i64 4), (11, .int _ _)]) (bA rfl (bA rfl (bA rfl (bA rfl (bA rfl (bA rfl (bA rfl (bA rfl dX)))))))) (fun ρ26 => ?_))))
 have M27 : Mem _ _ [_, _, _, (some _, bc [.int .u64 ((t00 % 65536 : Nat) : Int), .int .u64 ((t01 % 65536 : Nat) : Int), .int .u64 ((t02 % 65536 : Nat) : Int), .int .u64 ((t03 % 65536 : Nat) : Int), .int .u64 ((t03 / 65536 : Nat) : Int), .int .u64 0, .int .u64 0, .int .u64 0] 291)] _ := M25
 refine aE (aE (aA (aO rfl rfl (cX rfl rfl rfl rfl (jB 17 rfl (by first | decide | omega) (aB (aC (cC rfl ?_))))))))
 refine aL (aC (aE (aQ (aE (aA (bC rfl rfl (aB (aC (aE (aE (aA (bC rfl rfl (aB (aC (aQ (iL 5 (fG ?_)))))))))))))))))
 refine aE (aE (aA (aO rfl rfl (cX rfl rfl rfl rfl (jB 21 rfl (by first | decide | omega) (aB (aC (cC rfl ?_))))))))
 refine aL (aC (aE (aQ (aE (bR [(0, 0), (1, 0), (2, 0), (3, 0), (4, 0), (5, 1), (6, 0), (7, 0), (8, 0), (9, 1), (10, 0), (11, 0), (12, 0), (13, 1), (14, 0), (15, 0), (16, 0), (17, 0), (18, 0)] mixed rfl (by kernel_rfl) (fun w28 hb28 hh28 => ?_))))))
 have M28 := M27.drew hb28 hh28
 obtain ⟨t10, ht10, ba10, bb10, bc10, bd10, be10⟩ := fV (z := t01 % 65536) (c := 0) (x := x1) (y := y0) (Nat.mod_lt _ (by decide)) (by decide) hx1 hy0
 refine eF rfl rfl rfl (eF rfl rfl rfl (aX rfl rfl rfl (fun _ => aY rfl rfl (by first | decide | omega) (by first | decide | omega)) (aX rfl rfl rfl (fun _ => aD 0 bS rfl) (aX rfl rfl rfl (fun _ => bX (1) cW rfl rfl rfl (by decide)) (bV rfl rfl rfl (aM 3 (.int _ _) cN M28 rfl rfl rfl) ?_)))))
 refine eF rfl rfl rfl (aX rfl rfl rfl (fun _ => aD 0 bS rfl) (aX rfl rfl rfl (fun _ => bX (1) cW rfl rfl rfl (by decide)) (bV rfl rfl rfl (aM 1 (.int _ _) cN M28 rfl rfl rfl) (eF rfl rfl rfl (aX rfl rfl rfl (fun _ => aD 0 bS rfl) ?_)))))
 refine aX rfl rfl rfl (fun _ => bX (0) cW rfl rfl rfl (by decide)) (bV rfl rfl rfl (aM 2 (.int _ _) cN M28 rfl rfl rfl) (aX rfl rfl rfl (fun _ => cA (.int _ _) rfl rfl rfl) (dY 38 (.int .u64 ((x1 * y0 : Nat) : Int)) (iE (kL x1 y0 ba10)) (aX rfl rfl rfl (fun _ => cA (.int _ _) rfl rfl rfl) ?_))))
 refine dY 39 (.int .u64 ((t01 % 65536 + x1 * y0 : Nat) : Int)) (iE (kM (t01 % 65536) (x1 * y0) bb10)) (eF rfl rfl rfl (aX rfl rfl rfl (fun _ => cA (.int _ _) rfl rfl rfl) (dY 41 (.int .u64 (t10 : Int)) (iE ((kM (t01 % 65536 + x1 * y0) (0) bc10).trans (congrArg _ ht10.symm))) (lM rfl rfl rfl (bY ?_)))))
 refine aC (aE (aA (aO rfl rfl (aO rfl rfl (wq (aY rfl rfl (by first | decide | omega) (by first | decide | omega)) rfl (aK 44 (.int .i64 1) (iE (by first | decide | omega)) (aO rfl rfl ?_)))))))
 refine wq (iM rfl rfl (by decide)) rfl (aK 46 (.int .u64 ((t10 % 65536 : Nat) : Int)) (iE (iZ t10 65536)) (wq (aD 0 bS rfl) rfl (wq (bX (1) cW rfl rfl rfl (by decide)) rfl (cZ 3 (.int _ _) cN M28 rfl rfl rfl rfl rfl rfl (fun w29 M29 => (aB (aC (aA ?_))))))))
 refine aO rfl rfl (wq (fY rfl rfl (by decide)) rfl (aK 50 (.int .u64 ((t10 / 65536 : Nat) : Int)) (iE (iJ t10 65536 bd10)) (bC rfl rfl (aB (cO ?_)))))
 refine aC (aA (aO rfl rfl (wq (aY rfl rfl (by first | decide | omega) (by first | decide | omega)) rfl (aK 23 (.int .i64 1) (iE (by first | decide | omega)) (bC rfl rfl (aB ?_))))))
 refine aC (fG (dW (fr := [(4, .pointer _), (5, .pointer _), (6, .pointer _), (7, .pointer _), (8, .int .i64 1), (9, .int _ _), (10, .int .i64 1), (11, .int _ _), (16, .int .i64 1), (17, .bool true)]) (bA rfl (bA rfl (bA rfl (bA rfl (bA rfl (bA rfl (bA rfl (bA rfl (bA rfl (bA rfl dX)))))))))) (fun ρ30 => ?_)))
 have M31 : Mem _ _ [_, _, _, (some _, bc [.int .u64 ((t00 % 65536 : Nat) : Int), .int .u64 ((t10 % 65536 : Nat) : Int), .int .u64 ((t02 % 65536 : Nat) : Int), .int .u64 ((t03 % 65536 : Nat) : Int), .int .u64 ((t03 / 65536 : Nat) : Int), .int .u64 0, .int .u64 0, .int .u64 0] 291)] _ := M29
 refine aE (aE (aA (aO rfl rfl (cX rfl rfl rfl rfl (jB 21 rfl (by first | decide | omega) (aB (aC (cC rfl ?_))))))))
 refine aL (aC (aE (aQ (aE (bR [(0, 0), (1, 0), (2, 0), (3, 0), (4, 0), (5, 1), (6, 0), (7, 0), (8, 0), (9, 1), (10, 0), (11, 0), (12, 0), (13, 1), (14, 0), (15, 0), (16, 0), (17, 0), (18, 0)] mixed rfl (by kernel_rfl) (fun w32 hb32 hh32 => ?_))))))
 have M32 := M31.drew hb32 hh32
 obtain ⟨t11, ht11, ba11, bb11, bc11, bd11, be11⟩ := fV (z := t02 % 65536) (c := t10 / 65536) (x := x1) (y := y1) (Nat.mod_lt _ (by decide)) be10 hx1 hy1
 refine eF rfl rfl rfl (eF rfl rfl rfl (aX rfl rfl rfl (fun _ => aY rfl rfl (by first | decide | omega) (by first | decide | omega)) (aX rfl rfl rfl (fun _ => aD 0 bS rfl) (aX rfl rfl rfl (fun _ => bX (2) cW rfl rfl rfl (by decide)) (bV rfl rfl rfl (aM 3 (.int _ _) cN M32 rfl rfl rfl) ?_)))))
 refine eF rfl rfl rfl (aX rfl rfl rfl (fun _ => aD 0 bS rfl) (aX rfl rfl rfl (fun _ => bX (1) cW rfl rfl rfl (by decide)) (bV rfl rfl rfl (aM 1 (.int _ _) cN M32 rfl rfl rfl) (eF rfl rfl rfl (aX rfl rfl rfl (fun _ => aD 0 bS rfl) ?_)))))
 refine aX rfl rfl rfl (fun _ => bX (1) cW rfl rfl rfl (by decide)) (bV rfl rfl rfl (aM 2 (.int _ _) cN M32 rfl rfl rfl) (aX rfl rfl rfl (fun _ => cA (.int _ _) rfl rfl rfl) (dY 38 (.int .u64 ((x1 * y1 : Nat) : Int)) (iE (kL x1 y1 ba11)) (aX rfl rfl rfl (fun _ => cA (.int _ _) rfl rfl rfl) ?_))))
 refine dY 39 (.int .u64 ((t02 % 65536 + x1 * y1 : Nat) : Int)) (iE (kM (t02 % 65536) (x1 * y1) bb11)) (eF rfl rfl rfl (aX rfl rfl rfl (fun _ => cA (.int _ _) rfl rfl rfl) (dY 41 (.int .u64 (t11 : Int)) (iE ((kM (t02 % 65536 + x1 * y1) (t10 / 65536) bc11).trans (congrArg _ ht11.symm))) (lM rfl rfl rfl ?_))))
 refine bY (aC (aE (aA (aO rfl rfl (aO rfl rfl (wq (aY rfl rfl (by first | decide | omega) (by first | decide | omega)) rfl (aK 44 (.int .i64 2) (iE (by first | decide | omega)) ?_)))))))
 refine aO rfl rfl (wq (iM rfl rfl (by decide)) rfl (aK 46 (.int .u64 ((t11 % 65536 : Nat) : Int)) (iE (iZ t11 65536)) (wq (aD 0 bS rfl) rfl (wq (bX (2) cW rfl rfl rfl (by decide)) rfl (cZ 3 (.int _ _) cN M32 rfl rfl rfl rfl rfl rfl (fun w33 M33 => ?_))))))
 refine aB (aC (aA (aO rfl rfl (wq (fY rfl rfl (by decide)) rfl (aK 50 (.int .u64 ((t11 / 65536 : Nat) : Int)) (iE (iJ t11 65536 bd11)) (bC rfl rfl (aB ?_)))))))
 refine cO (aC (aA (aO rfl rfl (wq (aY rfl rfl (by first | decide | omega) (by first | decide | omega)) rfl (aK 23 (.int .i64 2) (iE (by first | decide | omega)) (bC rfl rfl ?_))))))
 refine aB (aC (fG (dW (fr := [(4, .pointer _), (5, .pointer _), (6, .pointer _), (7, .pointer _), (8, .int .i64 1), (9, .int _ _), (10, .int .i64 2), (11, .int _ _), (16, .int .i64 1), (17, .bool true)]) (bA rfl (bA rfl (bA rfl (bA rfl (bA rfl (bA rfl (bA rfl (bA rfl (bA rfl (bA rfl dX)))))))))) (fun ρ34 => ?_))))
 have M35 : Mem _ _ [_, _, _, (some _, bc [.int .u64 ((t00 % 65536 : Nat) : Int), .int .u64 ((t10 % 65536 : Nat) : Int), .int .u64 ((t11 % 65536 : Nat) : Int), .int .u64 ((t03 % 65536 : Nat) : Int), .int .u64 ((t03 / 65536 : Nat) : Int), .int .u64 0, .int .u64 0, .int .u64 0] 291)] _ := M33
 refine aE (aE (aA (aO rfl rfl (cX rfl rfl rfl rfl (jB 21 rfl (by first | decide | omega) (aB (aC (cC rfl ?_))))))))
 refine aL (aC (aE (aQ (aE (bR [(0, 0), (1, 0), (2, 0), (3, 0), (4, 0), (5, 1), (6, 0), (7, 0), (8, 0), (9, 1), (10, 0), (11, 0), (12, 0), (13, 1), (14, 0), (15, 0), (16, 0), (17, 0), (18, 0)] mixed rfl (by kernel_rfl) (fun w36 hb36 hh36 => ?_))))))
 have M36 := M35.drew hb36 hh36
 obtain ⟨t12, ht12, ba12, bb12, bc12, bd12, be12⟩ := fV (z := t03 % 65536) (c := t11 / 65536) (x := x1) (y := y2) (Nat.mod_lt _ (by decide)) be11 hx1 hy2
 refine eF rfl rfl rfl (eF rfl rfl rfl (aX rfl rfl rfl (fun _ => aY rfl rfl (by first | decide | omega) (by first | decide | omega)) (aX rfl rfl rfl (fun _ => aD 0 bS rfl) (aX rfl rfl rfl (fun _ => bX (3) cW rfl rfl rfl (by decide)) (bV rfl rfl rfl (aM 3 (.int _ _) cN M36 rfl rfl rfl) ?_)))))
 refine eF rfl rfl rfl (aX rfl rfl rfl (fun _ => aD 0 bS rfl) (aX rfl rfl rfl (fun _ => bX (1) cW rfl rfl rfl (by decide)) (bV rfl rfl rfl (aM 1 (.int _ _) cN M36 rfl rfl rfl) (eF rfl rfl rfl (aX rfl rfl rfl (fun _ => aD 0 bS rfl) ?_)))))
 refine aX rfl rfl rfl (fun _ => bX (2) cW rfl rfl rfl (by decide)) (bV rfl rfl rfl (aM 2 (.int _ _) cN M36 rfl rfl rfl) (aX rfl rfl rfl (fun _ => cA (.int _ _) rfl rfl rfl) (dY 38 (.int .u64 ((x1 * y2 : Nat) : Int)) (iE (kL x1 y2 ba12)) (aX rfl rfl rfl (fun _ => cA (.int _ _) rfl rfl rfl) ?_))))
 refine dY 39 (.int .u64 ((t03 % 65536 + x1 * y2 : Nat) : Int)) (iE (kM (t03 % 65536) (x1 * y2) bb12)) (eF rfl rfl rfl (aX rfl rfl rfl (fun _ => cA (.int _ _) rfl rfl rfl) (dY 41 (.int .u64 (t12 : Int)) (iE ((kM (t03 % 65536 + x1 * y2) (t11 / 65536) bc12).trans (congrArg _ ht12.symm))) (lM rfl rfl rfl ?_))))
 refine bY (aC (aE (aA (aO rfl rfl (aO rfl rfl (wq (aY rfl rfl (by first | decide | omega) (by first | decide | omega)) rfl (aK 44 (.int .i64 3) (iE (by first | decide | omega)) ?_)))))))
 refine aO rfl rfl (wq (iM rfl rfl (by decide)) rfl (aK 46 (.int .u64 ((t12 % 65536 : Nat) : Int)) (iE (iZ t12 65536)) (wq (aD 0 bS rfl) rfl (wq (bX (3) cW rfl rfl rfl (by decide)) rfl (cZ 3 (.int _ _) cN M36 rfl rfl rfl rfl rfl rfl (fun w37 M37 => ?_))))))
 refine aB (aC (aA (aO rfl rfl (wq (fY rfl rfl (by decide)) rfl (aK 50 (.int .u64 ((t12 / 65536 : Nat) : Int)) (iE (iJ t12 65536 bd12)) (bC rfl rfl (aB ?_)))))))
 refine cO (aC (aA (aO rfl rfl (wq (aY rfl rfl (by first | decide | omega) (by first | decide | omega)) rfl (aK 23 (.int .i64 3) (iE (by first | decide | omega)) (bC rfl rfl ?_))))))
 refine aB (aC (fG (dW (fr := [(4, .pointer _), (5, .pointer _), (6, .pointer _), (7, .pointer _), (8, .int .i64 1), (9, .int _ _), (10, .int .i64 3), (11, .int _ _), (16, .int .i64 1), (17, .bool true)]) (bA rfl (bA rfl (bA rfl (bA rfl (bA rfl (bA rfl (bA rfl (bA rfl (bA rfl (bA rfl dX)))))))))) (fun ρ38 => ?_))))
 have M39 : Mem _ _ [_, _, _, (some _, bc [.int .u64 ((t00 % 65536 : Nat) : Int), .int .u64 ((t10 % 65536 : Nat) : Int), .int .u64 ((t11 % 65536 : Nat) : Int), .int .u64 ((t12 % 65536 : Nat) : Int), .int .u64 ((t03 / 65536 : Nat) : Int), .int .u64 0, .int .u64 0, .int .u64 0] 291)] _ := M37
 refine aE (aE (aA (aO rfl rfl (cX rfl rfl rfl rfl (jB 21 rfl (by first | decide | omega) (aB (aC (cC rfl ?_))))))))
 refine aL (aC (aE (aQ (aE (bR [(0, 0), (1, 0), (2, 0), (3, 0), (4, 0), (5, 1), (6, 0), (7, 0), (8, 0), (9, 1), (10, 0), (11, 0), (12, 0), (13, 1), (14, 0), (15, 0), (16, 0), (17, 0), (18, 0)] mixed rfl (by kernel_rfl) (fun w40 hb40 hh40 => ?_))))))
 have M40 := M39.drew hb40 hh40
 obtain ⟨t13, ht13, ba13, bb13, bc13, bd13, be13⟩ := fV (z := t03 / 65536) (c := t12 / 65536) (x := x1) (y := y3) be03 be12 hx1 hy3
 refine eF rfl rfl rfl (eF rfl rfl rfl (aX rfl rfl rfl (fun _ => aY rfl rfl (by first | decide | omega) (by first | decide | omega)) (aX rfl rfl rfl (fun _ => aD 0 bS rfl) (aX rfl rfl rfl (fun _ => bX (4) cW rfl rfl rfl (by decide)) (bV rfl rfl rfl (aM 3 (.int _ _) cN M40 rfl rfl rfl) ?_)))))
 refine eF rfl rfl rfl (aX rfl rfl rfl (fun _ => aD 0 bS rfl) (aX rfl rfl rfl (fun _ => bX (1) cW rfl rfl rfl (by decide)) (bV rfl rfl rfl (aM 1 (.int _ _) cN M40 rfl rfl rfl) (eF rfl rfl rfl (aX rfl rfl rfl (fun _ => aD 0 bS rfl) ?_)))))
 refine aX rfl rfl rfl (fun _ => bX (3) cW rfl rfl rfl (by decide)) (bV rfl rfl rfl (aM 2 (.int _ _) cN M40 rfl rfl rfl) (aX rfl rfl rfl (fun _ => cA (.int _ _) rfl rfl rfl) (dY 38 (.int .u64 ((x1 * y3 : Nat) : Int)) (iE (kL x1 y3 ba13)) (aX rfl rfl rfl (fun _ => cA (.int _ _) rfl rfl rfl) ?_))))
 refine dY 39 (.int .u64 ((t03 / 65536 + x1 * y3 : Nat) : Int)) (iE (kM (t03 / 65536) (x1 * y3) bb13)) (eF rfl rfl rfl (aX rfl rfl rfl (fun _ => cA (.int _ _) rfl rfl rfl) (dY 41 (.int .u64 (t13 : Int)) (iE ((kM (t03 / 65536 + x1 * y3) (t12 / 65536) bc13).trans (congrArg _ ht13.symm))) (lM rfl rfl rfl ?_))))
 refine bY (aC (aE (aA (aO rfl rfl (aO rfl rfl (wq (aY rfl rfl (by first | decide | omega) (by first | decide | omega)) rfl (aK 44 (.int .i64 4) (iE (by first | decide | omega)) ?_)))))))
 refine aO rfl rfl (wq (iM rfl rfl (by decide)) rfl (aK 46 (.int .u64 ((t13 % 65536 : Nat) : Int)) (iE (iZ t13 65536)) (wq (aD 0 bS rfl) rfl (wq (bX (4) cW rfl rfl rfl (by decide)) rfl (cZ 3 (.int _ _) cN M40 rfl rfl rfl rfl rfl rfl (fun w41 M41 => ?_))))))
 refine aB (aC (aA (aO rfl rfl (wq (fY rfl rfl (by decide)) rfl (aK 50 (.int .u64 ((t13 / 65536 : Nat) : Int)) (iE (iJ t13 65536 bd13)) (bC rfl rfl (aB ?_)))))))
 refine cO (aC (aA (aO rfl rfl (wq (aY rfl rfl (by first | decide | omega) (by first | decide | omega)) rfl (aK 23 (.int .i64 4) (iE (by first | decide | omega)) (bC rfl rfl ?_))))))
 refine aB (aC (fG (dW (fr := [(4, .pointer _), (5, .pointer _), (6, .pointer _), (7, .pointer _), (8, .int .i64 1), (9, .int _ _), (10, .int .i64 4), (11, .int _ _), (16, .int .i64 1), (17, .bool true)]) (bA rfl (bA rfl (bA rfl (bA rfl (bA rfl (bA rfl (bA rfl (bA rfl (bA rfl (bA rfl dX)))))))))) (fun ρ42 => ?_))))
 have M43 : Mem _ _ [_, _, _, (some _, bc [.int .u64 ((t00 % 65536 : Nat) : Int), .int .u64 ((t10 % 65536 : Nat) : Int), .int .u64 ((t11 % 65536 : Nat) : Int), .int .u64 ((t12 % 65536 : Nat) : Int), .int .u64 ((t13 % 65536 : Nat) : Int), .int .u64 0, .int .u64 0, .int .u64 0] 291)] _ := M41
 refine aE (aE (aA (aO rfl rfl (cX rfl rfl rfl rfl (pA 21 rfl (by first | decide | omega) (aB (aC (cM rfl ?_))))))))
 refine cV (dD (dD (eO (aC (aA (aO rfl rfl (wq (aY rfl rfl (by first | decide | omega) (by first | decide | omega)) rfl ?_)))))))
 refine aK 52 (.int .i64 5) (iE (by first | decide | omega)) (aO rfl rfl (wq (aD 0 bS rfl) rfl (wq (bX (5) cW rfl rfl rfl (by decide)) rfl (cZ 3 (.int _ _) cN M43 rfl rfl rfl rfl rfl rfl (fun w44 M44 => (aB ?_))))))
 refine cO (aC (aA (aO rfl rfl (wq (aY rfl rfl (by first | decide | omega) (by first | decide | omega)) rfl (aK 19 (.int .i64 2) (iE (by first | decide | omega)) (bC rfl rfl ?_))))))
 refine aB (aC (fG (dW (fr := [(4, .pointer _), (5, .pointer _), (6, .pointer _), (7, .pointer _), (8, .int .i64 2), (9, .int _ _), (10, .int .i64 4), (11, .int _ _)]) (bA rfl (bA rfl (bA rfl (bA rfl (bA rfl (bA rfl (bA rfl (bA rfl dX)))))))) (fun ρ45 => ?_))))
 have M46 : Mem _ _ [_, _, _, (some _, bc [.int .u64 ((t00 % 65536 : Nat) : Int), .int .u64 ((t10 % 65536 : Nat) : Int), .int .u64 ((t11 % 65536 : Nat) : Int), .int .u64 ((t12 % 65536 : Nat) : Int), .int .u64 ((t13 % 65536 : Nat) : Int), .int .u64 ((t13 / 65536 : Nat) : Int), .int .u64 0, .int .u64 0] 291)] _ := M44
 refine aE (aE (aA (aO rfl rfl (cX rfl rfl rfl rfl (jB 17 rfl (by first | decide | omega) (aB (aC (cC rfl ?_))))))))
 refine aL (aC (aE (aQ (aE (aA (bC rfl rfl (aB (aC (aE (aE (aA (bC rfl rfl (aB (aC (aQ (iL 5 (fG ?_)))))))))))))))))
 refine aE (aE (aA (aO rfl rfl (cX rfl rfl rfl rfl (jB 21 rfl (by first | decide | omega) (aB (aC (cC rfl ?_))))))))
 refine aL (aC (aE (aQ (aE (bR [(0, 0), (1, 0), (2, 0), (3, 0), (4, 0), (5, 1), (6, 0), (7, 0), (8, 0), (9, 1), (10, 0), (11, 0), (12, 0), (13, 1), (14, 0), (15, 0), (16, 0), (17, 0), (18, 0)] mixed rfl (by kernel_rfl) (fun w47 hb47 hh47 => ?_))))))
 have M47 := M46.drew hb47 hh47
 obtain ⟨t20, ht20, ba20, bb20, bc20, bd20, be20⟩ := fV (z := t11 % 65536) (c := 0) (x := x2) (y := y0) (Nat.mod_lt _ (by decide)) (by decide) hx2 hy0
 refine eF rfl rfl rfl (eF rfl rfl rfl (aX rfl rfl rfl (fun _ => aY rfl rfl (by first | decide | omega) (by first | decide | omega)) (aX rfl rfl rfl (fun _ => aD 0 bS rfl) (aX rfl rfl rfl (fun _ => bX (2) cW rfl rfl rfl (by decide)) (bV rfl rfl rfl (aM 3 (.int _ _) cN M47 rfl rfl rfl) ?_)))))
 refine eF rfl rfl rfl (aX rfl rfl rfl (fun _ => aD 0 bS rfl) (aX rfl rfl rfl (fun _ => bX (2) cW rfl rfl rfl (by decide)) (bV rfl rfl rfl (aM 1 (.int _ _) cN M47 rfl rfl rfl) (eF rfl rfl rfl (aX rfl rfl rfl (fun _ => aD 0 bS rfl) ?_)))))
 refine aX rfl rfl rfl (fun _ => bX (0) cW rfl rfl rfl (by decide)) (bV rfl rfl rfl (aM 2 (.int _ _) cN M47 rfl rfl rfl) (aX rfl rfl rfl (fun _ => cA (.int _ _) rfl rfl rfl) (dY 38 (.int .u64 ((x2 * y0 : Nat) : Int)) (iE (kL x2 y0 ba20)) (aX rfl rfl rfl (fun _ => cA (.int _ _) rfl rfl rfl) ?_))))
 refine dY 39 (.int .u64 ((t11 % 65536 + x2 * y0 : Nat) : Int)) (iE (kM (t11 % 65536) (x2 * y0) bb20)) (eF rfl rfl rfl (aX rfl rfl rfl (fun _ => cA (.int _ _) rfl rfl rfl) (dY 41 (.int .u64 (t20 : Int)) (iE ((kM (t11 % 65536 + x2 * y0) (0) bc20).trans (congrArg _ ht20.symm))) (lM rfl rfl rfl (bY ?_)))))
 refine aC (aE (aA (aO rfl rfl (aO rfl rfl (wq (aY rfl rfl (by first | decide | omega) (by first | decide | omega)) rfl (aK 44 (.int .i64 2) (iE (by first | decide | omega)) (aO rfl rfl ?_)))))))
 refine wq (iM rfl rfl (by decide)) rfl (aK 46 (.int .u64 ((t20 % 65536 : Nat) : Int)) (iE (iZ t20 65536)) (wq (aD 0 bS rfl) rfl (wq (bX (2) cW rfl rfl rfl (by decide)) rfl (cZ 3 (.int _ _) cN M47 rfl rfl rfl rfl rfl rfl (fun w48 M48 => (aB (aC (aA ?_))))))))
 refine aO rfl rfl (wq (fY rfl rfl (by decide)) rfl (aK 50 (.int .u64 ((t20 / 65536 : Nat) : Int)) (iE (iJ t20 65536 bd20)) (bC rfl rfl (aB (cO ?_)))))
 refine aC (aA (aO rfl rfl (wq (aY rfl rfl (by first | decide | omega) (by first | decide | omega)) rfl (aK 23 (.int .i64 1) (iE (by first | decide | omega)) (bC rfl rfl (aB ?_))))))
 refine aC (fG (dW (fr := [(4, .pointer _), (5, .pointer _), (6, .pointer _), (7, .pointer _), (8, .int .i64 2), (9, .int _ _), (10, .int .i64 1), (11, .int _ _), (16, .int .i64 2), (17, .bool true)]) (bA rfl (bA rfl (bA rfl (bA rfl (bA rfl (bA rfl (bA rfl (bA rfl (bA rfl (bA rfl dX)))))))))) (fun ρ49 => ?_)))
 have M50 : Mem _ _ [_, _, _, (some _, bc [.int .u64 ((t00 % 65536 : Nat) : Int), .int .u64 ((t10 % 65536 : Nat) : Int), .int .u64 ((t20 % 65536 : Nat) : Int), .int .u64 ((t12 % 65536 : Nat) : Int), .int .u64 ((t13 % 65536 : Nat) : Int), .int .u64 ((t13 / 65536 : Nat) : Int), .int .u64 0, .int .u64 0] 291)] _ := M48
 refine aE (aE (aA (aO rfl rfl (cX rfl rfl rfl rfl (jB 21 rfl (by first | decide | omega) (aB (aC (cC rfl ?_))))))))
 refine aL (aC (aE (aQ (aE (bR [(0, 0), (1, 0), (2, 0), (3, 0), (4, 0), (5, 1), (6, 0), (7, 0), (8, 0), (9, 1), (10, 0), (11, 0), (12, 0), (13, 1), (14, 0), (15, 0), (16, 0), (17, 0), (18, 0)] mixed rfl (by kernel_rfl) (fun w51 hb51 hh51 => ?_))))))
 have M51 := M50.drew hb51 hh51
 obtain ⟨t21, ht21, ba21, bb21, bc21, bd21, be21⟩ := fV (z := t12 % 65536) (c := t20 / 65536) (x := x2) (y := y1) (Nat.mod_lt _ (by decide)) be20 hx2 hy1
 refine eF rfl rfl rfl (eF rfl rfl rfl (aX rfl rfl rfl (fun _ => aY rfl rfl (by first | decide | omega) (by first | decide | omega)) (aX rfl rfl rfl (fun _ => aD 0 bS rfl) (aX rfl rfl rfl (fun _ => bX (3) cW rfl rfl rfl (by decide)) (bV rfl rfl rfl (aM 3 (.int _ _) cN M51 rfl rfl rfl) ?_)))))
 refine eF rfl rfl rfl (aX rfl rfl rfl (fun _ => aD 0 bS rfl) (aX rfl rfl rfl (fun _ => bX (2) cW rfl rfl rfl (by decide)) (bV rfl rfl rfl (aM 1 (.int _ _) cN M51 rfl rfl rfl) (eF rfl rfl rfl (aX rfl rfl rfl (fun _ => aD 0 bS rfl) ?_)))))
 refine aX rfl rfl rfl (fun _ => bX (1) cW rfl rfl rfl (by decide)) (bV rfl rfl rfl (aM 2 (.int _ _) cN M51 rfl rfl rfl) (aX rfl rfl rfl (fun _ => cA (.int _ _) rfl rfl rfl) (dY 38 (.int .u64 ((x2 * y1 : Nat) : Int)) (iE (kL x2 y1 ba21)) (aX rfl rfl rfl (fun _ => cA (.int _ _) rfl rfl rfl) ?_))))
 refine dY 39 (.int .u64 ((t12 % 65536 + x2 * y1 : Nat) : Int)) (iE (kM (t12 % 65536) (x2 * y1) bb21)) (eF rfl rfl rfl (aX rfl rfl rfl (fun _ => cA (.int _ _) rfl rfl rfl) (dY 41 (.int .u64 (t21 : Int)) (iE ((kM (t12 % 65536 + x2 * y1) (t20 / 65536) bc21).trans (congrArg _ ht21.symm))) (lM rfl rfl rfl ?_))))
 refine bY (aC (aE (aA (aO rfl rfl (aO rfl rfl (wq (aY rfl rfl (by first | decide | omega) (by first | decide | omega)) rfl (aK 44 (.int .i64 3) (iE (by first | decide | omega)) ?_)))))))
 refine aO rfl rfl (wq (iM rfl rfl (by decide)) rfl (aK 46 (.int .u64 ((t21 % 65536 : Nat) : Int)) (iE (iZ t21 65536)) (wq (aD 0 bS rfl) rfl (wq (bX (3) cW rfl rfl rfl (by decide)) rfl (cZ 3 (.int _ _) cN M51 rfl rfl rfl rfl rfl rfl (fun w52 M52 => ?_))))))
 refine aB (aC (aA (aO rfl rfl (wq (fY rfl rfl (by decide)) rfl (aK 50 (.int .u64 ((t21 / 65536 : Nat) : Int)) (iE (iJ t21 65536 bd21)) (bC rfl rfl (aB ?_)))))))
 refine cO (aC (aA (aO rfl rfl (wq (aY rfl rfl (by first | decide | omega) (by first | decide | omega)) rfl (aK 23 (.int .i64 2) (iE (by first | decide | omega)) (bC rfl rfl ?_))))))
 refine aB (aC (fG (dW (fr := [(4, .pointer _), (5, .pointer _), (6, .pointer _), (7, .pointer _), (8, .int .i64 2), (9, .int _ _), (10, .int .i64 2), (11, .int _ _), (16, .int .i64 2), (17, .bool true)]) (bA rfl (bA rfl (bA rfl (bA rfl (bA rfl (bA rfl (bA rfl (bA rfl (bA rfl (bA rfl dX)))))))))) (fun ρ53 => ?_))))
 have M54 : Mem _ _ [_, _, _, (some _, bc [.int .u64 ((t00 % 65536 : Nat) : Int), .int .u64 ((t10 % 65536 : Nat) : Int), .int .u64 ((t20 % 65536 : Nat) : Int), .int .u64 ((t21 % 65536 : Nat) : Int), .int .u64 ((t13 % 65536 : Nat) : Int), .int .u64 ((t13 / 65536 : Nat) : Int), .int .u64 0, .int .u64 0] 291)] _ := M52
 refine aE (aE (aA (aO rfl rfl (cX rfl rfl rfl rfl (jB 21 rfl (by first | decide | omega) (aB (aC (cC rfl ?_))))))))
 refine aL (aC (aE (aQ (aE (bR [(0, 0), (1, 0), (2, 0), (3, 0), (4, 0), (5, 1), (6, 0), (7, 0), (8, 0), (9, 1), (10, 0), (11, 0), (12, 0), (13, 1), (14, 0), (15, 0), (16, 0), (17, 0), (18, 0)] mixed rfl (by kernel_rfl) (fun w55 hb55 hh55 => ?_))))))
 have M55 := M54.drew hb55 hh55
 obtain ⟨t22, ht22, ba22, bb22, bc22, bd22, be22⟩ := fV (z := t13 % 65536) (c := t21 / 65536) (x := x2) (y := y2) (Nat.mod_lt _ (by decide)) be21 hx2 hy2
 refine eF rfl rfl rfl (eF rfl rfl rfl (aX rfl rfl rfl (fun _ => aY rfl rfl (by first | decide | omega) (by first | decide | omega)) (aX rfl rfl rfl (fun _ => aD 0 bS rfl) (aX rfl rfl rfl (fun _ => bX (4) cW rfl rfl rfl (by decide)) (bV rfl rfl rfl (aM 3 (.int _ _) cN M55 rfl rfl rfl) ?_)))))
 refine eF rfl rfl rfl (aX rfl rfl rfl (fun _ => aD 0 bS rfl) (aX rfl rfl rfl (fun _ => bX (2) cW rfl rfl rfl (by decide)) (bV rfl rfl rfl (aM 1 (.int _ _) cN M55 rfl rfl rfl) (eF rfl rfl rfl (aX rfl rfl rfl (fun _ => aD 0 bS rfl) ?_)))))
 refine aX rfl rfl rfl (fun _ => bX (2) cW rfl rfl rfl (by decide)) (bV rfl rfl rfl (aM 2 (.int _ _) cN M55 rfl rfl rfl) (aX rfl rfl rfl (fun _ => cA (.int _ _) rfl rfl rfl) (dY 38 (.int .u64 ((x2 * y2 : Nat) : Int)) (iE (kL x2 y2 ba22)) (aX rfl rfl rfl (fun _ => cA (.int _ _) rfl rfl rfl) ?_))))
 refine dY 39 (.int .u64 ((t13 % 65536 + x2 * y2 : Nat) : Int)) (iE (kM (t13 % 65536) (x2 * y2) bb22)) (eF rfl rfl rfl (aX rfl rfl rfl (fun _ => cA (.int _ _) rfl rfl rfl) (dY 41 (.int .u64 (t22 : Int)) (iE ((kM (t13 % 65536 + x2 * y2) (t21 / 65536) bc22).trans (congrArg _ ht22.symm))) (lM rfl rfl rfl ?_))))
 refine bY (aC (aE (aA (aO rfl rfl (aO rfl rfl (wq (aY rfl rfl (by first | decide | omega) (by first | decide | omega)) rfl (aK 44 (.int .i64 4) (iE (by first | decide | omega)) ?_)))))))
 refine aO rfl rfl (wq (iM rfl rfl (by decide)) rfl (aK 46 (.int .u64 ((t22 % 65536 : Nat) : Int)) (iE (iZ t22 65536)) (wq (aD 0 bS rfl) rfl (wq (bX (4) cW rfl rfl rfl (by decide)) rfl (cZ 3 (.int _ _) cN M55 rfl rfl rfl rfl rfl rfl (fun w56 M56 => ?_))))))
 refine aB (aC (aA (aO rfl rfl (wq (fY rfl rfl (by decide)) rfl (aK 50 (.int .u64 ((t22 / 65536 : Nat) : Int)) (iE (iJ t22 65536 bd22)) (bC rfl rfl (aB ?_)))))))
 refine cO (aC (aA (aO rfl rfl (wq (aY rfl rfl (by first | decide | omega) (by first | decide | omega)) rfl (aK 23 (.int .i64 3) (iE (by first | decide | omega)) (bC rfl rfl ?_))))))
 refine aB (aC (fG (dW (fr := [(4, .pointer _), (5, .pointer _), (6, .pointer _), (7, .pointer _), (8, .int .i64 2), (9, .int _ _), (10, .int .i64 3), (11, .int _ _), (16, .int .i64 2), (17, .bool true)]) (bA rfl (bA rfl (bA rfl (bA rfl (bA rfl (bA rfl (bA rfl (bA rfl (bA rfl (bA rfl dX)))))))))) (fun ρ57 => ?_))))
 have M58 : Mem _ _ [_, _, _, (some _, bc [.int .u64 ((t00 % 65536 : Nat) : Int), .int .u64 ((t10 % 65536 : Nat) : Int), .int .u64 ((t20 % 65536 : Nat) : Int), .int .u64 ((t21 % 65536 : Nat) : Int), .int .u64 ((t22 % 65536 : Nat) : Int), .int .u64 ((t13 / 65536 : Nat) : Int), .int .u64 0, .int .u64 0] 291)] _ := M56
 refine aE (aE (aA (aO rfl rfl (cX rfl rfl rfl rfl (jB 21 rfl (by first | decide | omega) (aB (aC (cC rfl ?_))))))))
 refine aL (aC (aE (aQ (aE (bR [(0, 0), (1, 0), (2, 0), (3, 0), (4, 0), (5, 1), (6, 0), (7, 0), (8, 0), (9, 1), (10, 0), (11, 0), (12, 0), (13, 1), (14, 0), (15, 0), (16, 0), (17, 0), (18, 0)] mixed rfl (by kernel_rfl) (fun w59 hb59 hh59 => ?_))))))
 have M59 := M58.drew hb59 hh59
 obtain ⟨t23, ht23, ba23, bb23, bc23, bd23, be23⟩ := fV (z := t13 / 65536) (c := t22 / 65536) (x := x2) (y := y3) be13 be22 hx2 hy3
 refine eF rfl rfl rfl (eF rfl rfl rfl (aX rfl rfl rfl (fun _ => aY rfl rfl (by first | decide | omega) (by first | decide | omega)) (aX rfl rfl rfl (fun _ => aD 0 bS rfl) (aX rfl rfl rfl (fun _ => bX (5) cW rfl rfl rfl (by decide)) (bV rfl rfl rfl (aM 3 (.int _ _) cN M59 rfl rfl rfl) ?_)))))
 refine eF rfl rfl rfl (aX rfl rfl rfl (fun _ => aD 0 bS rfl) (aX rfl rfl rfl (fun _ => bX (2) cW rfl rfl rfl (by decide)) (bV rfl rfl rfl (aM 1 (.int _ _) cN M59 rfl rfl rfl) (eF rfl rfl rfl (aX rfl rfl rfl (fun _ => aD 0 bS rfl) ?_)))))
 refine aX rfl rfl rfl (fun _ => bX (3) cW rfl rfl rfl (by decide)) (bV rfl rfl rfl (aM 2 (.int _ _) cN M59 rfl rfl rfl) (aX rfl rfl rfl (fun _ => cA (.int _ _) rfl rfl rfl) (dY 38 (.int .u64 ((x2 * y3 : Nat) : Int)) (iE (kL x2 y3 ba23)) (aX rfl rfl rfl (fun _ => cA (.int _ _) rfl rfl rfl) ?_))))
 refine dY 39 (.int .u64 ((t13 / 65536 + x2 * y3 : Nat) : Int)) (iE (kM (t13 / 65536) (x2 * y3) bb23)) (eF rfl rfl rfl (aX rfl rfl rfl (fun _ => cA (.int _ _) rfl rfl rfl) (dY 41 (.int .u64 (t23 : Int)) (iE ((kM (t13 / 65536 + x2 * y3) (t22 / 65536) bc23).trans (congrArg _ ht23.symm))) (lM rfl rfl rfl ?_))))
 refine bY (aC (aE (aA (aO rfl rfl (aO rfl rfl (wq (aY rfl rfl (by first | decide | omega) (by first | decide | omega)) rfl (aK 44 (.int .i64 5) (iE (by first | decide | omega)) ?_)))))))
 refine aO rfl rfl (wq (iM rfl rfl (by decide)) rfl (aK 46 (.int .u64 ((t23 % 65536 : Nat) : Int)) (iE (iZ t23 65536)) (wq (aD 0 bS rfl) rfl (wq (bX (5) cW rfl rfl rfl (by decide)) rfl (cZ 3 (.int _ _) cN M59 rfl rfl rfl rfl rfl rfl (fun w60 M60 => ?_))))))
 refine aB (aC (aA (aO rfl rfl (wq (fY rfl rfl (by decide)) rfl (aK 50 (.int .u64 ((t23 / 65536 : Nat) : Int)) (iE (iJ t23 65536 bd23)) (bC rfl rfl (aB ?_)))))))
 refine cO (aC (aA (aO rfl rfl (wq (aY rfl rfl (by first | decide | omega) (by first | decide | omega)) rfl (aK 23 (.int .i64 4) (iE (by first | decide | omega)) (bC rfl rfl ?_))))))
 refine aB (aC (fG (dW (fr := [(4, .pointer _), (5, .pointer _), (6, .pointer _), (7, .pointer _), (8, .int .i64 2), (9, .int _ _), (10, .int .i64 4), (11, .int _ _), (16, .int .i64 2), (17, .bool true)]) (bA rfl (bA rfl (bA rfl (bA rfl (bA rfl (bA rfl (bA rfl (bA rfl (bA rfl (bA rfl dX)))))))))) (fun ρ61 => ?_))))
 have M62 : Mem _ _ [_, _, _, (some _, bc [.int .u64 ((t00 % 65536 : Nat) : Int), .int .u64 ((t10 % 65536 : Nat) : Int), .int .u64 ((t20 % 65536 : Nat) : Int), .int .u64 ((t21 % 65536 : Nat) : Int), .int .u64 ((t22 % 65536 : Nat) : Int), .int .u64 ((t23 % 65536 : Nat) : Int), .int .u64 0, .int .u64 0] 291)] _ := M60
 refine aE (aE (aA (aO rfl rfl (cX rfl rfl rfl rfl (pA 21 rfl (by first | decide | omega) (aB (aC (cM rfl ?_))))))))
 refine cV (dD (dD (eO (aC (aA (aO rfl rfl (wq (aY rfl rfl (by first | decide | omega) (by first | decide | omega)) rfl ?_)))))))
 refine aK 52 (.int .i64 6) (iE (by first | decide | omega)) (aO rfl rfl (wq (aD 0 bS rfl) rfl (wq (bX (6) cW rfl rfl rfl (by decide)) rfl (cZ 3 (.int _ _) cN M62 rfl rfl rfl rfl rfl rfl (fun w63 M63 => (aB ?_))))))
 refine cO (aC (aA (aO rfl rfl (wq (aY rfl rfl (by first | decide | omega) (by first | decide | omega)) rfl (aK 19 (.int .i64 3) (iE (by first | decide | omega)) (bC rfl rfl ?_))))))
 refine aB (aC (fG (dW (fr := [(4, .pointer _), (5, .pointer _), (6, .pointer _), (7, .pointer _), (8, .int .i64 3), (9, .int _ _), (10, .int .i64 4), (11, .int _ _)]) (bA rfl (bA rfl (bA rfl (bA rfl (bA rfl (bA rfl (bA rfl (bA rfl dX)))))))) (fun ρ64 => ?_))))
 have M65 : Mem _ _ [_, _, _, (some _, bc [.int .u64 ((t00 % 65536 : Nat) : Int), .int .u64 ((t10 % 65536 : Nat) : Int), .int .u64 ((t20 % 65536 : Nat) : Int), .int .u64 ((t21 % 65536 : Nat) : Int), .int .u64 ((t22 % 65536 : Nat) : Int), .int .u64 ((t23 % 65536 : Nat) : Int), .int .u64 ((t23 / 65536 : Nat) : Int), .int .u64 0] 291)] _ := M63
 refine aE (aE (aA (aO rfl rfl (cX rfl rfl rfl rfl (jB 17 rfl (by first | decide | omega) (aB (aC (cC rfl ?_))))))))
 refine aL (aC (aE (aQ (aE (aA (bC rfl rfl (aB (aC (aE (aE (aA (bC rfl rfl (aB (aC (aQ (iL 5 (fG ?_)))))))))))))))))
 refine aE (aE (aA (aO rfl rfl (cX rfl rfl rfl rfl (jB 21 rfl (by first | decide | omega) (aB (aC (cC rfl ?_))))))))
 refine aL (aC (aE (aQ (aE (bR [(0, 0), (1, 0), (2, 0), (3, 0), (4, 0), (5, 1), (6, 0), (7, 0), (8, 0), (9, 1), (10, 0), (11, 0), (12, 0), (13, 1), (14, 0), (15, 0), (16, 0), (17, 0), (18, 0)] mixed rfl (by kernel_rfl) (fun w66 hb66 hh66 => ?_))))))
 have M66 := M65.drew hb66 hh66
 obtain ⟨t30, ht30, ba30, bb30, bc30, bd30, be30⟩ := fV (z := t21 % 65536) (c := 0) (x := x3) (y := y0) (Nat.mod_lt _ (by decide)) (by decide) hx3 hy0
 refine eF rfl rfl rfl (eF rfl rfl rfl (aX rfl rfl rfl (fun _ => aY rfl rfl (by first | decide | omega) (by first | decide | omega)) (aX rfl rfl rfl (fun _ => aD 0 bS rfl) (aX rfl rfl rfl (fun _ => bX (3) cW rfl rfl rfl (by decide)) (bV rfl rfl rfl (aM 3 (.int _ _) cN M66 rfl rfl rfl) ?_)))))
 refine eF rfl rfl rfl (aX rfl rfl rfl (fun _ => aD 0 bS rfl) (aX rfl rfl rfl (fun _ => bX (3) cW rfl rfl rfl (by decide)) (bV rfl rfl rfl (aM 1 (.int _ _) cN M66 rfl rfl rfl) (eF rfl rfl rfl (aX rfl rfl rfl (fun _ => aD 0 bS rfl) ?_)))))
 refine aX rfl rfl rfl (fun _ => bX (0) cW rfl rfl rfl (by decide)) (bV rfl rfl rfl (aM 2 (.int _ _) cN M66 rfl rfl rfl) (aX rfl rfl rfl (fun _ => cA (.int _ _) rfl rfl rfl) (dY 38 (.int .u64 ((x3 * y0 : Nat) : Int)) (iE (kL x3 y0 ba30)) (aX rfl rfl rfl (fun _ => cA (.int _ _) rfl rfl rfl) ?_))))
 refine dY 39 (.int .u64 ((t21 % 65536 + x3 * y0 : Nat) : Int)) (iE (kM (t21 % 65536) (x3 * y0) bb30)) (eF rfl rfl rfl (aX rfl rfl rfl (fun _ => cA (.int _ _) rfl rfl rfl) (dY 41 (.int .u64 (t30 : Int)) (iE ((kM (t21 % 65536 + x3 * y0) (0) bc30).trans (congrArg _ ht30.symm))) (lM rfl rfl rfl (bY ?_)))))
 refine aC (aE (aA (aO rfl rfl (aO rfl rfl (wq (aY rfl rfl (by first | decide | omega) (by first | decide | omega)) rfl (aK 44 (.int .i64 3) (iE (by first | decide | omega)) (aO rfl rfl ?_)))))))
 refine wq (iM rfl rfl (by decide)) rfl (aK 46 (.int .u64 ((t30 % 65536 : Nat) : Int)) (iE (iZ t30 65536)) (wq (aD 0 bS rfl) rfl (wq (bX (3) cW rfl rfl rfl (by decide)) rfl (cZ 3 (.int _ _) cN M66 rfl rfl rfl rfl rfl rfl (fun w67 M67 => (aB (aC (aA ?_))))))))
 refine aO rfl rfl (wq (fY rfl rfl (by decide)) rfl (aK 50 (.int .u64 ((t30 / 65536 : Nat) : Int)) (iE (iJ t30 65536 bd30)) (bC rfl rfl (aB (cO ?_)))))
 refine aC (aA (aO rfl rfl (wq (aY rfl rfl (by first | decide | omega) (by first | decide | omega)) rfl (aK 23 (.int .i64 1) (iE (by first | decide | omega)) (bC rfl rfl (aB ?_))))))
 refine aC (fG (dW (fr := [(4, .pointer _), (5, .pointer _), (6, .pointer _), (7, .pointer _), (8, .int .i64 3), (9, .int _ _), (10, .int .i64 1), (11, .int _ _), (16, .int .i64 3), (17, .bool true)]) (bA rfl (bA rfl (bA rfl (bA rfl (bA rfl (bA rfl (bA rfl (bA rfl (bA rfl (bA rfl dX)))))))))) (fun ρ68 => ?_)))
 have M69 : Mem _ _ [_, _, _, (some _, bc [.int .u64 ((t00 % 65536 : Nat) : Int), .int .u64 ((t10 % 65536 : Nat) : Int), .int .u64 ((t20 % 65536 : Nat) : Int), .int .u64 ((t30 % 65536 : Nat) : Int), .int .u64 ((t22 % 65536 : Nat) : Int), .int .u64 ((t23 % 65536 : Nat) : Int), .int .u64 ((t23 / 65536 : Nat) : Int), .int .u64 0] 291)] _ := M67
 refine aE (aE (aA (aO rfl rfl (cX rfl rfl rfl rfl (jB 21 rfl (by first | decide | omega) (aB (aC (cC rfl ?_))))))))
 refine aL (aC (aE (aQ (aE (bR [(0, 0), (1, 0), (2, 0), (3, 0), (4, 0), (5, 1), (6, 0), (7, 0), (8, 0), (9, 1), (10, 0), (11, 0), (12, 0), (13, 1), (14, 0), (15, 0), (16, 0), (17, 0), (18, 0)] mixed rfl (by kernel_rfl) (fun w70 hb70 hh70 => ?_))))))
 have M70 := M69.drew hb70 hh70
 obtain ⟨t31, ht31, ba31, bb31, bc31, bd31, be31⟩ := fV (z := t22 % 65536) (c := t30 / 65536) (x := x3) (y := y1) (Nat.mod_lt _ (by decide)) be30 hx3 hy1
 refine eF rfl rfl rfl (eF rfl rfl rfl (aX rfl rfl rfl (fun _ => aY rfl rfl (by first | decide | omega) (by first | decide | omega)) (aX rfl rfl rfl (fun _ => aD 0 bS rfl) (aX rfl rfl rfl (fun _ => bX (4) cW rfl rfl rfl (by decide)) (bV rfl rfl rfl (aM 3 (.int _ _) cN M70 rfl rfl rfl) ?_)))))
 refine eF rfl rfl rfl (aX rfl rfl rfl (fun _ => aD 0 bS rfl) (aX rfl rfl rfl (fun _ => bX (3) cW rfl rfl rfl (by decide)) (bV rfl rfl rfl (aM 1 (.int _ _) cN M70 rfl rfl rfl) (eF rfl rfl rfl (aX rfl rfl rfl (fun _ => aD 0 bS rfl) ?_)))))
 refine aX rfl rfl rfl (fun _ => bX (1) cW rfl rfl rfl (by decide)) (bV rfl rfl rfl (aM 2 (.int _ _) cN M70 rfl rfl rfl) (aX rfl rfl rfl (fun _ => cA (.int _ _) rfl rfl rfl) (dY 38 (.int .u64 ((x3 * y1 : Nat) : Int)) (iE (kL x3 y1 ba31)) (aX rfl rfl rfl (fun _ => cA (.int _ _) rfl rfl rfl) ?_))))
 refine dY 39 (.int .u64 ((t22 % 65536 + x3 * y1 : Nat) : Int)) (iE (kM (t22 % 65536) (x3 * y1) bb31)) (eF rfl rfl rfl (aX rfl rfl rfl (fun _ => cA (.int _ _) rfl rfl rfl) (dY 41 (.int .u64 (t31 : Int)) (iE ((kM (t22 % 65536 + x3 * y1) (t30 / 65536) bc31).trans (congrArg _ ht31.symm))) (lM rfl rfl rfl ?_))))
 refine bY (aC (aE (aA (aO rfl rfl (aO rfl rfl (wq (aY rfl rfl (by first | decide | omega) (by first | decide | omega)) rfl (aK 44 (.int .i64 4) (iE (by first | decide | omega)) ?_)))))))
 refine aO rfl rfl (wq (iM rfl rfl (by decide)) rfl (aK 46 (.int .u64 ((t31 % 65536 : Nat) : Int)) (iE (iZ t31 65536)) (wq (aD 0 bS rfl) rfl (wq (bX (4) cW rfl rfl rfl (by decide)) rfl (cZ 3 (.int _ _) cN M70 rfl rfl rfl rfl rfl rfl (fun w71 M71 => ?_))))))
 refine aB (aC (aA (aO rfl rfl (wq (fY rfl rfl (by decide)) rfl (aK 50 (.int .u64 ((t31 / 65536 : Nat) : Int)) (iE (iJ t31 65536 bd31)) (bC rfl rfl (aB ?_)))))))
 refine cO (aC (aA (aO rfl rfl (wq (aY rfl rfl (by first | decide | omega) (by first | decide | omega)) rfl (aK 23 (.int .i64 2) (iE (by first | decide | omega)) (bC rfl rfl ?_))))))
 refine aB (aC (fG (dW (fr := [(4, .pointer _), (5, .pointer _), (6, .pointer _), (7, .pointer _), (8, .int .i64 3), (9, .int _ _), (10, .int .i64 2), (11, .int _ _), (16, .int .i64 3), (17, .bool true)]) (bA rfl (bA rfl (bA rfl (bA rfl (bA rfl (bA rfl (bA rfl (bA rfl (bA rfl (bA rfl dX)))))))))) (fun ρ72 => ?_))))
 have M73 : Mem _ _ [_, _, _, (some _, bc [.int .u64 ((t00 % 65536 : Nat) : Int), .int .u64 ((t10 % 65536 : Nat) : Int), .int .u64 ((t20 % 65536 : Nat) : Int), .int .u64 ((t30 % 65536 : Nat) : Int), .int .u64 ((t31 % 65536 : Nat) : Int), .int .u64 ((t23 % 65536 : Nat) : Int), .int .u64 ((t23 / 65536 : Nat) : Int), .int .u64 0] 291)] _ := M71
 refine aE (aE (aA (aO rfl rfl (cX rfl rfl rfl rfl (jB 21 rfl (by first | decide | omega) (aB (aC (cC rfl ?_))))))))
 refine aL (aC (aE (aQ (aE (bR [(0, 0), (1, 0), (2, 0), (3, 0), (4, 0), (5, 1), (6, 0), (7, 0), (8, 0), (9, 1), (10, 0), (11, 0), (12, 0), (13, 1), (14, 0), (15, 0), (16, 0), (17, 0), (18, 0)] mixed rfl (by kernel_rfl) (fun w74 hb74 hh74 => ?_))))))
 have M74 := M73.drew hb74 hh74
 obtain ⟨t32, ht32, ba32, bb32, bc32, bd32, be32⟩ := fV (z := t23 % 65536) (c := t31 / 65536) (x := x3) (y := y2) (Nat.mod_lt _ (by decide)) be31 hx3 hy2
 refine eF rfl rfl rfl (eF rfl rfl rfl (aX rfl rfl rfl (fun _ => aY rfl rfl (by first | decide | omega) (by first | decide | omega)) (aX rfl rfl rfl (fun _ => aD 0 bS rfl) (aX rfl rfl rfl (fun _ => bX (5) cW rfl rfl rfl (by decide)) (bV rfl rfl rfl (aM 3 (.int _ _) cN M74 rfl rfl rfl) ?_)))))
 refine eF rfl rfl rfl (aX rfl rfl rfl (fun _ => aD 0 bS rfl) (aX rfl rfl rfl (fun _ => bX (3) cW rfl rfl rfl (by decide)) (bV rfl rfl rfl (aM 1 (.int _ _) cN M74 rfl rfl rfl) (eF rfl rfl rfl (aX rfl rfl rfl (fun _ => aD 0 bS rfl) ?_)))))
 refine aX rfl rfl rfl (fun _ => bX (2) cW rfl rfl rfl (by decide)) (bV rfl rfl rfl (aM 2 (.int _ _) cN M74 rfl rfl rfl) (aX rfl rfl rfl (fun _ => cA (.int _ _) rfl rfl rfl) (dY 38 (.int .u64 ((x3 * y2 : Nat) : Int)) (iE (kL x3 y2 ba32)) (aX rfl rfl rfl (fun _ => cA (.int _ _) rfl rfl rfl) ?_))))
 refine dY 39 (.int .u64 ((t23 % 65536 + x3 * y2 : Nat) : Int)) (iE (kM (t23 % 65536) (x3 * y2) bb32)) (eF rfl rfl rfl (aX rfl rfl rfl (fun _ => cA (.int _ _) rfl rfl rfl) (dY 41 (.int .u64 (t32 : Int)) (iE ((kM (t23 % 65536 + x3 * y2) (t31 / 65536) bc32).trans (congrArg _ ht32.symm))) (lM rfl rfl rfl ?_))))
 refine bY (aC (aE (aA (aO rfl rfl (aO rfl rfl (wq (aY rfl rfl (by first | decide | omega) (by first | decide | omega)) rfl (aK 44 (.int .i64 5) (iE (by first | decide | omega)) ?_)))))))
 refine aO rfl rfl (wq (iM rfl rfl (by decide)) rfl (aK 46 (.int .u64 ((t32 % 65536 : Nat) : Int)) (iE (iZ t32 65536)) (wq (aD 0 bS rfl) rfl (wq (bX (5) cW rfl rfl rfl (by decide)) rfl (cZ 3 (.int _ _) cN M74 rfl rfl rfl rfl rfl rfl (fun w75 M75 => ?_))))))
 refine aB (aC (aA (aO rfl rfl (wq (fY rfl rfl (by decide)) rfl (aK 50 (.int .u64 ((t32 / 65536 : Nat) : Int)) (iE (iJ t32 65536 bd32)) (bC rfl rfl (aB ?_)))))))
 refine cO (aC (aA (aO rfl rfl (wq (aY rfl rfl (by first | decide | omega) (by first | decide | omega)) rfl (aK 23 (.int .i64 3) (iE (by first | decide | omega)) (bC rfl rfl ?_))))))
 refine aB (aC (fG (dW (fr := [(4, .pointer _), (5, .pointer _), (6, .pointer _), (7, .pointer _), (8, .int .i64 3), (9, .int _ _), (10, .int .i64 3), (11, .int _ _), (16, .int .i64 3), (17, .bool true)]) (bA rfl (bA rfl (bA rfl (bA rfl (bA rfl (bA rfl (bA rfl (bA rfl (bA rfl (bA rfl dX)))))))))) (fun ρ76 => ?_))))
 have M77 : Mem _ _ [_, _, _, (some _, bc [.int .u64 ((t00 % 65536 : Nat) : Int), .int .u64 ((t10 % 65536 : Nat) : Int), .int .u64 ((t20 % 65536 : Nat) : Int), .int .u64 ((t30 % 65536 : Nat) : Int), .int .u64 ((t31 % 65536 : Nat) : Int), .int .u64 ((t32 % 65536 : Nat) : Int), .int .u64 ((t23 / 65536 : Nat) : Int), .int .u64 0] 291)] _ := M75
 refine aE (aE (aA (aO rfl rfl (cX rfl rfl rfl rfl (jB 21 rfl (by first | decide | omega) (aB (aC (cC rfl ?_))))))))
 refine aL (aC (aE (aQ (aE (bR [(0, 0), (1, 0), (2, 0), (3, 0), (4, 0), (5, 1), (6, 0), (7, 0), (8, 0), (9, 1), (10, 0), (11, 0), (12, 0), (13, 1), (14, 0), (15, 0), (16, 0), (17, 0), (18, 0)] mixed rfl (by kernel_rfl) (fun w78 hb78 hh78 => ?_))))))
 have M78 := M77.drew hb78 hh78
 obtain ⟨t33, ht33, ba33, bb33, bc33, bd33, be33⟩ := fV (z := t23 / 65536) (c := t32 / 65536) (x := x3) (y := y3) be23 be32 hx3 hy3
 refine eF rfl rfl rfl (eF rfl rfl rfl (aX rfl rfl rfl (fun _ => aY rfl rfl (by first | decide | omega) (by first | decide | omega)) (aX rfl rfl rfl (fun _ => aD 0 bS rfl) (aX rfl rfl rfl (fun _ => bX (6) cW rfl rfl rfl (by decide)) (bV rfl rfl rfl (aM 3 (.int _ _) cN M78 rfl rfl rfl) ?_)))))
 refine eF rfl rfl rfl (aX rfl rfl rfl (fun _ => aD 0 bS rfl) (aX rfl rfl rfl (fun _ => bX (3) cW rfl rfl rfl (by decide)) (bV rfl rfl rfl (aM 1 (.int _ _) cN M78 rfl rfl rfl) (eF rfl rfl rfl (aX rfl rfl rfl (fun _ => aD 0 bS rfl) ?_)))))
 refine aX rfl rfl rfl (fun _ => bX (3) cW rfl rfl rfl (by decide)) (bV rfl rfl rfl (aM 2 (.int _ _) cN M78 rfl rfl rfl) (aX rfl rfl rfl (fun _ => cA (.int _ _) rfl rfl rfl) (dY 38 (.int .u64 ((x3 * y3 : Nat) : Int)) (iE (kL x3 y3 ba33)) (aX rfl rfl rfl (fun _ => cA (.int _ _) rfl rfl rfl) ?_))))
 refine dY 39 (.int .u64 ((t23 / 65536 + x3 * y3 : Nat) : Int)) (iE (kM (t23 / 65536) (x3 * y3) bb33)) (eF rfl rfl rfl (aX rfl rfl rfl (fun _ => cA (.int _ _) rfl rfl rfl) (dY 41 (.int .u64 (t33 : Int)) (iE ((kM (t23 / 65536 + x3 * y3) (t32 / 65536) bc33).trans (congrArg _ ht33.symm))) (lM rfl rfl rfl ?_))))
 refine bY (aC (aE (aA (aO rfl rfl (aO rfl rfl (wq (aY rfl rfl (by first | decide | omega) (by first | decide | omega)) rfl (aK 44 (.int .i64 6) (iE (by first | decide | omega)) ?_)))))))
 refine aO rfl rfl (wq (iM rfl rfl (by decide)) rfl (aK 46 (.int .u64 ((t33 % 65536 : Nat) : Int)) (iE (iZ t33 65536)) (wq (aD 0 bS rfl) rfl (wq (bX (6) cW rfl rfl rfl (by decide)) rfl (cZ 3 (.int _ _) cN M78 rfl rfl rfl rfl rfl rfl (fun w79 M79 => ?_))))))
 refine aB (aC (aA (aO rfl rfl (wq (fY rfl rfl (by decide)) rfl (aK 50 (.int .u64 ((t33 / 65536 : Nat) : Int)) (iE (iJ t33 65536 bd33)) (bC rfl rfl (aB ?_)))))))
 refine cO (aC (aA (aO rfl rfl (wq (aY rfl rfl (by first | decide | omega) (by first | decide | omega)) rfl (aK 23 (.int .i64 4) (iE (by first | decide | omega)) (bC rfl rfl ?_))))))
 refine aB (aC (fG (dW (fr := [(4, .pointer _), (5, .pointer _), (6, .pointer _), (7, .pointer _), (8, .int .i64 3), (9, .int _ _), (10, .int .i64 4), (11, .int _ _), (16, .int .i64 3), (17, .bool true)]) (bA rfl (bA rfl (bA rfl (bA rfl (bA rfl (bA rfl (bA rfl (bA rfl (bA rfl (bA rfl dX)))))))))) (fun ρ80 => ?_))))
 have M81 : Mem _ _ [_, _, _, (some _, bc [.int .u64 ((t00 % 65536 : Nat) : Int), .int .u64 ((t10 % 65536 : Nat) : Int), .int .u64 ((t20 % 65536 : Nat) : Int), .int .u64 ((t30 % 65536 : Nat) : Int), .int .u64 ((t31 % 65536 : Nat) : Int), .int .u64 ((t32 % 65536 : Nat) : Int), .int .u64 ((t33 % 65536 : Nat) : Int), .int .u64 0] 291)] _ := M79
 refine aE (aE (aA (aO rfl rfl (cX rfl rfl rfl rfl (pA 21 rfl (by first | decide | omega) (aB (aC (cM rfl ?_))))))))
 refine cV (dD (dD (eO (aC (aA (aO rfl rfl (wq (aY rfl rfl (by first | decide | omega) (by first | decide | omega)) rfl ?_)))))))
 refine aK 52 (.int .i64 7) (iE (by first | decide | omega)) (aO rfl rfl (wq (aD 0 bS rfl) rfl (wq (bX (7) cW rfl rfl rfl (by decide)) rfl (cZ 3 (.int _ _) cN M81 rfl rfl rfl rfl rfl rfl (fun w82 M82 => (aB ?_))))))
 refine cO (aC (aA (aO rfl rfl (wq (aY rfl rfl (by first | decide | omega) (by first | decide | omega)) rfl (aK 19 (.int .i64 4) (iE (by first | decide | omega)) (bC rfl rfl ?_))))))
 refine aB (aC (fG (dW (fr := [(4, .pointer _), (5, .pointer _), (6, .pointer _), (7, .pointer _), (8, .int .i64 4), (9, .int _ _), (10, .int .i64 4), (11, .int _ _)]) (bA rfl (bA rfl (bA rfl (bA rfl (bA rfl (bA rfl (bA rfl (bA rfl dX)))))))) (fun ρ83 => ?_))))
 have M84 : Mem _ _ [_, _, _, (some _, bc [.int .u64 ((t00 % 65536 : Nat) : Int), .int .u64 ((t10 % 65536 : Nat) : Int), .int .u64 ((t20 % 65536 : Nat) : Int), .int .u64 ((t30 % 65536 : Nat) : Int), .int .u64 ((t31 % 65536 : Nat) : Int), .int .u64 ((t32 % 65536 : Nat) : Int), .int .u64 ((t33 % 65536 : Nat) : Int), .int .u64 ((t33 / 65536 : Nat) : Int)] 291)] _ := M82
 refine aE (aE (aA (aO rfl rfl (cX rfl rfl rfl rfl (pA 17 rfl (by first | decide | omega) (aB (aC (cM rfl ?_))))))))
 refine cV (dD (dD (eO (aC (aE (aA (wq (aU 3 nA M84 rfl rfl rfl) rfl (bG 0 _ nA M84 rfl rfl rfl rfl rfl (aT rfl) rfl (fun w85 M85 => ?_)))))))))
 refine aB (aC (aP (eX 0 nA M85 rfl rfl rfl ?_)))
 have hall := bDk ht00 ht01 ht02 ht03 ht10 ht11 ht12 ht13 ht20 ht21 ht22 ht23 ht30 ht31 ht32 ht33
 rw [hX, hY] at hall
 exact ⟨[t00 % 65536, t10 % 65536, t20 % 65536, t30 % 65536, t31 % 65536, t32 % 65536, t33 % 65536, t33 / 65536], rfl, rfl, bMt (Nat.mod_lt _ (by decide)) (Nat.mod_lt _ (by decide)) (Nat.mod_lt _ (by decide)) (Nat.mod_lt _ (by decide)) (Nat.mod_lt _ (by decide)) (Nat.mod_lt _ (by decide)) (Nat.mod_lt _ (by decide)) be33, hall, M85.below⟩
set_option maxHeartbeats 4000000 in
theorem aUn (w : World) (d0 d1 d2 d3 d4 d5 d6 d7 : Nat) (hd : ∀ x ∈ ([d0, d1, d2, d3, d4, d5, d6, d7] : List Nat), x < 65536) (i : Nat) (hi : i < 128) :
  Calls Tryz.prog 227 #[(.agg (([d0, d1, d2, d3, d4, d5, d6, d7] : List Nat).map kX).toArray), .int .i64 (i : Int)] w (fun ex w' => ∃ v, ex = .returned v ∧ (fun v w' => v = .int .u64 ((rW [d0, d1, d2, d3, d4, d5, d6, d7] / 2 ^ i % 2 : Nat) : Int) ∧ Below w.heap.size w w') v w') := by
 obtain ⟨d, hdj⟩ := cT (xs := ([d0, d1, d2, d3, d4, d5, d6, d7] : List Nat)) (k := i / 16) (n := 8) rfl (by omega)
 have hdl := hd d (List.mem_of_getElem? hdj)
 refine aI #[.tmp 4] 22 Tryz.func227 rfl Tryz.results227 Tryz.ntmps227 rfl ?_
 have M0 := Mem.refl w
 refine aE (aA (bP (.agg (List.toArray _)) M0 rfl rfl rfl (fun b1 w1 M1 => (bC rfl rfl (aB (aC (aE (aA (aO rfl rfl (wq (fY rfl rfl (by decide)) rfl ?_))))))))))
 refine aK 8 (.int .i64 ((i / 16 : Nat) : Int)) (iE (bMs i 16 (by omega))) (wq (aD 0 bS rfl) rfl (wq (bX ((i / 16)) cW rfl rfl rfl (by omega)) rfl (wq (aM 0 (.int _ _) cN M1 rfl rfl (bEd hdj)) rfl (bC rfl rfl (aB (aC (aE (aE (aA ?_)))))))))
 refine bC rfl rfl (aB (aC (aQ (dQ (σ := Nat) [1, 4] (fun k => [(5, .int .u64 ((d / 2 ^ k : Nat) : Int)), (6, .int .i64 (k : Int))]) (fun k w' => k ≤ i % 16 ∧ Mem w [] [(some b1, bc (([d0, d1, d2, d3, d4, d5, d6, d7] : List Nat).map kX) 291)] w') (fun k => i % 16 - k) 0 (bA (iv rfl (by simp)) (bA rfl dX)) (⟨by omega, M1⟩) ?_))))
 rintro k ρ2 w2 ⟨hk, hM2⟩
 refine aE (aE (aA (aO rfl rfl (aO rfl rfl (wq (iM rfl rfl (by decide)) rfl (aK 14 (.int .i64 ((i % 16 : Nat) : Int)) (iE (iZ i 16)) (cX rfl rfl rfl rfl ?_)))))))
 refine aB (aC ?_)
 refine aS rfl (fun h15 => ?_) (fun h15 => ?_)
 ·refine aL (aC (aE (aQ (aA (aO rfl rfl (wq (fY rfl rfl (by decide)) rfl (aK 19 (.int .u64 ((d / 2 ^ (k + 1) : Nat) : Int)) (iE ((iJ (d / 2 ^ k) 2 (Nat.lt_of_le_of_lt (Nat.div_le_self _ _) (by omega))).trans (congrArg _ (by rw [Nat.pow_succ, Nat.div_div_eq_div_mul])))) (bC rfl rfl ?_))))))))
  refine aB (cO (aC (aA (aO rfl rfl (wq (aY rfl rfl (by omega) (by omega)) rfl (bC rfl rfl ?_))))))
  refine aB ?_
  refine cD (k + 1) (bA rfl (bA rfl dX)) (cL rfl (cL rfl gO)) ?_ ?_
  ·exact ⟨by omega, hM2⟩
  ·omega
 ·have hks : k = i % 16 := by omega
  refine cV (dD (dK (eO (aC (aE (aA (aO rfl rfl ?_)))))))
  refine wq (iM rfl rfl (by decide)) rfl (aK 21 (.int .u64 ((d / 2 ^ k % 2 : Nat) : Int)) (iE (iZ (d / 2 ^ k) 2)) (bC rfl rfl (aB (aC (aP (cE (.int _ _) rfl ?_))))))
  exact ⟨iE (congrArg _ (by rw [hks]; exact bIw (rW [d0, d1, d2, d3, d4, d5, d6, d7]) i (i / 16) (i % 16) d (by omega) (by omega) (aKb [d0, d1, d2, d3, d4, d5, d6, d7] (i / 16) d hd hdj))), hM2.below⟩
set_option maxHeartbeats 8000000 in
theorem wK (w : World) (d0 d1 d2 d3 d4 d5 d6 d7 : Nat) (hd : ∀ x ∈ ([d0, d1, d2, d3, d4, d5, d6, d7] : List Nat), x < 65536) (z : Nat) (hz : 0 < z) (hz1 : z ≤ 9223372036854775807) (hX : rW [d0, d1, d2, d3, d4, d5, d6, d7] / z ≤ 4611686018427387904) (hX2 : rW [d0, d1, d2, d3, d4, d5, d6, d7] < 340282366920938463463374607431768211456) :
  Calls Tryz.prog 211 #[(.agg (([d0, d1, d2, d3, d4, d5, d6, d7] : List Nat).map kX).toArray), .int .u64 (z : Int)] w (fun ex w' => ∃ v, ex = .returned v ∧ (fun v w' => v = .tuple #[.int .u64 ((rW [d0, d1, d2, d3, d4, d5, d6, d7] / z : Nat) : Int), .int .u64 ((rW [d0, d1, d2, d3, d4, d5, d6, d7] % z : Nat) : Int), .bool true] ∧ Below w.heap.size w w') v w') := by
 refine aI #[.tmp 4, .tmp 5, .tmp 6] 42 Tryz.func211 rfl Tryz.results211 Tryz.ntmps211 rfl ?_
 have M0 := Mem.refl w
 refine aE (aA (bP (.agg (List.toArray _)) M0 rfl rfl rfl (fun b1 w1 M1 => (bC rfl rfl (bC rfl rfl (wq (aJ (.bool false) rfl) rfl (aB (aC (aE (aA ?_))))))))))
 refine bC rfl rfl (aB (aC (aE (aA (bC rfl rfl (aB (aC (aE (aA (wq (aJ (.bool true) rfl) rfl (aB (aC (aE (aE (aA ?_)))))))))))))))
 refine bC rfl rfl (aB (aC (aQ (dQ (σ := Nat × Nat × Nat) [1, 2, 4, 5, 6] (fun (p, q, r) => [(7, .int .u64 (q : Int)), (8, .int .u64 (r : Int)), (9, .bool true), (10, .int .i64 ((p : Int) - 1))]) (fun (p, q, r) w' => (p ≤ 128 ∧ Lb (rW [d0, d1, d2, d3, d4, d5, d6, d7]) z p q r) ∧ Mem w [] [(some b1, bc (([d0, d1, d2, d3, d4, d5, d6, d7] : List Nat).map kX) 291)] w') (fun (p, q, r) => p) (128, 0, 0) (bA rfl (bA rfl (bA rfl (bA (iv rfl (by decide)) dX)))) (⟨⟨by omega, bCc hz hX2⟩, M1⟩) ?_))))
 rintro ⟨p, q, r⟩ ρ2 w2 ⟨⟨hp, hlb⟩, hM2⟩
 refine aE (aE (aA (aO rfl rfl (cX rfl rfl rfl rfl (aB (aC ?_))))))
 refine aS rfl (fun h13 => ?_) (fun h13 => ?_)
 ·obtain ⟨s, rfl⟩ : ∃ s, p = s + 1 := ⟨p - 1, by omega⟩
  obtain ⟨b, hb⟩ : ∃ b, rW [d0, d1, d2, d3, d4, d5, d6, d7] / 2 ^ s % 2 = b := ⟨_, rfl⟩
  obtain ⟨hr, hb2, hq2, hyes, hno⟩ := bCl hz hlb hb
  have hsm := aZh (i := s) hX
  refine aL (aC (aE (aQ (aE (aA (aO rfl rfl (cX rfl rfl rfl rfl (pA 17 rfl (by omega) (wq (aJ (.bool false) rfl) rfl (aB (aC (aE (aA ?_)))))))))))))
  refine aO rfl rfl (wq (cA (.int _ _) rfl rfl rfl) rfl (aK 19 (.int .u64 ((2 * r : Nat) : Int)) (iE (by rw [fZ]; omega)) (wq (aU 0 nA hM2 rfl rfl rfl) rfl (aO rfl rfl (aK 21 (.int .i64 (s : Int)) (iE (by omega)) ?_)))))
  refine bZ bGt rfl rfl (aUn _ d0 d1 d2 d3 d4 d5 d6 d7 hd s (by omega)) ?_
  rintro v3 w3 ⟨rfl, hb3⟩
  have M3 := hM2.callB hb3
  refine aK 22 (.int .u64 (b : Int)) (iE (congrArg _ hb)) (wq (cA (.int _ _) rfl rfl rfl) rfl (aK 23 (.int .u64 ((2 * r + b : Nat) : Int)) (iE (by rw [fZ]; omega)) (bC rfl rfl (aB (aC (aE (aE (aA (aO rfl rfl ?_)))))))))
  refine cX rfl rfl rfl rfl (pA 25 rfl (by omega) (aB (aC (cM rfl (aL (aC (aE (aA (aO rfl rfl ?_)))))))))
  refine wq (cA (.int _ _) rfl rfl rfl) rfl (aK 27 (.int .u64 ((2 * q : Nat) : Int)) (iE (by rw [fZ]; omega)) (bC rfl rfl (aB (aC (aE (aA (wq (aH (.bool false) rfl) rfl (wq (aH (.bool false) rfl) rfl ?_))))))))
  refine aO rfl rfl (aO rfl rfl (cX rfl rfl rfl rfl (wq (bM false (.bool (decide _)) rfl rfl) rfl (aB (aC ?_)))))
  refine aS rfl (fun h33 => ?_) (fun h33 => ?_)
  ·refine aE (aA (aO rfl rfl (aO rfl rfl (wq (cA (.int _ _) rfl rfl rfl) rfl (aK 36 (.int .u64 ((2 * r + b - z : Nat) : Int)) (iE (by rw [fZ]; omega)) (bC rfl rfl ?_))))))
   refine aB (aC (aA (aO rfl rfl (wq (cA (.int _ _) rfl rfl rfl) rfl (aK 38 (.int .u64 ((2 * q + 1 : Nat) : Int)) (iE (by rw [fZ]; omega)) (bC rfl rfl (aB ?_)))))))
   refine cO (aC (aA (aO rfl rfl (wq (fX rfl rfl (by omega) (by omega)) rfl (bC rfl rfl (aB ?_))))))
   refine cD (s, 2 * q + 1, 2 * r + b - z) (bA rfl (bA rfl (bA rfl (bA (iv rfl (by omega)) dX)))) (cL rfl (cL rfl (cL rfl (cL rfl (cL rfl gO))))) ?_ ?_
   ·exact ⟨⟨by omega, hyes (by omega)⟩, M3⟩
   ·(show s < s + 1; omega)
  ·refine aL (cO (aC (aA (aO rfl rfl (wq (fX rfl rfl (by omega) (by omega)) rfl (bC rfl rfl ?_))))))
   refine aB ?_
   refine cD (s, 2 * q, 2 * r + b) (bA rfl (bA rfl (bA rfl (bA (iv rfl (by omega)) dX)))) (cL rfl (cL rfl (cL rfl (cL rfl (cL rfl gO))))) ?_ ?_
   ·exact ⟨⟨by omega, hno (by omega)⟩, M3⟩
   ·(show s < s + 1; omega)
 ·obtain rfl : p = 0 := by omega
  obtain ⟨hq, hr⟩ := bCj hlb
  refine cV (dD (dK (eO (aC (aE (aA (aO rfl rfl ?_)))))))
  refine aO rfl rfl (wq (aH (.bool true) rfl) rfl (bC rfl rfl (bC rfl rfl (wq (aJ (.bool true) rfl) rfl (aB (aC (aP ?_)))))))
  refine bAp (.int _ _) (.int _ _) (.bool true) rfl rfl rfl ?_
  exact ⟨by rw [hq, hr], hM2.below⟩
set_option maxHeartbeats 4000000 in
theorem zL (w : World) (q r : Nat) (neg : Bool) (hq : q ≤ 4294967296) :
  Calls Tryz.prog 213 #[.int .u64 (q : Int), .int .u64 (r : Int), .bool true, .bool neg] w (fun ex w' => ∃ v, ex = .returned v ∧ (fun v w' => v = .tuple #[.int .i64 (if neg = true then (if 0 < r then -(q : Int) - 1 else -(q : Int)) else (q : Int)), .bool true] ∧ Below w.heap.size w w') v w') := by
 refine aI #[.tmp 8, .tmp 9] 33 Tryz.func213 rfl Tryz.results213 Tryz.ntmps213 rfl ?_
 have M0 := Mem.refl w
 refine aE (aA (bC rfl rfl (wq (aJ (.bool false) rfl) rfl (aB (aC (aE (aE (aA (wq (aH (.bool _) rfl) rfl (wq (iD _ rfl rfl) rfl ?_))))))))))
 refine aB (aC ?_)
 refine iB _ rfl (fun h11 => ?_) (fun h11 => ?_)
 ·have hn : neg = false := by simpa using h11
  refine aE (aA (aO rfl rfl (wq (aZ uI Tryz.underlying2 rfl (fC _ (by omega) (by omega))) rfl (wq (aH (.bool true) rfl) rfl (wq (aH (.bool true) rfl) rfl (aO rfl rfl ?_))))))
  refine cX rfl rfl rfl rfl (jB 17 rfl (by omega) (wq (bM true (.bool true) rfl rfl) rfl (bC rfl rfl (wq (aJ (.bool true) rfl) rfl (aB (aC (aP (cH ?_))))))))
  refine gA (.int _ _) (.bool true) rfl rfl ?_
  exact ⟨by rw [hn]; rfl, M0.below⟩
 ·have hn : neg = true := by simpa using h11
  refine aL (aC (aE (aE (aA (aO rfl rfl (cX rfl rfl rfl rfl (aB (aC ?_))))))))
  refine aS rfl (fun h20 => ?_) (fun h20 => ?_)
  ·refine aE (aE (aA (aO rfl rfl (cX rfl rfl rfl rfl (pA 22 rfl (by omega) (aB (aC (cM rfl ?_))))))))
   refine aL (aC (aA (aO rfl rfl (wq (cA (.int _ _) rfl rfl rfl) rfl (aK 24 (.int .u64 ((q + 1 : Nat) : Int)) (iE (by rw [fZ]; omega)) (bC rfl rfl (aB (aC (aE (aA ?_))))))))))
   refine aO rfl rfl (wq (pN rfl) rfl (wq (dA uI Tryz.underlying2 rfl) rfl (aK 27 (.int .i64 (-((q + 1 : Nat) : Int))) (iE (aIy (q + 1) (by omega))) (wq (aH (.bool true) rfl) rfl (wq (aH (.bool true) rfl) rfl ?_)))))
   refine aO rfl rfl (cX rfl rfl rfl rfl (jB 31 rfl (by omega) (wq (bM true (.bool true) rfl rfl) rfl (bC rfl rfl (wq (aJ (.bool true) rfl) rfl ?_)))))
   refine aB (aC (aP (gA (.int _ _) (.bool true) rfl rfl ?_)))
   exact ⟨by rw [if_pos hn, if_pos (by omega)]; exact rN (iE (by omega)) rfl, M0.below⟩
  ·refine aL (aC (aE (aA (aO rfl rfl (wq (pN rfl) rfl (wq (dA uI Tryz.underlying2 rfl) rfl (aK 27 (.int .i64 (-((q : Nat) : Int))) (iE (aIy (q) (by omega))) (wq (aH (.bool true) rfl) rfl ?_))))))))
   refine wq (aH (.bool true) rfl) rfl (aO rfl rfl (cX rfl rfl rfl rfl (jB 31 rfl (by omega) (wq (bM true (.bool true) rfl rfl) rfl (bC rfl rfl ?_)))))
   refine wq (aJ (.bool true) rfl) rfl (aB (aC (aP (gA (.int _ _) (.bool true) rfl rfl ?_))))
   exact ⟨by rw [if_pos hn, if_neg (by omega)], M0.below⟩
set_option maxHeartbeats 8000000 in
theorem wX (w : World) (a n d : Int) (ha : -4294967296 ≤ a ∧ a ≤ 4294967296) (hn : 0 ≤ n) (hnd : n ≤ d) (hd0 : 0 < d) (hd : d ≤ 9223372036854775807) :
  Calls Tryz.prog 210 #[.int .i64 a, .int .i64 n, .int .i64 d] w (fun ex w' => ∃ v, ex = .returned v ∧ (fun v w' => v = .tuple #[.int .i64 (a * n / d), .int .i64 0] ∧ Below w.heap.size w w') v w') := by
 obtain ⟨m, rfl⟩ := Int.eq_ofNat_of_zero_le hn
 obtain ⟨z, rfl⟩ := Int.eq_ofNat_of_zero_le (Int.le_of_lt hd0)
 have hmd := aLa (a := a) (m := m) (z := z) ha (by omega) (by omega) (by omega)
 obtain ⟨q, hq⟩ : ∃ q, a.natAbs * m / z = q := ⟨_, rfl⟩
 obtain ⟨r, hr⟩ : ∃ r, a.natAbs * m % z = r := ⟨_, rfl⟩
 have hql : q ≤ 4294967296 := by rw [← hq]; exact hmd.2.2.2
 have hbig : a.natAbs * m ≤ 4294967296 * 9223372036854775807 := Nat.mul_le_mul (by omega) (by omega)
 refine aI #[.tmp 6, .tmp 7] 49 Tryz.func210 rfl Tryz.results210 Tryz.ntmps210 rfl ?_
 have M0 := Mem.refl w
 refine aE (aA (bC rfl rfl (bC rfl rfl (aB (aC (aE (aE (aA (aO rfl rfl (cX rfl rfl rfl rfl ?_))))))))))
 refine pA 15 rfl (by omega) (aB (aC (cM rfl (aL (aC (aE (aA (aO rfl rfl (wq (dA lK Tryz.underlying170 rfl) rfl ?_)))))))))
 refine aK 17 (.int .u64 (z : Int)) (iE (by rw [fZ]; omega)) (bC rfl rfl (aB (aC (aE (aE (aA (aO rfl rfl (cX rfl rfl rfl rfl (pA 19 rfl (by omega) ?_)))))))))
 refine aB (aC (cM rfl (aL (aC (aE (aA (aO rfl rfl (aO rfl rfl (bZ aVi rfl rfl (uB _ a (m : Int) (by omega) (by omega) (by omega) (by omega)) ?_)))))))))
 rintro v1 w1 ⟨D, rfl, hD8, hDd, hDv, hb1⟩
 have M1 := M0.callB hb1
 obtain ⟨d0, d1, d2, d3, d4, d5, d6, d7, rfl⟩ := bFh hD8
 rw [Int.natAbs_natCast] at hDv
 refine aO rfl rfl (bZ bAi rfl rfl (wK _ d0 d1 d2 d3 d4 d5 d6 d7 hDd z (by omega) (by omega) (by rw [hDv]; omega) (by rw [hDv]; omega)) ?_)
 rintro v2 w2 ⟨rfl, hb2⟩
 have M2 := M1.callB hb2
 refine wq (aH (.tuple (List.toArray _)) rfl) rfl (wq (bO (.int _ _) rfl rfl) rfl (aK 28 (.int .u64 (q : Int)) (iE (by rw [hDv, hq])) (wq (bO (.int _ _) rfl rfl) rfl (aK 29 (.int .u64 (r : Int)) (iE (by rw [hDv, hr])) (wq (bO (.bool true) rfl rfl) rfl ?_)))))
 refine bC rfl rfl (bC rfl rfl (wq (aJ (.bool true) rfl) rfl (aB (aC (aE (aA (aO rfl rfl (aO rfl rfl ?_))))))))
 refine wq (aH (.bool true) rfl) rfl (aO rfl rfl (cX rfl rfl rfl rfl (aO rfl rfl (cX rfl rfl rfl rfl (pA 38 rfl (by omega) ?_)))))
 refine wq (qL _ Tryz.underlying4 rfl rfl rfl) rfl (aK 39 (.bool (decide (a < 0))) (bv rfl (by simp)) (aO rfl rfl (cX rfl rfl rfl rfl (pA 41 rfl (by omega) (wq (qL _ Tryz.underlying4 rfl rfl rfl) rfl ?_)))))
 refine aK 42 (.bool (decide (a < 0))) (bv rfl (by simp)) (bZ aYs rfl rfl (zL _ q r (decide (a < 0)) hql) ?_)
 rintro v3 w3 ⟨rfl, hb3⟩
 have M3 := M2.callB hb3
 refine wq (aH (.tuple (List.toArray _)) rfl) rfl (wq (bO (.int _ _) rfl rfl) rfl (wq (bO (.bool true) rfl rfl) rfl (bC rfl rfl (wq (aJ (.bool true) rfl) rfl (aB (aC (aE (aE (aA ?_)))))))))
 refine wq (aH (.bool true) rfl) rfl (wq (iD false rfl rfl) rfl (aB (aC (cM rfl (aL (aC (aE (aA (aO rfl rfl ?_)))))))))
 refine bC rfl rfl (bC rfl rfl (aB (aC (aP (gA (.int _ _) (.int _ _) rfl rfl ?_)))))
 have hval : (if decide (a < 0) = true then (if 0 < r then -(q : Int) - 1 else -(q : Int)) else (q : Int)) = a * (m : Int) / (z : Int) := aYm hq hr hd0
 exact ⟨rN (iE hval) rfl, M3.below⟩
set_option maxHeartbeats 8000000 in
theorem bLb (w : World) (n : Nat) (hn : n < 18446744073709551616) :
  Calls Tryz.prog 203 #[.int .u64 (n : Int)] w (fun ex w' => ∃ v, ex = .returned v ∧ (fun v w' => v = .int .u64 ((uA n : Nat) : Int) ∧ Below w.heap.size w w') v w') := by
 refine aI #[.tmp 2] 32 Tryz.func203 rfl Tryz.results203 Tryz.ntmps203 rfl ?_
 have M0 := Mem.refl w
 refine aE (aA (bC rfl rfl (aB (aC (aE (aA (aO rfl rfl (bC rfl rfl (bC rfl rfl ?_)))))))))
 refine aB (aC (aE (aE (aA (aO rfl rfl (aB (aC (aQ (dQ (σ := Nat × Nat × Nat) [2] (fun (i, R, e) => [(8, .int .i64 (i : Int)), (3, .int .u64 ((n - R * R : Nat) : Int)), (4, .int .u64 ((R * e : Nat) : Int))]) (fun (i, R, e) w' => Iq n i R e ∧ Mem w [] [] w') (fun (i, R, e) => 32 - i) (0, 0, 4294967296) (bA rfl (bA (iv rfl (by simp)) (bA (iv rfl (by simp)) dX))) (⟨bBv hn, M0⟩) ?_)))))))))
 rintro ⟨i, R, e⟩ ρ1 w1 ⟨I, hM1⟩
 have hile := I.ile
 have hle := I.le
 refine aE (aA (cX rfl rfl rfl rfl (aB (aC (aE ?_)))))
 refine aS rfl (fun h9 => ?_) (fun h9 => ?_)
 ·obtain ⟨f, hf1, hf2, hf3, hf4, hf5, hf6, hf7, hf8, hfy, hfn⟩ := bBi (by omega) I
  refine aL (aC (aE (aQ (aE (aA (aO rfl rfl (bC rfl rfl (aB (aC (aE (aA (aO rfl rfl (wq (eS rfl rfl (by omega) (by omega)) rfl ?_)))))))))))))
  refine wq (jH rfl rfl (by omega)) rfl (aK 13 (.int .u64 ((f * f : Nat) : Int)) (iE ((bDu (2 * i) _ (by omega) (by omega)).trans (congrArg _ hf4))) (bC rfl rfl (aB (aC (aE (aA (aO rfl rfl (aO rfl rfl ?_))))))))
  refine aO rfl rfl (wq (cA (.int _ _) rfl rfl rfl) rfl (aK 17 (.int .u64 ((R * e + f * f : Nat) : Int)) (iE (by rw [fZ]; omega)) (cX rfl rfl rfl rfl (aB (aC ?_)))))
  refine aS rfl (fun h18 => ?_) (fun h18 => ?_)
  ·have h18' : R * e + f * f ≤ n - R * R := by omega
   refine aE (aA (aO rfl rfl (aO rfl rfl (aO rfl rfl (wq (cA (.int _ _) rfl rfl rfl) rfl (aK 22 (.int .u64 ((R * e + f * f : Nat) : Int)) (iE (by rw [fZ]; omega)) ?_))))))
   refine wq (cA (.int _ _) rfl rfl rfl) rfl (aK 23 (.int .u64 ((n - (R + f) * (R + f) : Nat) : Int)) (iE (by rw [fZ]; omega)) (bC rfl rfl (aB (aC (aA (aO rfl rfl (wq (jH rfl rfl (by decide)) rfl ?_)))))))
   refine aK 25 (.int .u64 ((R * f : Nat) : Int)) (iE ((aXd (R * e)).trans (congrArg _ hf5))) (aO rfl rfl (wq (cA (.int _ _) rfl rfl rfl) rfl (aK 27 (.int .u64 (((R + f) * f : Nat) : Int)) (iE (by rw [fZ]; omega)) (bC rfl rfl (aB ?_)))))
   refine cO (aC (aA (wq (aY rfl rfl (by omega) (by omega)) rfl (aO rfl rfl (aB ?_)))))
   refine cD (i + 1, R + f, f) (bA rfl (bA rfl (bA rfl dX))) (cL rfl gO) ?_ ?_
   ·exact ⟨hfy h18', hM1⟩
   ·(show 32 - (i + 1) < 32 - i; omega)
  ·have h18' : ¬ (R * e + f * f ≤ n - R * R) := by omega
   refine aA (aO rfl rfl (wq (jH rfl rfl (by decide)) rfl (aK 29 (.int .u64 ((R * f : Nat) : Int)) (iE ((aXd (R * e)).trans (congrArg _ hf5))) (bC rfl rfl (aB ?_)))))
   refine cO (aC (aA (wq (aY rfl rfl (by omega) (by omega)) rfl (aO rfl rfl (aB ?_)))))
   refine cD (i + 1, R, f) (bA rfl (bA rfl (bA rfl dX))) (cL rfl gO) ?_ ?_
   ·exact ⟨hfn h18', hM1⟩
   ·(show 32 - (i + 1) < 32 - i; omega)
 ·obtain rfl : i = 32 := by omega
  refine cV (dD (dK (eO (aC (aE (aA (aO rfl rfl ?_)))))))
  refine bC rfl rfl (aB (aC (aP (cE (.int _ _) rfl ?_))))
  exact ⟨iE (by rw [bDv I]), hM1.below⟩
set_option maxHeartbeats 4000000 in
theorem sL (w : World) (a b : Int × Int) (ha : I32 a) (hb : I32 b) :
  Calls Tryz.prog 200 #[(.agg (cF a).toArray), (.agg (cF b).toArray)] w (fun ex w' => ∃ v, ex = .returned v ∧ (fun v w' => v = .tuple #[.int .i64 (b.1 - a.1), .int .i64 (b.2 - a.2)] ∧ Below w.heap.size w w') v w') := by
 have hax := ha.x
 have hay := ha.y
 have hbx := hb.x
 have hby := hb.y
 refine aI #[.tmp 4, .tmp 5] 20 Tryz.func200 rfl Tryz.results200 Tryz.ntmps200 rfl ?_
 have M0 := Mem.refl w
 refine aE (aA (bP (.agg (List.toArray _)) M0 rfl rfl rfl (fun b1 w1 M1 => (bP (.agg (List.toArray _)) M1 rfl rfl rfl (fun b2 w2 M2 => (bC rfl rfl (bC rfl rfl (aB (aC (aE ?_))))))))))
 refine bR [(0, 0), (1, 1), (2, 0), (3, 0), (4, 1), (5, 0), (6, 0), (7, 0), (8, 1), (9, 0), (10, 0), (11, 1), (12, 0), (13, 0), (14, 0), (15, 0)] mixed rfl (by kernel_rfl) (fun w3 hb3 hh3 => ?_)
 have M3 := M2.drew hb3 hh3
 refine aX rfl rfl rfl (fun _ => aD 0 cQ rfl) (bV rfl rfl rfl (aM 1 (.int _ _) aR M3 rfl rfl rfl) (aX rfl rfl rfl (fun _ => aZ dO Tryz.underlying2 rfl (fC _ (by omega) (by omega))) (aX rfl rfl rfl (fun _ => aD 0 cQ rfl) (bV rfl rfl rfl (aM 0 (.int _ _) aR M3 rfl rfl rfl) ?_))))
 refine aX rfl rfl rfl (fun _ => aZ dO Tryz.underlying2 rfl (fC _ (by omega) (by omega))) (aX rfl rfl rfl (fun _ => fX rfl rfl (by omega) (by omega)) (aX rfl rfl rfl (fun _ => aD 1 cK rfl) (bV rfl rfl rfl (aM 1 (.int _ _) aR M3 rfl rfl rfl) (aX rfl rfl rfl (fun _ => aZ dO Tryz.underlying2 rfl (fC _ (by omega) (by omega))) ?_))))
 refine aX rfl rfl rfl (fun _ => aD 1 cK rfl) (bV rfl rfl rfl (aM 0 (.int _ _) aR M3 rfl rfl rfl) (aX rfl rfl rfl (fun _ => aZ dO Tryz.underlying2 rfl (fC _ (by omega) (by omega))) (aX rfl rfl rfl (fun _ => fX rfl rfl (by omega) (by omega)) (lM rfl rfl rfl (lM rfl rfl rfl ?_)))))
 refine bY (aC (aP (gA (.int _ _) (.int _ _) rfl rfl ?_)))
 exact ⟨rfl, M3.below⟩
set_option maxHeartbeats 4000000 in
theorem aBc (w : World) (n : Int) (hn : tW n) :
  Calls Tryz.prog 201 #[.int .i64 n] w (fun ex w' => ∃ v, ex = .returned v ∧ (fun v w' => v = .int .u64 ((n.natAbs * n.natAbs : Nat) : Int) ∧ Below w.heap.size w w') v w') := by
 have hlt := (qY hn hn).2.1
 unfold tW at hn
 refine aI #[.tmp 2] 12 Tryz.func201 rfl Tryz.results201 Tryz.ntmps201 rfl ?_
 have M0 := Mem.refl w
 refine aE (aA (bC rfl rfl (aB (aC (aE (aE (aA (aO rfl rfl (cX rfl rfl rfl rfl (aB (aC ?_)))))))))))
 refine aS rfl (fun h4 => ?_) (fun h4 => ?_)
 ·refine aA (aO rfl rfl (wq (pN rfl) rfl (aK 6 (.int .i64 (-n)) (iE (fC _ (by omega) (by omega))) (bC rfl rfl (aB (aC (aE (aA ?_))))))))
  refine aO rfl rfl (wq (dA lK Tryz.underlying170 rfl) rfl (aK 8 (.int .u64 ((n.natAbs : Nat) : Int)) (iE (by rw [fZ]; omega)) (aO rfl rfl (wq (dA lK Tryz.underlying170 rfl) rfl (aK 10 (.int .u64 ((n.natAbs : Nat) : Int)) (iE (by rw [fZ]; omega)) ?_)))))
  refine wq (cA (.int _ _) rfl rfl rfl) rfl (aK 11 (.int .u64 ((n.natAbs * n.natAbs : Nat) : Int)) (iE (kL _ _ (by omega))) (bC rfl rfl (aB (aC (aP (cE (.int _ _) rfl ?_))))))
  exact ⟨rfl, M0.below⟩
 ·refine aL (aC (aE (aA (aO rfl rfl (wq (dA lK Tryz.underlying170 rfl) rfl (aK 8 (.int .u64 ((n.natAbs : Nat) : Int)) (iE (by rw [fZ]; omega)) (aO rfl rfl (wq (dA lK Tryz.underlying170 rfl) rfl ?_))))))))
  refine aK 10 (.int .u64 ((n.natAbs : Nat) : Int)) (iE (by rw [fZ]; omega)) (wq (cA (.int _ _) rfl rfl rfl) rfl (aK 11 (.int .u64 ((n.natAbs * n.natAbs : Nat) : Int)) (iE (kL _ _ (by omega))) (bC rfl rfl (aB (aC (aP (cE (.int _ _) rfl ?_)))))))
  exact ⟨rfl, M0.below⟩
set_option maxHeartbeats 4000000 in
theorem qR (w : World) (dx dy : Int) (hx : tW dx) (hy : tW dy) :
  Calls Tryz.prog 173 #[.int .i64 dx, .int .i64 dy] w (fun ex w' => ∃ v, ex = .returned v ∧ (fun v w' => v = .int .u64 ((pL dx dy : Nat) : Int) ∧ Below w.heap.size w w') v w') := by
 have hl := qY hx hy
 refine aI #[.tmp 4] 10 Tryz.func173 rfl Tryz.results173 Tryz.ntmps173 rfl ?_
 have M0 := Mem.refl w
 refine aE (aA (bC rfl rfl (aB (aC (aE (aA (aO rfl rfl (bZ bAh rfl rfl (aBc _ dx hx) ?_))))))))
 rintro v1 w1 ⟨rfl, hb1⟩
 have M1 := M0.callB hb1
 refine aO rfl rfl (bZ bAh rfl rfl (aBc _ dy hy) ?_)
 rintro v2 w2 ⟨rfl, hb2⟩
 have M2 := M1.callB hb2
 refine wq (cA (.int _ _) rfl rfl rfl) rfl (aK 9 (.int .u64 ((pL dx dy : Nat) : Int)) (iE (by rw [fZ]; unfold pL at *; omega)) (bC rfl rfl (aB (aC (aP (cE (.int _ _) rfl ?_))))))
 exact ⟨rfl, M2.below⟩
set_option maxHeartbeats 4000000 in
theorem aCa (w : World) (dx dy : Int) (hx : tW dx) (hy : tW dy) :
  Calls Tryz.prog 175 #[.int .i64 dx, .int .i64 dy] w (fun ex w' => ∃ v, ex = .returned v ∧ (fun v w' => v = .int .i64 (len dx dy) ∧ Below w.heap.size w w') v w') := by
 have hl := vC hx hy
 refine aI #[.tmp 4] 10 Tryz.func175 rfl Tryz.results175 Tryz.ntmps175 rfl ?_
 have M0 := Mem.refl w
 refine aE (aA (bC rfl rfl (aB (aC (aE (aA (aO rfl rfl (aO rfl rfl (bZ aPr rfl rfl (qR _ dx dy hx hy) ?_)))))))))
 rintro v1 w1 ⟨rfl, hb1⟩
 have M1 := M0.callB hb1
 refine bZ bHf rfl rfl (bLb _ (pL dx dy) (qY hx hy).1) ?_
 rintro v2 w2 ⟨rfl, hb2⟩
 have M2 := M1.callB hb2
 refine wq (dA uI Tryz.underlying2 rfl) rfl (aK 9 (.int .i64 (len dx dy)) (iE (fC (len dx dy) (by omega) (by omega))) (bC rfl rfl (aB (aC (aP (cE (.int _ _) rfl ?_))))))
 exact ⟨rfl, M2.below⟩
set_option maxHeartbeats 4000000 in
theorem aGd (w : World) (a b : Int) (hb : 0 < b) (h0 : -1000000000000000000 ≤ a) (h1 : a ≤ 1000000000000000000) :
  Calls Tryz.prog 202 #[.int .i64 a, .int .i64 b] w (fun ex w' => ∃ v, ex = .returned v ∧ (fun v w' => v = .int .i64 (a / b) ∧ Below w.heap.size w w') v w') := by
 have hf := yX (a := a) hb
 have hb1 := aDo a b
 refine aI #[.tmp 4] 16 Tryz.func202 rfl Tryz.results202 Tryz.ntmps202 rfl ?_
 have M0 := Mem.refl w
 refine aE (aA (bC rfl rfl (aB (aC (aE (aA (aO rfl rfl (aO rfl rfl (wq (fY rfl rfl (by omega)) rfl ?_)))))))))
 refine aK 8 (.int .i64 (a.tdiv b)) (iE (fC _ (by omega) (by omega))) (bC rfl rfl (aB (aC (aE (aE (aA (aO rfl rfl (aO rfl rfl (wq (iM rfl rfl (by omega)) rfl ?_)))))))))
 refine cX rfl rfl rfl rfl (aB (aC ?_))
 refine aS rfl (fun h12 => ?_) (fun h12 => ?_)
 ·refine aA (aO rfl rfl (wq (fX rfl rfl (by omega) (by omega)) rfl (bC rfl rfl (aB (aC (aE (aA (aO rfl rfl ?_))))))))
  refine bC rfl rfl (aB (aC (aP (cE (.int _ _) rfl ?_))))
  exact ⟨iE (by first | exact hf.1 (by omega) | exact hf.2 (by omega)), M0.below⟩
 ·refine aL (aC (aE (aA (aO rfl rfl (bC rfl rfl (aB (aC (aP (cE (.int _ _) rfl ?_)))))))))
  exact ⟨iE (by first | exact hf.1 (by omega) | exact hf.2 (by omega)), M0.below⟩
set_option maxHeartbeats 4000000 in
theorem aZm (w : World) (dx dy : Int) (hx : tW dx) (hy : tW dy) :
  Calls Tryz.prog 174 #[.int .i64 dx, .int .i64 dy] w (fun ex w' => ∃ v, ex = .returned v ∧ (fun v w' => v = (.agg (cF (oG dx dy)).toArray) ∧ Below w.heap.size w w') v w') := by
 have hl := vC hx hy
 have hxx := hx
 have hyy := hy
 unfold tW at hxx hyy
 refine aI #[.cell 4 38] 23 Tryz.func174 rfl Tryz.results174 Tryz.ntmps174 rfl ?_
 have M0 := Mem.refl w
 refine aE (aA (aV gY M0 rfl rfl (fun b1 w1 M1 => (aB (aC (aE (aA (aO rfl rfl (aO rfl rfl (bZ aWs rfl rfl (aCa _ dx dy hx hy) ?_))))))))))
 rintro v2 w2 ⟨rfl, hb2⟩
 have M2 := M1.callB hb2
 refine bC rfl rfl (aB (aC (aE (aE (aA (aO rfl rfl (cX rfl rfl rfl rfl (aB (aC ?_)))))))))
 refine aS rfl (fun h10 => ?_) (fun h10 => ?_)
 ·refine aE (aA (wq (cP [(0, .int _ _)] _ eG rfl rfl) rfl (bG 0 _ bI M2 rfl rfl rfl rfl rfl (aT rfl) rfl (fun w3 M3 => (aB (aC (aP (cH (eX 0 bI M3 rfl rfl rfl ?_)))))))))
  exact ⟨by unfold oG; first | (rw [if_pos (by omega)]; rfl) | (rw [if_neg (by omega)]; rfl), M3.below⟩
 ·refine aL (aC (aE (aA (aO rfl rfl (wq (vH rfl rfl (by decide)) rfl (aK 13 (.int .i64 (dx * 65536)) (iE (aGw dx hx)) (aO rfl rfl (bZ aXe rfl rfl (aGd _ (dx * 65536) (len dx dy) (by omega) (by omega) (by omega)) ?_))))))))
  rintro v4 w4 ⟨rfl, hb4⟩
  have M4 := M2.callB hb4
  refine wq (dA lK Tryz.underlying21 rfl) rfl (aO rfl rfl (wq (vH rfl rfl (by decide)) rfl (aK 18 (.int .i64 (dy * 65536)) (iE (aGw dy hy)) (aO rfl rfl (bZ aXe rfl rfl (aGd _ (dy * 65536) (len dx dy) (by omega) (by omega) (by omega)) ?_)))))
  rintro v5 w5 ⟨rfl, hb5⟩
  have M5 := M4.callB hb5
  refine wq (dA lK Tryz.underlying21 rfl) rfl (wq (cP [(0, .int _ _), (1, .int _ _)] _ eG rfl rfl) rfl (bG 0 _ bI M5 rfl rfl rfl rfl rfl (aT rfl) rfl (fun w6 M6 => (aB (aC (aP (eX 0 bI M6 rfl rfl rfl ?_)))))))
  exact ⟨by unfold oG; first | (rw [if_pos (by omega)]; rfl) | (rw [if_neg (by omega)]; rfl), M6.below⟩
set_option maxHeartbeats 4000000 in
theorem eT (w : World) (a b : Int) (hb : 0 < b) (h0 : -1000000000000000000 ≤ a) (h1 : a ≤ 1000000000000000000) :
  Calls Tryz.prog 78 #[.int .i64 a, .int .i64 b] w (fun ex w' => ∃ v, ex = .returned v ∧ (fun v w' => v = .int .i64 (a / b) ∧ Below w.heap.size w w') v w') := by
 have hf := yX (a := a) hb
 have hb1 := aDo a b
 refine aI #[.tmp 4] 16 Tryz.func78 rfl Tryz.results78 Tryz.ntmps78 rfl ?_
 have M0 := Mem.refl w
 refine aE (aA (bC rfl rfl (aB (aC (aE (aA (aO rfl rfl (aO rfl rfl (wq (fY rfl rfl (by omega)) rfl ?_)))))))))
 refine aK 8 (.int .i64 (a.tdiv b)) (iE (fC _ (by omega) (by omega))) (bC rfl rfl (aB (aC (aE (aE (aA (aO rfl rfl (aO rfl rfl (wq (iM rfl rfl (by omega)) rfl ?_)))))))))
 refine cX rfl rfl rfl rfl (aB (aC ?_))
 refine aS rfl (fun h12 => ?_) (fun h12 => ?_)
 ·refine aE (aA (aO rfl rfl (wq (fX rfl rfl (by omega) (by omega)) rfl (bC rfl rfl (aB (aC (aP (cH (cE (.int _ _) rfl ?_)))))))))
  exact ⟨iE (by first | exact hf.1 (by omega) | exact hf.2 (by omega)), M0.below⟩
 ·refine aL (aC (aE (aA (aO rfl rfl (bC rfl rfl (aB (aC (aP (cE (.int _ _) rfl ?_)))))))))
  exact ⟨iE (by first | exact hf.1 (by omega) | exact hf.2 (by omega)), M0.below⟩
set_option maxHeartbeats 8000000 in
theorem aKl (w : World) (n : Nat) (hn : n < 18446744073709551616) :
  Calls Tryz.prog 147 #[.int .u64 (n : Int)] w (fun ex w' => ∃ v, ex = .returned v ∧ (fun v w' => v = .int .u64 ((uA n : Nat) : Int) ∧ Below w.heap.size w w') v w') := by
 have hin := aWy hn
 refine aI #[.tmp 2] 23 Tryz.func147 rfl Tryz.results147 Tryz.ntmps147 rfl ?_
 have M0 := Mem.refl w
 refine aE (aA (bC rfl rfl (aB (aC (aE (aA (bC rfl rfl (aB (aC (aE (aA (bC rfl rfl ?_))))))))))))
 refine aB (aC (aE (aQ (dQ (σ := Nat × Nat) [0, 2] (fun (lo, hi) => [(3, .int .u64 (lo : Int)), (4, .int .u64 (hi : Int))]) (fun (lo, hi) w' => (lo ≤ uA n ∧ uA n ≤ hi ∧ hi ≤ 4294967295) ∧ Mem w [] [] w') (fun (lo, hi) => hi - lo) (0, 4294967295) (bA rfl (bA rfl dX)) (⟨⟨by omega, by omega, by omega⟩, M0⟩) ?_))))
 rintro ⟨lo, hi⟩ ρ1 w1 ⟨⟨hlo, hhi, hh⟩, hM1⟩
 refine aE (aE (aA (aO rfl rfl (aO rfl rfl (cX rfl rfl rfl rfl (aB (aC ?_)))))))
 refine aS rfl (fun h8 => ?_) (fun h8 => ?_)
 ·obtain ⟨m, hm⟩ : ∃ m, m = (lo + hi + 1) / 2 := ⟨_, rfl⟩
  have hmm := bBq (n := n) (m := m)
  have hm2 : m * m ≤ 4294967295 * 4294967295 := Nat.mul_le_mul (by omega) (by omega)
  refine aL (aC (aQ (aE (aA (aO rfl rfl (aO rfl rfl (wq (cA (.int _ _) rfl rfl rfl) rfl (aK 11 (.int .u64 ((lo + hi : Nat) : Int)) (iE (by rw [fZ]; omega)) (wq (cA (.int _ _) rfl rfl rfl) rfl ?_)))))))))
  refine aK 12 (.int .u64 ((lo + hi + 1 : Nat) : Int)) (iE (by rw [fZ]; omega)) (wq (fY rfl rfl (by decide)) rfl (aK 13 (.int .u64 (m : Int)) (iE ((iJ (lo + hi + 1) 2 (by omega)).trans (congrArg _ hm.symm))) (bC rfl rfl (aB (aC (aE (aA (aO rfl rfl ?_))))))))
  refine aO rfl rfl (wq (cA (.int _ _) rfl rfl rfl) rfl (aK 16 (.int .u64 ((m * m : Nat) : Int)) (iE (kL m m (by omega))) (aO rfl rfl (cX rfl rfl rfl rfl (aB (aC ?_))))))
  refine aS rfl (fun h18 => ?_) (fun h18 => ?_)
  ·refine aA (aO rfl rfl (bC rfl rfl (aB (cO ?_))))
   refine cD (m, hi) (bA rfl (bA rfl dX)) (cL rfl (cL rfl gO)) ?_ ?_
   ·exact ⟨⟨hmm.1 (by omega), by omega, by omega⟩, hM1⟩
   ·(show hi - m < hi - lo; omega)
  ·refine aA (aO rfl rfl (wq (cA (.int _ _) rfl rfl rfl) rfl (aK 21 (.int .u64 ((m - 1 : Nat) : Int)) (iE (by rw [fZ]; omega)) (bC rfl rfl (aB ?_)))))
   refine cO ?_
   refine cD (lo, m - 1) (bA rfl (bA rfl dX)) (cL rfl (cL rfl gO)) ?_ ?_
   ·exact ⟨⟨by omega, by have := hmm.2 (by omega); omega, by omega⟩, hM1⟩
   ·(show m - 1 - lo < hi - lo; omega)
 ·refine cV (dD (dK (eO (aC (aE (aA (aO rfl rfl ?_)))))))
  refine bC rfl rfl (aB (aC (aP (cE (.int _ _) rfl ?_))))
  exact ⟨iE (by omega), hM1.below⟩
set_option maxHeartbeats 4000000 in
theorem rX (w : World) (dx dy : Int) (hx : tW dx) (hy : tW dy) :
  Calls Tryz.prog 146 #[.int .i64 dx, .int .i64 dy] w (fun ex w' => ∃ v, ex = .returned v ∧ (fun v w' => v = .int .u64 ((pL dx dy : Nat) : Int) ∧ Below w.heap.size w w') v w') := by
 have hl := qY hx hy
 unfold tW at hx hy
 refine aI #[.tmp 4] 24 Tryz.func146 rfl Tryz.results146 Tryz.ntmps146 rfl ?_
 have M0 := Mem.refl w
 refine aE (aA (bC rfl rfl (aB (aC (aE (aE (aA (aO rfl rfl (cX rfl rfl rfl rfl (aB (aC ?_)))))))))))
 refine aS rfl (fun h6 => ?_) (fun h6 => ?_)
 ·refine aA (aO rfl rfl (wq (pN rfl) rfl (aK 8 (.int .i64 (-dx)) (iE (fC _ (by omega) (by omega))) (bC rfl rfl (aB (aC (aE (aE (aA ?_)))))))))
  refine aO rfl rfl (cX rfl rfl rfl rfl (aB (aC ?_)))
  refine aS rfl (fun h10 => ?_) (fun h10 => ?_)
  ·refine aA (aO rfl rfl (wq (pN rfl) rfl (aK 12 (.int .i64 (-dy)) (iE (fC _ (by omega) (by omega))) (bC rfl rfl (aB (aC (aE (aA ?_))))))))
   refine aO rfl rfl (wq (dA lK Tryz.underlying170 rfl) rfl (aK 14 (.int .u64 ((dx.natAbs : Nat) : Int)) (iE (by rw [fZ]; omega)) (aO rfl rfl (wq (dA lK Tryz.underlying170 rfl) rfl (aK 16 (.int .u64 ((dx.natAbs : Nat) : Int)) (iE (by rw [fZ]; omega)) ?_)))))
   refine wq (cA (.int _ _) rfl rfl rfl) rfl (aK 17 (.int .u64 ((dx.natAbs * dx.natAbs : Nat) : Int)) (iE (kL _ _ (by omega))) (aO rfl rfl (wq (dA lK Tryz.underlying170 rfl) rfl (aK 19 (.int .u64 ((dy.natAbs : Nat) : Int)) (iE (by rw [fZ]; omega)) (aO rfl rfl ?_)))))
   refine wq (dA lK Tryz.underlying170 rfl) rfl (aK 21 (.int .u64 ((dy.natAbs : Nat) : Int)) (iE (by rw [fZ]; omega)) (wq (cA (.int _ _) rfl rfl rfl) rfl (aK 22 (.int .u64 ((dy.natAbs * dy.natAbs : Nat) : Int)) (iE (kL _ _ (by omega))) (wq (cA (.int _ _) rfl rfl rfl) rfl (aK 23 (.int .u64 ((pL dx dy : Nat) : Int)) (iE (by rw [fZ]; unfold pL at *; omega)) ?_)))))
   refine bC rfl rfl (aB (aC (aP (cE (.int _ _) rfl ?_))))
   exact ⟨rfl, M0.below⟩
  ·refine aL (aC (aE (aA (aO rfl rfl (wq (dA lK Tryz.underlying170 rfl) rfl (aK 14 (.int .u64 ((dx.natAbs : Nat) : Int)) (iE (by rw [fZ]; omega)) (aO rfl rfl (wq (dA lK Tryz.underlying170 rfl) rfl ?_))))))))
   refine aK 16 (.int .u64 ((dx.natAbs : Nat) : Int)) (iE (by rw [fZ]; omega)) (wq (cA (.int _ _) rfl rfl rfl) rfl (aK 17 (.int .u64 ((dx.natAbs * dx.natAbs : Nat) : Int)) (iE (kL _ _ (by omega))) (aO rfl rfl (wq (dA lK Tryz.underlying170 rfl) rfl (aK 19 (.int .u64 ((dy.natAbs : Nat) : Int)) (iE (by rw [fZ]; omega)) ?_)))))
   refine aO rfl rfl (wq (dA lK Tryz.underlying170 rfl) rfl (aK 21 (.int .u64 ((dy.natAbs : Nat) : Int)) (iE (by rw [fZ]; omega)) (wq (cA (.int _ _) rfl rfl rfl) rfl (aK 22 (.int .u64 ((dy.natAbs * dy.natAbs : Nat) : Int)) (iE (kL _ _ (by omega))) (wq (cA (.int _ _) rfl rfl rfl) rfl ?_)))))
   refine aK 23 (.int .u64 ((pL dx dy : Nat) : Int)) (iE (by rw [fZ]; unfold pL at *; omega)) (bC rfl rfl (aB (aC (aP (cE (.int _ _) rfl ?_)))))
   exact ⟨rfl, M0.below⟩
 ·refine aL (aC (aE (aE (aA (aO rfl rfl (cX rfl rfl rfl rfl (aB (aC ?_))))))))
  refine aS rfl (fun h10 => ?_) (fun h10 => ?_)
  ·refine aA (aO rfl rfl (wq (pN rfl) rfl (aK 12 (.int .i64 (-dy)) (iE (fC _ (by omega) (by omega))) (bC rfl rfl (aB (aC (aE (aA ?_))))))))
   refine aO rfl rfl (wq (dA lK Tryz.underlying170 rfl) rfl (aK 14 (.int .u64 ((dx.natAbs : Nat) : Int)) (iE (by rw [fZ]; omega)) (aO rfl rfl (wq (dA lK Tryz.underlying170 rfl) rfl (aK 16 (.int .u64 ((dx.natAbs : Nat) : Int)) (iE (by rw [fZ]; omega)) ?_)))))
   refine wq (cA (.int _ _) rfl rfl rfl) rfl (aK 17 (.int .u64 ((dx.natAbs * dx.natAbs : Nat) : Int)) (iE (kL _ _ (by omega))) (aO rfl rfl (wq (dA lK Tryz.underlying170 rfl) rfl (aK 19 (.int .u64 ((dy.natAbs : Nat) : Int)) (iE (by rw [fZ]; omega)) (aO rfl rfl ?_)))))
   refine wq (dA lK Tryz.underlying170 rfl) rfl (aK 21 (.int .u64 ((dy.natAbs : Nat) : Int)) (iE (by rw [fZ]; omega)) (wq (cA (.int _ _) rfl rfl rfl) rfl (aK 22 (.int .u64 ((dy.natAbs * dy.natAbs : Nat) : Int)) (iE (kL _ _ (by omega))) (wq (cA (.int _ _) rfl rfl rfl) rfl (aK 23 (.int .u64 ((pL dx dy : Nat) : Int)) (iE (by rw [fZ]; unfold pL at *; omega)) ?_)))))
   refine bC rfl rfl (aB (aC (aP (cE (.int _ _) rfl ?_))))
   exact ⟨rfl, M0.below⟩
  ·refine aL (aC (aE (aA (aO rfl rfl (wq (dA lK Tryz.underlying170 rfl) rfl (aK 14 (.int .u64 ((dx.natAbs : Nat) : Int)) (iE (by rw [fZ]; omega)) (aO rfl rfl (wq (dA lK Tryz.underlying170 rfl) rfl ?_))))))))
   refine aK 16 (.int .u64 ((dx.natAbs : Nat) : Int)) (iE (by rw [fZ]; omega)) (wq (cA (.int _ _) rfl rfl rfl) rfl (aK 17 (.int .u64 ((dx.natAbs * dx.natAbs : Nat) : Int)) (iE (kL _ _ (by omega))) (aO rfl rfl (wq (dA lK Tryz.underlying170 rfl) rfl (aK 19 (.int .u64 ((dy.natAbs : Nat) : Int)) (iE (by rw [fZ]; omega)) ?_)))))
   refine aO rfl rfl (wq (dA lK Tryz.underlying170 rfl) rfl (aK 21 (.int .u64 ((dy.natAbs : Nat) : Int)) (iE (by rw [fZ]; omega)) (wq (cA (.int _ _) rfl rfl rfl) rfl (aK 22 (.int .u64 ((dy.natAbs * dy.natAbs : Nat) : Int)) (iE (kL _ _ (by omega))) (wq (cA (.int _ _) rfl rfl rfl) rfl ?_)))))
   refine aK 23 (.int .u64 ((pL dx dy : Nat) : Int)) (iE (by rw [fZ]; unfold pL at *; omega)) (bC rfl rfl (aB (aC (aP (cE (.int _ _) rfl ?_)))))
   exact ⟨rfl, M0.below⟩
set_option maxHeartbeats 4000000 in
theorem qN (w : World) (dx dy : Int) (hx : tW dx) (hy : tW dy) :
  Calls Tryz.prog 115 #[.int .i64 dx, .int .i64 dy] w (fun ex w' => ∃ v, ex = .returned v ∧ (fun v w' => v = .int .i64 (len dx dy) ∧ Below w.heap.size w w') v w') := by
 have hl := vC hx hy
 refine aI #[.tmp 4] 10 Tryz.func115 rfl Tryz.results115 Tryz.ntmps115 rfl ?_
 have M0 := Mem.refl w
 refine aE (aA (bC rfl rfl (aB (aC (aE (aA (aO rfl rfl (aO rfl rfl (bZ aZq rfl rfl (rX _ dx dy hx hy) ?_)))))))))
 rintro v1 w1 ⟨rfl, hb1⟩
 have M1 := M0.callB hb1
 refine bZ bGy rfl rfl (aKl _ (pL dx dy) (qY hx hy).1) ?_
 rintro v2 w2 ⟨rfl, hb2⟩
 have M2 := M1.callB hb2
 refine wq (dA uI Tryz.underlying2 rfl) rfl (aK 9 (.int .i64 (len dx dy)) (iE (fC (len dx dy) (by omega) (by omega))) (bC rfl rfl (aB (aC (aP (cE (.int _ _) rfl ?_))))))
 exact ⟨rfl, M2.below⟩
set_option maxHeartbeats 4000000 in
theorem aNw (w : World) (dx dy : Int) (hx : tW dx) (hy : tW dy) :
  Calls Tryz.prog 114 #[.int .i64 dx, .int .i64 dy] w (fun ex w' => ∃ v, ex = .returned v ∧ (fun v w' => v = (.agg (cF (oG dx dy)).toArray) ∧ Below w.heap.size w w') v w') := by
 have hl := vC hx hy
 have hxx := hx
 have hyy := hy
 unfold tW at hxx hyy
 have hl0 := aXp dx dy
 refine aI #[.cell 4 38] 27 Tryz.func114 rfl Tryz.results114 Tryz.ntmps114 rfl ?_
 have M0 := Mem.refl w
 refine aE (aA (aV gY M0 rfl rfl (fun b1 w1 M1 => (aB (aC (aE (aE (aA (aO rfl rfl (cX rfl rfl rfl rfl (wq (aH (.bool (decide _)) rfl) rfl ?_)))))))))))
 refine dI 8 rfl (fun g8 => ?_) (fun g8 => ?_)
 ·refine aO rfl rfl (cX rfl rfl rfl rfl (wq (bM true (.bool (decide _)) rfl rfl) rfl (aB (aC ?_))))
  refine aS rfl (fun h11 => ?_) (fun h11 => ?_)
  ·refine aE (aA (wq (cP [(0, .int _ _)] _ eG rfl rfl) rfl (bG 0 _ bI M1 rfl rfl rfl rfl rfl (aT rfl) rfl (fun w2 M2 => (aB (aC (aP (cH (eX 0 bI M2 rfl rfl rfl ?_)))))))))
   exact ⟨by unfold oG; first | (rw [if_pos (by omega)]; rfl) | (rw [if_neg (by omega)]; rfl), M2.below⟩
  ·refine aL (aC (aE (aA (aO rfl rfl (aO rfl rfl (bZ aPq rfl rfl (qN _ dx dy hx hy) ?_))))))
   rintro v3 w3 ⟨rfl, hb3⟩
   have M3 := M1.callB hb3
   refine bC rfl rfl (aB (aC (aE (aA (aO rfl rfl (wq (eS rfl rfl (by omega) (by omega)) rfl (aO rfl rfl (bZ nH rfl rfl (eT _ (dx * 65536) (len dx dy) (by omega) (by omega) (by omega)) ?_))))))))
   rintro v4 w4 ⟨rfl, hb4⟩
   have M4 := M3.callB hb4
   refine wq (dA lK Tryz.underlying21 rfl) rfl (aO rfl rfl (wq (eS rfl rfl (by omega) (by omega)) rfl (aO rfl rfl (bZ nH rfl rfl (eT _ (dy * 65536) (len dx dy) (by omega) (by omega) (by omega)) ?_))))
   rintro v5 w5 ⟨rfl, hb5⟩
   have M5 := M4.callB hb5
   refine wq (dA lK Tryz.underlying21 rfl) rfl (wq (cP [(0, .int _ _), (1, .int _ _)] _ eG rfl rfl) rfl (bG 0 _ bI M5 rfl rfl rfl rfl rfl (aT rfl) rfl (fun w6 M6 => (aB (aC (aP (eX 0 bI M6 rfl rfl rfl ?_)))))))
   exact ⟨by unfold oG; first | (rw [if_pos (by omega)]; rfl) | (rw [if_neg (by omega)]; rfl), M6.below⟩
 ·refine aN rfl rfl (aN rfl rfl (wq (bM false (.bool false) rfl rfl) rfl (aB (aC (cM rfl (aL (aC (aE (aA ?_)))))))))
  refine aO rfl rfl (aO rfl rfl (bZ aPq rfl rfl (qN _ dx dy hx hy) ?_))
  rintro v7 w7 ⟨rfl, hb7⟩
  have M7 := M1.callB hb7
  refine bC rfl rfl (aB (aC (aE (aA (aO rfl rfl (wq (eS rfl rfl (by omega) (by omega)) rfl (aO rfl rfl (bZ nH rfl rfl (eT _ (dx * 65536) (len dx dy) (by omega) (by omega) (by omega)) ?_))))))))
  rintro v8 w8 ⟨rfl, hb8⟩
  have M8 := M7.callB hb8
  refine wq (dA lK Tryz.underlying21 rfl) rfl (aO rfl rfl (wq (eS rfl rfl (by omega) (by omega)) rfl (aO rfl rfl (bZ nH rfl rfl (eT _ (dy * 65536) (len dx dy) (by omega) (by omega) (by omega)) ?_))))
  rintro v9 w9 ⟨rfl, hb9⟩
  have M9 := M8.callB hb9
  refine wq (dA lK Tryz.underlying21 rfl) rfl (wq (cP [(0, .int _ _), (1, .int _ _)] _ eG rfl rfl) rfl (bG 0 _ bI M9 rfl rfl rfl rfl rfl (aT rfl) rfl (fun w10 M10 => (aB (aC (aP (eX 0 bI M10 rfl rfl rfl ?_)))))))
  exact ⟨by unfold oG; first | (rw [if_pos (by omega)]; rfl) | (rw [if_neg (by omega)]; rfl), M10.below⟩
set_option maxHeartbeats 4000000 in
theorem zF (w : World) (b : Body) (hb : Okb b) :
  Calls Tryz.prog 144 #[(.agg (aF b).toArray)] w (fun ex w' => ∃ v, ex = .returned v ∧ (fun v w' => v = (.agg (cF (yG b)).toArray) ∧ Below w.heap.size w w') v w') := by
 have ha := hb.a
 have hp := hb.p
 refine aI #[.cell 2 38] 18 Tryz.func144 rfl Tryz.results144 Tryz.ntmps144 rfl ?_
 have M0 := Mem.refl w
 refine aE (aA (bP (.agg (List.toArray _)) M0 rfl rfl rfl (fun b1 w1 M1 => (aV gY M1 rfl rfl (fun b2 w2 M2 => (aB (aC (aE (aA (wq (aD 6 fD rfl) rfl (wq (aD 0 cQ rfl) rfl ?_)))))))))))
 refine wq (aM 0 (.int _ _) aR M2 rfl rfl rfl) rfl (wq (aD 2 iH rfl) rfl (wq (aD 0 cQ rfl) rfl (wq (aM 0 (.int _ _) aR M2 rfl rfl rfl) rfl (wq (mB rfl rfl (iP _ (by omega) (by omega))) rfl (wq (aD 6 fD rfl) rfl ?_)))))
 refine wq (aD 1 cK rfl) rfl (wq (aM 0 (.int _ _) aR M2 rfl rfl rfl) rfl (wq (aD 2 iH rfl) rfl (wq (aD 1 cK rfl) rfl (wq (aM 0 (.int _ _) aR M2 rfl rfl rfl) rfl (wq (mB rfl rfl (iP _ (by omega) (by omega))) rfl ?_)))))
 refine wq (cP [(0, .int _ _), (1, .int _ _)] _ eG rfl rfl) rfl (bG 1 _ bI M2 rfl rfl rfl rfl rfl (aT rfl) rfl (fun w3 M3 => (aB (aC (aP (eX 1 bI M3 rfl rfl rfl ?_))))))
 exact ⟨rfl, M3.below⟩
set_option maxHeartbeats 4000000 in
theorem vQ (w : World) (b : Body) (hb : Okb b) :
  Calls Tryz.prog 145 #[(.agg (aF b).toArray)] w (fun ex w' => ∃ v, ex = .returned v ∧ (fun v w' => v = (.agg (cF (xR b)).toArray) ∧ Below w.heap.size w w') v w') := by
 have ha := hb.a
 have hp := hb.p
 refine aI #[.cell 2 38] 18 Tryz.func145 rfl Tryz.results145 Tryz.ntmps145 rfl ?_
 have M0 := Mem.refl w
 refine aE (aA (bP (.agg (List.toArray _)) M0 rfl rfl rfl (fun b1 w1 M1 => (aV gY M1 rfl rfl (fun b2 w2 M2 => (aB (aC (aE (aA (wq (aD 6 fD rfl) rfl (wq (aD 0 cQ rfl) rfl ?_)))))))))))
 refine wq (aM 0 (.int _ _) aR M2 rfl rfl rfl) rfl (wq (aD 2 iH rfl) rfl (wq (aD 0 cQ rfl) rfl (wq (aM 0 (.int _ _) aR M2 rfl rfl rfl) rfl (wq (iO rfl rfl (iP _ (by omega) (by omega))) rfl (wq (aD 6 fD rfl) rfl ?_)))))
 refine wq (aD 1 cK rfl) rfl (wq (aM 0 (.int _ _) aR M2 rfl rfl rfl) rfl (wq (aD 2 iH rfl) rfl (wq (aD 1 cK rfl) rfl (wq (aM 0 (.int _ _) aR M2 rfl rfl rfl) rfl (wq (iO rfl rfl (iP _ (by omega) (by omega))) rfl ?_)))))
 refine wq (cP [(0, .int _ _), (1, .int _ _)] _ eG rfl rfl) rfl (bG 1 _ bI M2 rfl rfl rfl rfl rfl (aT rfl) rfl (fun w3 M3 => (aB (aC (aP (eX 1 bI M3 rfl rfl rfl ?_))))))
 exact ⟨rfl, M3.below⟩
set_option maxHeartbeats 4000000 in
theorem aSb (w : World) (b : Body) (hb : Okb b) :
  Calls Tryz.prog 220 #[(.agg (aF b).toArray)] w (fun ex w' => ∃ v, ex = .returned v ∧ (fun v w' => v = .tuple #[(.agg (cF (yG b)).toArray), (.agg (cF (xR b)).toArray)] ∧ Below w.heap.size w w') v w') := by
 have ha := hb.a
 have hp := hb.p
 refine aI #[.cell 2 38, .cell 3 38] 36 Tryz.func220 rfl Tryz.results220 Tryz.ntmps220 rfl ?_
 have M0 := Mem.refl w
 refine aE (aA (bP (.agg (List.toArray _)) M0 rfl rfl rfl (fun b1 w1 M1 => (aV gY M1 rfl rfl (fun b2 w2 M2 => (aV gY M2 rfl rfl (fun b3 w3 M3 => (aB (aC (aE (aA (wq (aD 6 fD rfl) rfl ?_))))))))))))
 refine wq (aD 0 cQ rfl) rfl (wq (aM 0 (.int _ _) aR M3 rfl rfl rfl) rfl (wq (aD 2 iH rfl) rfl (wq (aD 0 cQ rfl) rfl (wq (aM 0 (.int _ _) aR M3 rfl rfl rfl) rfl (wq (mB rfl rfl (iP _ (by omega) (by omega))) rfl ?_)))))
 refine wq (aD 6 fD rfl) rfl (wq (aD 1 cK rfl) rfl (wq (aM 0 (.int _ _) aR M3 rfl rfl rfl) rfl (wq (aD 2 iH rfl) rfl (wq (aD 1 cK rfl) rfl (wq (aM 0 (.int _ _) aR M3 rfl rfl rfl) rfl ?_)))))
 refine wq (mB rfl rfl (iP _ (by omega) (by omega))) rfl (wq (cP [(0, .int _ _), (1, .int _ _)] _ eG rfl rfl) rfl (bG 1 _ bI M3 rfl rfl rfl rfl rfl (aT rfl) rfl (fun w4 M4 => (aB (aC (aE (aA (wq (aD 6 fD rfl) rfl (wq (aD 0 cQ rfl) rfl ?_)))))))))
 refine wq (aM 0 (.int _ _) aR M4 rfl rfl rfl) rfl (wq (aD 2 iH rfl) rfl (wq (aD 0 cQ rfl) rfl (wq (aM 0 (.int _ _) aR M4 rfl rfl rfl) rfl (wq (iO rfl rfl (iP _ (by omega) (by omega))) rfl (wq (aD 6 fD rfl) rfl ?_)))))
 refine wq (aD 1 cK rfl) rfl (wq (aM 0 (.int _ _) aR M4 rfl rfl rfl) rfl (wq (aD 2 iH rfl) rfl (wq (aD 1 cK rfl) rfl (wq (aM 0 (.int _ _) aR M4 rfl rfl rfl) rfl (wq (iO rfl rfl (iP _ (by omega) (by omega))) rfl ?_)))))
 refine wq (cP [(0, .int _ _), (1, .int _ _)] _ eG rfl rfl) rfl (bG 2 _ bI M4 rfl rfl rfl rfl rfl (aT rfl) rfl (fun w5 M5 => (aB (aC (aE (bR [(0, 1), (1, 1), (2, 2), (3, 2)] mixed rfl (by kernel_rfl) (fun w6 hb6 hh6 => ?_)))))))
 have M6 := M5.drew hb6 hh6
 refine bV rfl rfl rfl (aU 1 bI M6 rfl rfl rfl) (bV rfl rfl rfl (aU 2 bI M6 rfl rfl rfl) (dS [false, true] rfl (by kernel_rfl) (bG 1 _ bI M6 rfl rfl rfl rfl rfl (aT rfl) rfl (fun w7 M7 => ?_))))
 refine aB (aC ⟨(eD (bL rfl (aU 2 bI M7 rfl rfl rfl)) dT), ?_⟩)
 refine dS [true] rfl (by kernel_rfl) (bG 2 _ bI M7 rfl rfl rfl rfl rfl (aT rfl) rfl (fun w8 M8 => ?_))
 refine aB (aC ⟨dT, ?_⟩)
 refine bY (aC (aP (aQq 1 2 bI M8 rfl rfl rfl rfl rfl rfl ?_)))
 exact ⟨rfl, M8.below⟩
set_option maxHeartbeats 4000000 in
theorem aKn (w : World) (p q c : Pt) (h : SgI p q) (hc : PtI c) :
  Calls Tryz.prog 244 #[(.agg (cF p).toArray), (.agg (cF q).toArray), (.agg (cF c).toArray)] w (fun ex w' => ∃ v, ex = .returned v ∧ (fun v w' => v = .tuple #[.int .i64 (oB p q c), .int .i64 (lU p q)] ∧ Below w.heap.size w w') v w') := by
 have hD := mS h
 have hx := aGp h hc
 refine aI #[.tmp 6, .tmp 7] 42 Tryz.func244 rfl Tryz.results244 Tryz.ntmps244 rfl ?_
 have M0 := Mem.refl w
 refine aE (aA (bP (.agg (List.toArray _)) M0 rfl rfl rfl (fun b1 w1 M1 => (bP (.agg (List.toArray _)) M1 rfl rfl rfl (fun b2 w2 M2 => (bP (.agg (List.toArray _)) M2 rfl rfl rfl (fun b3 w3 M3 => (bC rfl rfl (bC rfl rfl ?_)))))))))
 refine aB (aC (aE (aA (wq (aU 0 bI M3 rfl rfl rfl) rfl (wq (aU 1 bI M3 rfl rfl rfl) rfl (bZ aDu rfl rfl (sL _ p q h.hp.i32 h.hq.i32) ?_))))))
 rintro v4 w4 ⟨rfl, hb4⟩
 have M4 := M3.callB hb4
 refine wq (aH (.tuple (List.toArray _)) rfl) rfl (wq (bO (.int _ _) rfl rfl) rfl (wq (bO (.int _ _) rfl rfl) rfl (bC rfl rfl (bC rfl rfl (aB (aC (aE (aA ?_))))))))
 refine wq (aU 0 bI M4 rfl rfl rfl) rfl (wq (aU 2 bI M4 rfl rfl rfl) rfl (bZ aDu rfl rfl (sL _ p c h.hp.i32 hc.i32) ?_))
 rintro v5 w5 ⟨rfl, hb5⟩
 have M5 := M4.callB hb5
 refine wq (aH (.tuple (List.toArray _)) rfl) rfl (wq (bO (.int _ _) rfl rfl) rfl (wq (bO (.int _ _) rfl rfl) rfl (bC rfl rfl (bC rfl rfl (aB (aC (aE (aA ?_))))))))
 refine aO rfl rfl (aO rfl rfl (wq (eS rfl rfl (by omega) (by omega)) rfl (aO rfl rfl (aO rfl rfl (wq (eS rfl rfl (by omega) (by omega)) rfl ?_)))))
 refine wq (aY rfl rfl (by omega) (by omega)) rfl (aK 30 (.int .i64 (lU p q)) rfl (bC rfl rfl (aB (aC (aE (aA (aO rfl rfl (aO rfl rfl ?_))))))))
 refine wq (eS rfl rfl (by omega) (by omega)) rfl (aO rfl rfl (aO rfl rfl (wq (eS rfl rfl (by omega) (by omega)) rfl (wq (aY rfl rfl (by omega) (by omega)) rfl (aO rfl rfl ?_)))))
 refine wq (aBx rfl rfl ) rfl (wq (pE rfl rfl ) rfl (aO rfl rfl (bC rfl rfl (bC rfl rfl (aB (aC (aP ?_)))))))
 refine gA (.int _ _) (.int _ _) rfl rfl ?_
 exact ⟨rfl, M5.below⟩
set_option maxHeartbeats 4000000 in
theorem aGa (w : World) (f a n d : Int) (bn bd : Nat) (ha : -16777216 ≤ a ∧ a ≤ 16777216) (hn : 0 ≤ n) (hnd : n ≤ d) (hd0 : 0 < d) (hd : d ≤ 562949953421312) (h1 : -16777216 ≤ a * n / d ∧ a * n / d ≤ 16777216) (h2 : -1082130432 ≤ f + a * n / d ∧ f + a * n / d ≤ 1082130432) (K1 : Rd w 1 (some ⟨bn, 0, none⟩) 1 [[.int .i64 n]]) (K2 : Rd w 1 (some ⟨bd, 0, none⟩) 1 [[.int .i64 d]]) :
  Calls Tryz.prog 245 #[.int .i32 f, .int .i64 a, .pointer (some ⟨bn, 0, none⟩), .pointer (some ⟨bd, 0, none⟩)] w (fun ex w' => ∃ v, ex = .returned v ∧ (fun v w' => v = .int .i32 (f + a * n / d) ∧ Below w.heap.size w w') v w') := by
 rw [← gJ bn, ← gJ bd]
 refine aI #[.tmp 6] 20 Tryz.func245 rfl Tryz.results245 Tryz.ntmps245 rfl ?_
 have M0 := Mem.refl w
 refine aE (aA (bC rfl rfl (aB (aC (aE (aA (aO rfl rfl (wq (dV (o := 0) (.int _ _) iR (K1.mem M0) (show ([[.int .i64 n]] : List (List Value))[0]? = some [.int .i64 n] from rfl) rfl rfl) rfl (wq (dV (o := 0) (.int _ _) iR (K2.mem M0) (show ([[.int .i64 d]] : List (List Value))[0]? = some [.int .i64 d] from rfl) rfl rfl) rfl ?_)))))))))
 refine bZ aIz rfl rfl (bHo _ a n d (by omega) hn hnd hd0 (by omega)) ?_
 rintro v1 w1 ⟨rfl, hb1⟩
 have M1 := M0.callB hb1
 refine wq (aH (.tuple (List.toArray _)) rfl) rfl (wq (bO (.int _ _) rfl rfl) rfl (wq (bO (.int _ _) rfl rfl) rfl (bC rfl rfl (bC rfl rfl (aB (aC (aE (aA ?_))))))))
 refine aO rfl rfl (aO rfl rfl (wq (aZ lK Tryz.underlying21 rfl (iP _ (by omega) (by omega))) rfl (wq (iO rfl rfl (iP _ (by omega) (by omega))) rfl (bC rfl rfl (aB (aC (aP ?_)))))))
 refine cE (.int _ _) rfl ?_
 exact ⟨rfl, M1.below⟩
set_option maxHeartbeats 4000000 in
theorem mJ (w : World) (p q c : Pt) (h : SgI p q) (hc : PtI c) :
  Calls Tryz.prog 239 #[(.agg (cF p).toArray), (.agg (cF q).toArray), (.agg (cF c).toArray)] w (fun ex w' => ∃ v, ex = .returned v ∧ (fun v w' => v = (.agg (cF (cB p q c)).toArray) ∧ Below w.heap.size w w') v w') := by
 have hD := mS h
 have hn := wO (c := c) h
 have hx := h.x
 have hy := h.y
 refine aI #[.cell 6 38] 40 Tryz.func239 rfl Tryz.results239 Tryz.ntmps239 rfl ?_
 have M0 := Mem.refl w
 refine aE (aA (bP (.agg (List.toArray _)) M0 rfl rfl rfl (fun b1 w1 M1 => (bP (.agg (List.toArray _)) M1 rfl rfl rfl (fun b2 w2 M2 => (bP (.agg (List.toArray _)) M2 rfl rfl rfl (fun b3 w3 M3 => (aV gY M3 rfl rfl (fun b4 w4 M4 => (aB (aC (aE (aA ?_)))))))))))))
 refine wq (aU 0 bI M4 rfl rfl rfl) rfl (wq (aU 1 bI M4 rfl rfl rfl) rfl (wq (aU 2 bI M4 rfl rfl rfl) rfl (bZ bGe rfl rfl (aKn _ p q c h hc) ?_)))
 rintro v5 w5 ⟨rfl, hb5⟩
 have M5 := M4.callB hb5
 refine wq (aH (.tuple (List.toArray _)) rfl) rfl (wq (bO (.int _ _) rfl rfl) rfl (wq (bO (.int _ _) rfl rfl) rfl (aV aCo M5 rfl rfl (fun b6 w6 M6 => (aV aCo M6 rfl rfl (fun b7 w7 M7 => (cZ 4 (.int _ _) iR M7 rfl rfl rfl rfl rfl rfl (fun w8 M8 => ?_))))))))
 refine cZ 5 (.int _ _) iR M8 rfl rfl rfl rfl rfl rfl (fun w9 M9 => (aB (aC (aE (aE (aA (wq (aM 5 (.int _ _) iR M9 rfl rfl rfl) rfl (cX rfl rfl rfl rfl (aB (aC ?_))))))))))
 refine aS rfl (fun h20 => ?_) (fun h20 => ?_)
 ·refine aE (aA (wq (aU 0 bI M9 rfl rfl rfl) rfl (bG 3 _ bI M9 rfl rfl rfl rfl rfl (aT rfl) rfl (fun w10 M10 => (aB (aC (aP (cH (eX 3 bI M10 rfl rfl rfl ?_)))))))))
  exact ⟨by unfold cB; first | (rw [if_pos h20]; rfl) | (rw [if_neg h20]; rfl), M10.below⟩
 ·have hnr := aCd (c := c) h h20
  refine aL (aC (aE (aA (wq (dU [] [.pointer _, .pointer _] rfl rfl) rfl (wq (aJ (.func _ _ _) rfl) rfl (aB (aC (aE (aA (wq (aU 0 bI M9 rfl rfl rfl) rfl (wq (aU 1 bI M9 rfl rfl rfl) rfl ?_)))))))))))
  refine bZ aDu rfl rfl (sL _ p q h.hp.i32 h.hq.i32) ?_
  rintro v11 w11 ⟨rfl, hb11⟩
  have M11 := M9.callB hb11
  refine wq (aH (.tuple (List.toArray _)) rfl) rfl (wq (bO (.int _ _) rfl rfl) rfl (wq (bO (.int _ _) rfl rfl) rfl (bC rfl rfl (bC rfl rfl (aB (aC (aE ?_)))))))
  refine bR [(0, 0), (1, 0), (2, 1), (3, 0), (5, 0), (6, 0), (7, 1), (8, 0), (4, 2), (9, 2), (10, 0), (11, 2)] mixed rfl (by kernel_rfl) (fun w12 hb12 hh12 => ?_)
  have M12 := M11.drew hb12 hh12
  refine aX rfl rfl rfl (fun _ => aH (.func _ _ _) rfl) (aX rfl rfl rfl (fun _ => aD 0 cQ rfl) (bV rfl rfl rfl (aM 0 (.int _ _) aR M12 rfl rfl rfl) (eF rfl rfl rfl (aX rfl rfl rfl (fun _ => aH (.func _ _ _) rfl) (aX rfl rfl rfl (fun _ => aD 1 cK rfl) ?_)))))
  refine bV rfl rfl rfl (aM 0 (.int _ _) aR M12 rfl rfl rfl) (eF rfl rfl rfl (dS [false, true] rfl (by kernel_rfl) (bZ aWj rfl rfl (aGa _ p.1 (q.1 - p.1) (oB p q c) (lU p q) b6 b7 (by omega) hn.1 hn.2 (by omega) (by omega) hnr.1.1 hnr.1.2 (oM 4 M12 rfl rfl) (oM 5 M12 rfl rfl)) ?_)))
  rintro v13 w13 ⟨rfl, hb13⟩
  have M13 := M12.callB hb13
  refine aB (aC ⟨(eD (bL rfl (aM 0 (.int _ _) aR M13 rfl rfl rfl)) dT), ?_⟩)
  refine dS [true] rfl (by kernel_rfl) (bZ aWj rfl rfl (aGa _ p.2 (q.2 - p.2) (oB p q c) (lU p q) b6 b7 (by omega) hn.1 hn.2 (by omega) (by omega) hnr.2.1 hnr.2.2 (oM 4 M13 rfl rfl) (oM 5 M13 rfl rfl)) ?_)
  rintro v14 w14 ⟨rfl, hb14⟩
  have M14 := M13.callB hb14
  refine aB (aC ⟨dT, ?_⟩)
  refine aX rfl rfl rfl (fun _ => cP [(0, .int _ _), (1, .int _ _)] _ eG rfl rfl) (dS [] rfl (by kernel_rfl) (bG 3 _ bI M14 rfl rfl rfl rfl rfl (aT rfl) rfl (fun w15 M15 => ?_)))
  refine aB (aC ⟨dT, ?_⟩)
  refine bY (aC (aP (eX 3 bI M15 rfl rfl rfl ?_)))
  exact ⟨by unfold cB; first | (rw [if_pos h20]; rfl) | (rw [if_neg h20]; rfl), M15.below⟩
set_option maxHeartbeats 4000000 in
theorem vK (w : World) (p q : Pt) (h : SgI p q) :
  Calls Tryz.prog 208 #[(.agg (cF p).toArray), (.agg (cF q).toArray)] w (fun ex w' => ∃ v, ex = .returned v ∧ (fun v w' => v = .int .i64 (lU p q) ∧ Below w.heap.size w w') v w') := by
 have hD := mS h
 have hp := h.hp.i32
 have hq := h.hq.i32
 have hpx := hp.x
 have hpy := hp.y
 have hqx := hq.x
 have hqy := hq.y
 refine aI #[.tmp 4] 28 Tryz.func208 rfl Tryz.results208 Tryz.ntmps208 rfl ?_
 have M0 := Mem.refl w
 refine aE (aA (bP (.agg (List.toArray _)) M0 rfl rfl rfl (fun b1 w1 M1 => (bP (.agg (List.toArray _)) M1 rfl rfl rfl (fun b2 w2 M2 => (bC rfl rfl (aB (aC (aE (aA (wq (aD 0 cQ rfl) rfl ?_)))))))))))
 refine wq (aM 1 (.int _ _) aR M2 rfl rfl rfl) rfl (wq (aZ dO Tryz.underlying2 rfl (fC _ (by omega) (by omega))) rfl (wq (aD 0 cQ rfl) rfl (wq (aM 0 (.int _ _) aR M2 rfl rfl rfl) rfl (wq (aZ dO Tryz.underlying2 rfl (fC _ (by omega) (by omega))) rfl (wq (fX rfl rfl (by omega) (by omega)) rfl ?_)))))
 refine bC rfl rfl (aB (aC (aE (aA (wq (aD 1 cK rfl) rfl (wq (aM 1 (.int _ _) aR M2 rfl rfl rfl) rfl (wq (aZ dO Tryz.underlying2 rfl (fC _ (by omega) (by omega))) rfl (wq (aD 1 cK rfl) rfl ?_))))))))
 refine wq (aM 0 (.int _ _) aR M2 rfl rfl rfl) rfl (wq (aZ dO Tryz.underlying2 rfl (fC _ (by omega) (by omega))) rfl (wq (fX rfl rfl (by omega) (by omega)) rfl (bC rfl rfl (aB (aC (aE (aA (aO rfl rfl ?_))))))))
 refine aO rfl rfl (wq (eS rfl rfl (by omega) (by omega)) rfl (aO rfl rfl (aO rfl rfl (wq (eS rfl rfl (by omega) (by omega)) rfl (wq (aY rfl rfl (by omega) (by omega)) rfl ?_)))))
 refine bC rfl rfl (aB (aC (aP (cE (.int _ _) rfl ?_))))
 exact ⟨rfl, M2.below⟩
set_option maxHeartbeats 4000000 in
theorem aLk (w : World) (n lo hi : Int) (h : lo ≤ hi) :
  Calls Tryz.prog 226 #[.int .i64 n, .int .i64 lo, .int .i64 hi] w (fun ex w' => ∃ v, ex = .returned v ∧ (fun v w' => v = .int .i64 (max lo (min n hi)) ∧ Below w.heap.size w w') v w') := by
 refine aI #[.tmp 6] 16 Tryz.func226 rfl Tryz.results226 Tryz.ntmps226 rfl ?_
 have M0 := Mem.refl w
 refine aE (aA (bC rfl rfl (aB (aC (aE (aE (aA (aO rfl rfl (aO rfl rfl (cX rfl rfl rfl rfl ?_))))))))))
 refine aB (aC ?_)
 refine aS rfl (fun h9 => ?_) (fun h9 => ?_)
 ·refine aE (aA (aO rfl rfl (bC rfl rfl (aB (aC (aP (cH (cE (.int _ _) rfl ?_))))))))
  exact ⟨iE (by omega), M0.below⟩
 ·refine aL (aC (aE (aE (aA (aO rfl rfl (aO rfl rfl (cX rfl rfl rfl rfl (aB (aC ?_)))))))))
  refine aS rfl (fun h13 => ?_) (fun h13 => ?_)
  ·refine aE (aA (aO rfl rfl (bC rfl rfl (aB (aC (aP (cH (cE (.int _ _) rfl ?_))))))))
   exact ⟨iE (by omega), M0.below⟩
  ·refine aL (aC (aE (aA (aO rfl rfl (bC rfl rfl (aB (aC (aP (cE (.int _ _) rfl ?_)))))))))
   exact ⟨iE (by omega), M0.below⟩
set_option maxHeartbeats 4000000 in
theorem aKu (w : World) (p q c : Pt) (h : SgI p q) (hc : PtI c) :
  Calls Tryz.prog 209 #[(.agg (cF p).toArray), (.agg (cF q).toArray), (.agg (cF c).toArray)] w (fun ex w' => ∃ v, ex = .returned v ∧ (fun v w' => v = .int .i64 (oB p q c) ∧ Below w.heap.size w w') v w') := by
 have hD := mS h
 have hx := aGp h hc
 have hp := h.hp.i32
 have hq := h.hq.i32
 have hci := hc.i32
 have hpx := hp.x
 have hpy := hp.y
 have hqx := hq.x
 have hqy := hq.y
 have hcx := hci.x
 have hcy := hci.y
 refine aI #[.tmp 6] 48 Tryz.func209 rfl Tryz.results209 Tryz.ntmps209 rfl ?_
 have M0 := Mem.refl w
 refine aE (aA (bP (.agg (List.toArray _)) M0 rfl rfl rfl (fun b1 w1 M1 => (bP (.agg (List.toArray _)) M1 rfl rfl rfl (fun b2 w2 M2 => (bP (.agg (List.toArray _)) M2 rfl rfl rfl (fun b3 w3 M3 => (bC rfl rfl (aB (aC (aE (aA ?_))))))))))))
 refine wq (aD 0 cQ rfl) rfl (wq (aM 1 (.int _ _) aR M3 rfl rfl rfl) rfl (wq (aZ dO Tryz.underlying2 rfl (fC _ (by omega) (by omega))) rfl (wq (aD 0 cQ rfl) rfl (wq (aM 0 (.int _ _) aR M3 rfl rfl rfl) rfl (wq (aZ dO Tryz.underlying2 rfl (fC _ (by omega) (by omega))) rfl ?_)))))
 refine wq (fX rfl rfl (by omega) (by omega)) rfl (bC rfl rfl (aB (aC (aE (aA (wq (aD 1 cK rfl) rfl (wq (aM 1 (.int _ _) aR M3 rfl rfl rfl) rfl (wq (aZ dO Tryz.underlying2 rfl (fC _ (by omega) (by omega))) rfl ?_))))))))
 refine wq (aD 1 cK rfl) rfl (wq (aM 0 (.int _ _) aR M3 rfl rfl rfl) rfl (wq (aZ dO Tryz.underlying2 rfl (fC _ (by omega) (by omega))) rfl (wq (fX rfl rfl (by omega) (by omega)) rfl (bC rfl rfl (aB (aC (aE (aA ?_))))))))
 refine wq (aD 0 cQ rfl) rfl (wq (aM 2 (.int _ _) aR M3 rfl rfl rfl) rfl (wq (aZ dO Tryz.underlying2 rfl (fC _ (by omega) (by omega))) rfl (wq (aD 0 cQ rfl) rfl (wq (aM 0 (.int _ _) aR M3 rfl rfl rfl) rfl (wq (aZ dO Tryz.underlying2 rfl (fC _ (by omega) (by omega))) rfl ?_)))))
 refine wq (fX rfl rfl (by omega) (by omega)) rfl (aO rfl rfl (wq (eS rfl rfl (by omega) (by omega)) rfl (wq (aD 1 cK rfl) rfl (wq (aM 2 (.int _ _) aR M3 rfl rfl rfl) rfl (wq (aZ dO Tryz.underlying2 rfl (fC _ (by omega) (by omega))) rfl ?_)))))
 refine wq (aD 1 cK rfl) rfl (wq (aM 0 (.int _ _) aR M3 rfl rfl rfl) rfl (wq (aZ dO Tryz.underlying2 rfl (fC _ (by omega) (by omega))) rfl (wq (fX rfl rfl (by omega) (by omega)) rfl (aO rfl rfl (wq (eS rfl rfl (by omega) (by omega)) rfl ?_)))))
 refine wq (aY rfl rfl (by omega) (by omega)) rfl (bC rfl rfl (aB (aC (aE (aA (aO rfl rfl (wq (aU 0 bI M3 rfl rfl rfl) rfl (wq (aU 1 bI M3 rfl rfl rfl) rfl ?_))))))))
 refine bZ aXw rfl rfl (vK _ p q h) ?_
 rintro v4 w4 ⟨rfl, hb4⟩
 have M4 := M3.callB hb4
 refine bZ bHw rfl rfl (aLk _ ((c.1 - p.1) * (q.1 - p.1) + (c.2 - p.2) * (q.2 - p.2)) 0 (lU p q) (by omega)) ?_
 rintro v5 w5 ⟨rfl, hb5⟩
 have M5 := M4.callB hb5
 refine bC rfl rfl (aB (aC (aP (cE (.int _ _) rfl ?_))))
 exact ⟨rfl, M5.below⟩
set_option maxHeartbeats 4000000 in
theorem mN (w : World) (p q c : Pt) (h : SgI p q) (hc : PtI c) :
  Calls Tryz.prog 182 #[(.agg (cF p).toArray), (.agg (cF q).toArray), (.agg (cF c).toArray)] w (fun ex w' => ∃ v, ex = .returned v ∧ (fun v w' => v = (.agg (cF (cB p q c)).toArray) ∧ Below w.heap.size w w') v w') := by
 have hD := mS h
 have hn := wO (c := c) h
 have hx := h.x
 have hy := h.y
 have hp := h.hp.i32
 have hq := h.hq.i32
 have hpx := hp.x
 have hpy := hp.y
 have hqx := hq.x
 have hqy := hq.y
 refine aI #[.cell 6 38] 60 Tryz.func182 rfl Tryz.results182 Tryz.ntmps182 rfl ?_
 have M0 := Mem.refl w
 refine aE (aA (bP (.agg (List.toArray _)) M0 rfl rfl rfl (fun b1 w1 M1 => (bP (.agg (List.toArray _)) M1 rfl rfl rfl (fun b2 w2 M2 => (bP (.agg (List.toArray _)) M2 rfl rfl rfl (fun b3 w3 M3 => (aV gY M3 rfl rfl (fun b4 w4 M4 => (aB (aC (aE (aA ?_)))))))))))))
 refine wq (aU 0 bI M4 rfl rfl rfl) rfl (wq (aU 1 bI M4 rfl rfl rfl) rfl (bZ aXw rfl rfl (vK _ p q h) ?_))
 rintro v5 w5 ⟨rfl, hb5⟩
 have M5 := M4.callB hb5
 refine bC rfl rfl (aB (aC (aE (aE (aA (aO rfl rfl (cX rfl rfl rfl rfl (aB (aC ?_)))))))))
 refine aS rfl (fun h17 => ?_) (fun h17 => ?_)
 ·refine aE (aA (wq (aU 0 bI M5 rfl rfl rfl) rfl (bG 3 _ bI M5 rfl rfl rfl rfl rfl (aT rfl) rfl (fun w6 M6 => (aB (aC (aP (cH (eX 3 bI M6 rfl rfl rfl ?_)))))))))
  exact ⟨by unfold cB; first | (rw [if_pos h17]; rfl) | (rw [if_neg h17]; rfl), M6.below⟩
 ·have hnr := aCd (c := c) h h17
  refine aL (aC (aE (aA (wq (aU 0 bI M5 rfl rfl rfl) rfl (wq (aU 1 bI M5 rfl rfl rfl) rfl (wq (aU 2 bI M5 rfl rfl rfl) rfl (bZ bJf rfl rfl (aKu _ p q c h hc) ?_)))))))
  rintro v7 w7 ⟨rfl, hb7⟩
  have M7 := M5.callB hb7
  refine bC rfl rfl (aB (aC (aE (aA (wq (aD 0 cQ rfl) rfl (wq (aM 1 (.int _ _) aR M7 rfl rfl rfl) rfl (wq (aZ dO Tryz.underlying2 rfl (fC _ (by omega) (by omega))) rfl (wq (aD 0 cQ rfl) rfl ?_))))))))
  refine wq (aM 0 (.int _ _) aR M7 rfl rfl rfl) rfl (wq (aZ dO Tryz.underlying2 rfl (fC _ (by omega) (by omega))) rfl (wq (fX rfl rfl (by omega) (by omega)) rfl (aO rfl rfl (aO rfl rfl (bZ bAr rfl rfl (wX _ (q.1 - p.1) (oB p q c) (lU p q) (by omega) hn.1 hn.2 (by omega) (by omega)) ?_)))))
  rintro v8 w8 ⟨rfl, hb8⟩
  have M8 := M7.callB hb8
  refine wq (aH (.tuple (List.toArray _)) rfl) rfl (wq (bO (.int _ _) rfl rfl) rfl (wq (bO (.int _ _) rfl rfl) rfl (bC rfl rfl (bC rfl rfl (aB (aC (aE (aA ?_))))))))
  refine wq (aD 1 cK rfl) rfl (wq (aM 1 (.int _ _) aR M8 rfl rfl rfl) rfl (wq (aZ dO Tryz.underlying2 rfl (fC _ (by omega) (by omega))) rfl (wq (aD 1 cK rfl) rfl (wq (aM 0 (.int _ _) aR M8 rfl rfl rfl) rfl (wq (aZ dO Tryz.underlying2 rfl (fC _ (by omega) (by omega))) rfl ?_)))))
  refine wq (fX rfl rfl (by omega) (by omega)) rfl (aO rfl rfl (aO rfl rfl (bZ bAr rfl rfl (wX _ (q.2 - p.2) (oB p q c) (lU p q) (by omega) hn.1 hn.2 (by omega) (by omega)) ?_)))
  rintro v9 w9 ⟨rfl, hb9⟩
  have M9 := M8.callB hb9
  refine wq (aH (.tuple (List.toArray _)) rfl) rfl (wq (bO (.int _ _) rfl rfl) rfl (wq (bO (.int _ _) rfl rfl) rfl (bC rfl rfl (bC rfl rfl (aB (aC (aE (aA ?_))))))))
  refine wq (aD 0 cQ rfl) rfl (wq (aM 0 (.int _ _) aR M9 rfl rfl rfl) rfl (aO rfl rfl (wq (aZ lK Tryz.underlying21 rfl (iP _ (by omega) (by omega))) rfl (wq (iO rfl rfl (iP _ (by omega) (by omega))) rfl (wq (aD 1 cK rfl) rfl ?_)))))
  refine wq (aM 0 (.int _ _) aR M9 rfl rfl rfl) rfl (aO rfl rfl (wq (aZ lK Tryz.underlying21 rfl (iP _ (by omega) (by omega))) rfl (wq (iO rfl rfl (iP _ (by omega) (by omega))) rfl (wq (cP [(0, .int _ _), (1, .int _ _)] _ eG rfl rfl) rfl (bG 3 _ bI M9 rfl rfl rfl rfl rfl (aT rfl) rfl (fun w10 M10 => ?_))))))
  refine aB (aC (aP (eX 3 bI M10 rfl rfl rfl ?_)))
  exact ⟨by unfold cB; first | (rw [if_pos h17]; rfl) | (rw [if_neg h17]; rfl), M10.below⟩
set_option maxHeartbeats 4000000 in
theorem qM (w : World) (a b : Pt) (ha : PtI a) (hb : PtI b) :
  Calls Tryz.prog 113 #[(.agg (cF a ++ cF b).toArray)] w (fun ex w' => ∃ v, ex = .returned v ∧ (fun v w' => v = .int .u64 ((pL (b.1 - a.1) (b.2 - a.2) : Nat) : Int) ∧ Below w.heap.size w w') v w') := by
 have hai := ha.i32
 have hbi := hb.i32
 have hax := hai.x
 have hay := hai.y
 have hbx := hbi.x
 have hby := hbi.y
 refine aI #[.tmp 2] 22 Tryz.func113 rfl Tryz.results113 Tryz.ntmps113 rfl ?_
 have M0 := Mem.refl w
 refine aE (aA (bP (.agg (List.toArray _)) M0 rfl rfl rfl (fun b1 w1 M1 => (bC rfl rfl (aB (aC (aE (aA (wq (aD 2 vV rfl) rfl (wq (aD 0 cQ rfl) rfl ?_))))))))))
 refine wq (aM 0 (.int _ _) aR M1 rfl rfl rfl) rfl (wq (aZ dO Tryz.underlying2 rfl (fC _ (by omega) (by omega))) rfl (wq (aD 0 vF rfl) rfl (wq (aD 0 cQ rfl) rfl (wq (aM 0 (.int _ _) aR M1 rfl rfl rfl) rfl (wq (aZ dO Tryz.underlying2 rfl (fC _ (by omega) (by omega))) rfl ?_)))))
 refine wq (fX rfl rfl (by omega) (by omega)) rfl (wq (aD 2 vV rfl) rfl (wq (aD 1 cK rfl) rfl (wq (aM 0 (.int _ _) aR M1 rfl rfl rfl) rfl (wq (aZ dO Tryz.underlying2 rfl (fC _ (by omega) (by omega))) rfl (wq (aD 0 vF rfl) rfl ?_)))))
 refine wq (aD 1 cK rfl) rfl (wq (aM 0 (.int _ _) aR M1 rfl rfl rfl) rfl (wq (aZ dO Tryz.underlying2 rfl (fC _ (by omega) (by omega))) rfl (wq (fX rfl rfl (by omega) (by omega)) rfl (bZ aZq rfl rfl (rX _ (b.1 - a.1) (b.2 - a.2) (ha.inX hb) (ha.inY hb)) ?_))))
 rintro v2 w2 ⟨rfl, hb2⟩
 have M2 := M1.callB hb2
 refine bC rfl rfl (aB (aC (aP (cE (.int _ _) rfl ?_))))
 exact ⟨rfl, M2.below⟩
set_option maxHeartbeats 16000000 in
theorem aHo (w : World) (ap aq bp bq : Pt) (h1 : SgI ap aq) (h2 : SgI bp bq) :
  Calls Tryz.prog 143 #[(.agg (cF ap).toArray), (.agg (cF aq).toArray), (.agg (cF bp).toArray), (.agg (cF bq).toArray)] w (fun ex w' => ∃ v, ex = .returned v ∧ (fun v w' => v = (.agg (fS ((lZ ap aq bp bq).1, (lZ ap aq bp bq).2.1)).toArray) ∧ Below w.heap.size w w') v w') := by
 have hlen4 : ([(ap, cB bp bq ap), (aq, cB bp bq aq), (cB ap aq bp, bp), (cB ap aq bq, bq)] : List (Pt × Pt)).length = 4 := rfl
 have hins : ∀ z ∈ ([(ap, cB bp bq ap), (aq, cB bp bq aq), (cB ap aq bp, bp), (cB ap aq bq, bq)] : List (Pt × Pt)), PtI z.1 ∧ PtI z.2 := aNp h1 h2
 refine aI #[.cell 8 168] 59 Tryz.func143 rfl Tryz.results143 Tryz.ntmps143 rfl ?_
 have M0 := Mem.refl w
 refine aE (aA (bP (.agg (List.toArray _)) M0 rfl rfl rfl (fun b1 w1 M1 => (bP (.agg (List.toArray _)) M1 rfl rfl rfl (fun b2 w2 M2 => (bP (.agg (List.toArray _)) M2 rfl rfl rfl (fun b3 w3 M3 => (bP (.agg (List.toArray _)) M3 rfl rfl rfl (fun b4 w4 M4 => (aV aAj M4 rfl rfl (fun b5 w5 M5 => ?_)))))))))))
 refine aB (aC (aE (bR [(0, 1), (1, 1), (2, 1), (3, 1), (6, 1), (7, 1), (8, 1), (9, 1), (12, 1), (13, 1), (14, 1), (16, 1), (18, 1), (19, 1), (20, 1), (22, 1), (4, 2), (5, 0), (10, 2), (11, 0), (15, 2), (17, 0), (21, 2), (23, 0), (24, 2), (25, 0)] mixed rfl (by kernel_rfl) (fun w6 hb6 hh6 => ?_))))
 have M6 := M5.drew hb6 hh6
 refine bV rfl rfl rfl (aU 0 bI M6 rfl rfl rfl) (bV rfl rfl rfl (aU 2 bI M6 rfl rfl rfl) (bV rfl rfl rfl (aU 3 bI M6 rfl rfl rfl) (bV rfl rfl rfl (aU 0 bI M6 rfl rfl rfl) (bV rfl rfl rfl (aU 1 bI M6 rfl rfl rfl) (bV rfl rfl rfl (aU 2 bI M6 rfl rfl rfl) ?_)))))
 refine bV rfl rfl rfl (aU 3 bI M6 rfl rfl rfl) (bV rfl rfl rfl (aU 1 bI M6 rfl rfl rfl) (bV rfl rfl rfl (aU 0 bI M6 rfl rfl rfl) (bV rfl rfl rfl (aU 1 bI M6 rfl rfl rfl) (bV rfl rfl rfl (aU 2 bI M6 rfl rfl rfl) (bV rfl rfl rfl (aU 2 bI M6 rfl rfl rfl) ?_)))))
 refine bV rfl rfl rfl (aU 0 bI M6 rfl rfl rfl) (bV rfl rfl rfl (aU 1 bI M6 rfl rfl rfl) (bV rfl rfl rfl (aU 3 bI M6 rfl rfl rfl) (bV rfl rfl rfl (aU 3 bI M6 rfl rfl rfl) (dS [false, false, false, false, false, false, false, false, false, false, false, false, true, true, true, false] rfl (by kernel_rfl) ?_))))
 refine bZ aHs rfl rfl (mN _ bp bq ap h2 h1.hp) ?_
 rintro v7 w7 ⟨rfl, hb7⟩
 have M7 := M6.callB hb7
 refine aB (aC ⟨(eD (bL rfl (aU 3 bI M7 rfl rfl rfl)) (eD (bL rfl (aU 3 bI M7 rfl rfl rfl)) (eD (bL rfl (aU 1 bI M7 rfl rfl rfl)) (eD (bL rfl (aU 0 bI M7 rfl rfl rfl)) (eD (bL rfl (aU 2 bI M7 rfl rfl rfl)) (eD (bL rfl (aU 2 bI M7 rfl rfl rfl)) (eD (bL rfl (aU 1 bI M7 rfl rfl rfl)) (eD (bL rfl (aU 0 bI M7 rfl rfl rfl)) (eD (bL rfl (aU 1 bI M7 rfl rfl rfl)) (eD (bL rfl (aU 3 bI M7 rfl rfl rfl)) (eD (bL rfl (aU 2 bI M7 rfl rfl rfl)) (eD (bL rfl (aU 1 bI M7 rfl rfl rfl)) (eD (bL rfl (aU 0 bI M7 rfl rfl rfl)) dT))))))))))))), ?_⟩)
 refine aX rfl rfl rfl (fun _ => cP [(0, .agg (List.toArray _)), (1, .agg (List.toArray _))] _ sR rfl rfl) (dS [false, false, false, false, false, false, false, false, true, true, true, false, false] rfl (by kernel_rfl) (bZ aHs rfl rfl (mN _ bp bq aq h2 h1.hq) ?_))
 rintro v8 w8 ⟨rfl, hb8⟩
 have M8 := M7.callB hb8
 refine aB (aC ⟨(eD (bL rfl (aU 3 bI M8 rfl rfl rfl)) (eD (bL rfl (aU 3 bI M8 rfl rfl rfl)) (eD (bL rfl (aU 1 bI M8 rfl rfl rfl)) (eD (bL rfl (aU 0 bI M8 rfl rfl rfl)) (eD (bL rfl (aU 2 bI M8 rfl rfl rfl)) (eD (bL rfl (aU 2 bI M8 rfl rfl rfl)) (eD (bL rfl (aU 1 bI M8 rfl rfl rfl)) (eD (bL rfl (aU 0 bI M8 rfl rfl rfl)) (eD (bL rfl (aU 1 bI M8 rfl rfl rfl)) (eD (bL rfl (aU 0 bI M8 rfl rfl rfl)) dT)))))))))), ?_⟩)
 refine aX rfl rfl rfl (fun _ => cP [(0, .agg (List.toArray _)), (1, .agg (List.toArray _))] _ sR rfl rfl) (dS [false, false, false, false, false, true, true, true, false, false] rfl (by kernel_rfl) (bZ aHs rfl rfl (mN _ ap aq bp h1 h2.hp) ?_))
 rintro v9 w9 ⟨rfl, hb9⟩
 have M9 := M8.callB hb9
 refine aB (aC ⟨(eD (bL rfl (aU 3 bI M9 rfl rfl rfl)) (eD (bL rfl (aU 3 bI M9 rfl rfl rfl)) (eD (bL rfl (aU 1 bI M9 rfl rfl rfl)) (eD (bL rfl (aU 0 bI M9 rfl rfl rfl)) (eD (bL rfl (aU 2 bI M9 rfl rfl rfl)) (eD (bL rfl (aU 1 bI M9 rfl rfl rfl)) (eD (bL rfl (aU 0 bI M9 rfl rfl rfl)) dT))))))), ?_⟩)
 refine aX rfl rfl rfl (fun _ => cP [(0, .agg (List.toArray _)), (1, .agg (List.toArray _))] _ sR rfl rfl) (dS [false, true, true, true, false, false, false] rfl (by kernel_rfl) (bZ aHs rfl rfl (mN _ ap aq bq h1 h2.hq) ?_))
 rintro v10 w10 ⟨rfl, hb10⟩
 have M10 := M9.callB hb10
 refine aB (aC ⟨(eD (bL rfl (aU 3 bI M10 rfl rfl rfl)) (eD (bL rfl (aU 2 bI M10 rfl rfl rfl)) (eD (bL rfl (aU 1 bI M10 rfl rfl rfl)) (eD (bL rfl (aU 0 bI M10 rfl rfl rfl)) dT)))), ?_⟩)
 refine aX rfl rfl rfl (fun _ => cP [(0, .agg (List.toArray _)), (1, .agg (List.toArray _))] _ sR rfl rfl) (dS [true, true, true, true] rfl (by kernel_rfl) (cU [.agg (List.toArray _), .agg (List.toArray _), .agg (List.toArray _), .agg (List.toArray _)] [fS (ap, cB bp bq ap), fS (aq, cB bp bq aq), fS (cB ap aq bp, bp), fS (cB ap aq bq, bq)] rfl aQe M10 rfl rfl rfl rfl (dE rfl) (by decide) (fun b11 w11 M11 => ?_)))
 refine aB (aC ⟨dT, ?_⟩)
 have hlit36 := jT (T := 168) (b := b11) (nn := 4) (([(ap, cB bp bq ap), (aq, cB bp bq aq), (cB ap aq bp, bp), (cB ap aq bq, bq)] : List (Pt × Pt)).map fS) (bDz _) rfl (by decide)
 refine aX rfl rfl rfl (fun _ => aJ (.slice _ _ _) rfl) (bY (aC (aE (aA (dN rfl rfl (wq (bN (0) aQe rfl rfl rfl ((hlit36.rd M11 (bJ (i := 5) rfl)).below_len (aG fS (show ([(ap, cB bp bq ap), (aq, cB bp bq aq), (cB ap aq bp, bp), (cB ap aq bq, bq)] : List (Pt × Pt))[0]? = some (ap, cB bp bq ap) from rfl))) ((hlit36.rd M11 (bJ (i := 5) rfl)).someK (aG fS (show ([(ap, cB bp bq ap), (aq, cB bp bq aq), (cB ap aq bp, bp), (cB ap aq bq, bq)] : List (Pt × Pt))[0]? = some (ap, cB bp bq ap) from rfl)))) rfl ?_))))))
 refine wq (dJ _ lN (hlit36.rd M11 (bJ (i := 5) rfl)) (aG fS (show ([(ap, cB bp bq ap), (aq, cB bp bq aq), (cB ap aq bp, bp), (cB ap aq bq, bq)] : List (Pt × Pt))[0]? = some (ap, cB bp bq ap) from rfl)) rfl) rfl (aV aAj M11 rfl rfl (fun b12 w12 M12 => ?_))
 refine bG 6 _ lN M12 rfl rfl rfl rfl rfl (aT rfl) rfl (fun w13 M13 => (aB (aC (aE (aE (aA (bC rfl rfl (aB (aC (aQ (dQ (σ := Nat × Ch) [8, 9, 10] (fun (i, s) => [(11, .int .i64 (i : Int))]) (fun (i, s) w' => (1 ≤ i ∧ i ≤ 4 ∧ s = rF (([(ap, cB bp bq ap), (aq, cB bp bq aq), (cB ap aq bp, bp), (cB ap aq bq, bq)] : List (Pt × Pt)).take i) ∧ ChL s) ∧ Mem w [] [(some b1, bc (cF ap) 38), (some b2, bc (cF aq) 38), (some b3, bc (cF bp) 38), (some b4, bc (cF bq) 38), (some b5, bc [.int .i32 0, .int .i32 0, .int .i32 0, .int .i32 0] 168), (some b11, bc ((([(ap, cB bp bq ap), (aq, cB bp bq aq), (cB ap aq bp, bp), (cB ap aq bq, bq)] : List (Pt × Pt)).map fS).flatten) 168), (some b12, bc (fS (s.1, s.2.1)) 168)] w') (fun (i, s) => 4 - i) (1, rF [(ap, cB bp bq ap)]) (bA rfl dX) (⟨⟨by omega, by omega, rfl, (aFn h1.hp (eM h2)).2⟩, by rw [(aFn h1.hp (eM h2)).1]; exact M13⟩) ?_)))))))))))
 rintro ⟨i, s⟩ ρ14 w14 ⟨⟨hi1, hi4, hs, hL⟩, hM14⟩
 refine aE (aE (aA (aO rfl rfl (dN rfl rfl (wq (dB Tryz.underlying256 rfl) rfl (aK 42 (.int .i64 4) rfl (cX rfl rfl rfl rfl ?_)))))))
 refine aB (aC ?_)
 refine aS rfl (fun h43 => ?_) (fun h43 => ?_)
 ·obtain ⟨z, hz⟩ := cT (xs := ([(ap, cB bp bq ap), (aq, cB bp bq aq), (cB ap aq bp, bp), (cB ap aq bq, bq)] : List (Pt × Pt))) (k := i) hlen4 (by omega)
  have hzi := hins z (List.mem_of_getElem? hz)
  refine aL (aC (aE (aQ (aE (bR [(0, 0), (1, 0), (2, 1), (3, 1), (5, 1), (4, 2), (6, 2), (7, 0)] mixed rfl (by kernel_rfl) (fun w15 hb15 hh15 => ?_))))))
  have M15 := hM14.drew hb15 hh15
  refine kQ rfl rfl rfl (eF rfl rfl rfl (bV rfl rfl rfl (bN (i) aQe rfl rfl rfl ((hlit36.rd M15 (bJ (i := 5) rfl)).below_len (aG fS hz)) ((hlit36.rd M15 (bJ (i := 5) rfl)).someK (aG fS hz))) (bV rfl rfl rfl (dJ _ lN (hlit36.rd M15 (bJ (i := 5) rfl)) (aG fS hz) rfl) ?_)))
  refine bV rfl rfl rfl (aU 6 lN M15 rfl rfl rfl) (dS [false, true, true] rfl (by kernel_rfl) (bZ aPf rfl rfl (qM _ z.1 z.2 hzi.1 hzi.2) ?_))
  rintro v16 w16 ⟨rfl, hb16⟩
  have M16 := M15.callB hb16
  refine aB (aC ⟨(eD (bL rfl (aU 6 lN M16 rfl rfl rfl)) dT), ?_⟩)
  refine dS [true] rfl (by kernel_rfl) (bZ aPf rfl rfl (qM _ s.1 s.2.1 hL.i.a hL.i.b) ?_)
  rintro v17 w17 ⟨rfl, hb17⟩
  have M17 := M16.callB hb17
  refine aB (aC ⟨dT, ?_⟩)
  refine aX rfl rfl rfl (fun _ => cA (.bool (decide _)) rfl rfl rfl) (bY (aC ?_))
  refine aS rfl (fun h53 => ?_) (fun h53 => ?_)
  ·refine aA (dN rfl rfl (aO rfl rfl (wq (bN (i) aQe rfl rfl rfl ((hlit36.rd M17 (bJ (i := 5) rfl)).below_len (aG fS hz)) ((hlit36.rd M17 (bJ (i := 5) rfl)).someK (aG fS hz))) rfl (wq (dJ _ lN (hlit36.rd M17 (bJ (i := 5) rfl)) (aG fS hz) rfl) rfl ?_))))
   refine bG 6 _ lN M17 rfl rfl rfl rfl rfl (aT rfl) rfl (fun w18 M18 => (aB (cO (aC (aA (aO rfl rfl (wq (aY rfl rfl (by omega) (by omega)) rfl ?_)))))))
   refine bC rfl rfl (aB ?_)
   refine cD (i + 1, fN s z.1 z.2) (bA rfl dX) (cL rfl (cL rfl (cL rfl gO))) ?_ ?_
   ·exact ⟨⟨by omega, by omega, by rw [zH hz, hs], hL.step hzi.1 hzi.2⟩, by unfold fN; rw [if_pos (by rw [hL.l]; omega)]; exact M18⟩
   ·(show 4 - (i + 1) < 4 - i; omega)
  ·refine aL (cO (aC (aA (aO rfl rfl (wq (aY rfl rfl (by omega) (by omega)) rfl (bC rfl rfl ?_))))))
   refine aB ?_
   refine cD (i + 1, fN s z.1 z.2) (bA rfl dX) (cL rfl (cL rfl (cL rfl gO))) ?_ ?_
   ·exact ⟨⟨by omega, by omega, by rw [zH hz, hs], hL.step hzi.1 hzi.2⟩, by unfold fN; rw [if_neg (by rw [hL.l]; omega)]; exact M17⟩
   ·(show 4 - (i + 1) < 4 - i; omega)
 ·obtain rfl : i = 4 := by omega
  refine cV (dD (dK (eO (aC (aE (aA (wq (aU 6 lN hM14 rfl rfl rfl) rfl ?_)))))))
  refine bG 4 _ lN hM14 rfl rfl rfl rfl rfl (aT rfl) rfl (fun w19 M19 => (aB (aC (aP (eX 4 lN M19 rfl rfl rfl ?_)))))
  exact ⟨by rw [hs]; rfl, M19.below⟩
set_option maxHeartbeats 4000000 in
theorem aJb (w : World) (a b : Body) (ha : Okb a) (hb : Okb b) :
  Calls Tryz.prog 112 #[(.agg (aF a).toArray), (.agg (aF b).toArray)] w (fun ex w' => ∃ v, ex = .returned v ∧ (fun v w' => v = (.agg (fS ((nL a b).1, (nL a b).2.1)).toArray) ∧ Below w.heap.size w w') v w') := by
 refine aI #[.cell 4 168] 14 Tryz.func112 rfl Tryz.results112 Tryz.ntmps112 rfl ?_
 have M0 := Mem.refl w
 refine aE (aA (bP (.agg (List.toArray _)) M0 rfl rfl rfl (fun b1 w1 M1 => (bP (.agg (List.toArray _)) M1 rfl rfl rfl (fun b2 w2 M2 => (aV aAj M2 rfl rfl (fun b3 w3 M3 => (aB (aC (aE (bR [(0, 1), (2, 1), (4, 1), (6, 1), (1, 2), (3, 2), (5, 2), (7, 2), (8, 2), (9, 2)] mixed rfl (by kernel_rfl) (fun w4 hb4 hh4 => ?_))))))))))))
 have M4 := M3.drew hb4 hh4
 refine bV rfl rfl rfl (aU 0 bK M4 rfl rfl rfl) (bV rfl rfl rfl (aU 0 bK M4 rfl rfl rfl) (bV rfl rfl rfl (aU 1 bK M4 rfl rfl rfl) (bV rfl rfl rfl (aU 1 bK M4 rfl rfl rfl) (dS [false, false, false, true] rfl (by kernel_rfl) (bZ bAe rfl rfl (zF _ a ha) ?_)))))
 rintro v5 w5 ⟨rfl, hb5⟩
 have M5 := M4.callB hb5
 refine aB (aC ⟨(eD (bL rfl (aU 1 bK M5 rfl rfl rfl)) (eD (bL rfl (aU 1 bK M5 rfl rfl rfl)) (eD (bL rfl (aU 0 bK M5 rfl rfl rfl)) dT))), ?_⟩)
 refine dS [false, false, true] rfl (by kernel_rfl) (bZ aVo rfl rfl (vQ _ a ha) ?_)
 rintro v6 w6 ⟨rfl, hb6⟩
 have M6 := M5.callB hb6
 refine aB (aC ⟨(eD (bL rfl (aU 1 bK M6 rfl rfl rfl)) (eD (bL rfl (aU 1 bK M6 rfl rfl rfl)) dT)), ?_⟩)
 refine dS [false, true] rfl (by kernel_rfl) (bZ bAe rfl rfl (zF _ b hb) ?_)
 rintro v7 w7 ⟨rfl, hb7⟩
 have M7 := M6.callB hb7
 refine aB (aC ⟨(eD (bL rfl (aU 1 bK M7 rfl rfl rfl)) dT), ?_⟩)
 refine dS [true] rfl (by kernel_rfl) (bZ aVo rfl rfl (vQ _ b hb) ?_)
 rintro v8 w8 ⟨rfl, hb8⟩
 have M8 := M7.callB hb8
 refine aB (aC ⟨dT, ?_⟩)
 refine dS [] rfl (by kernel_rfl) (bZ bIf rfl rfl (aHo _ (yG a) (xR a) (yG b) (xR b) (pB ha) (pB hb)) ?_)
 rintro v9 w9 ⟨rfl, hb9⟩
 have M9 := M8.callB hb9
 refine aB (aC ⟨dT, ?_⟩)
 refine dS [] rfl (by kernel_rfl) (bG 2 _ lN M9 rfl rfl rfl rfl rfl (aT rfl) rfl (fun w10 M10 => ?_))
 refine aB (aC ⟨dT, ?_⟩)
 refine bY (aC (aP (eX 2 lN M10 rfl rfl rfl ?_)))
 exact ⟨rfl, M10.below⟩
set_option maxHeartbeats 8000000 in
theorem aFp (w : World) (a b : Body) (ha : Okb a) (hb : Okb b) (hk : ¬ b.key < a.key) :
  Calls Tryz.prog 75 #[(.agg (aF a).toArray), (.agg (aF b).toArray)] w (fun ex w' => ∃ v, ex = .returned v ∧ (fun v w' => v = .tuple #[.agg (aKe (jL a b)).toArray, .bool (jL a b).isSome] ∧ Below w.heap.size w w') v w') := by
 have hch := xK ha hb
 have hd := aVn ha hb
 have hl := vC hd.1 hd.2
 have hra := ha.r
 have hrb := hb.r
 have hsn : (a.radius + b.radius).natAbs * (a.radius + b.radius).natAbs ≤ 70368744177664 := by have := bAv ha hb; rw [← Int.natAbs_mul_self] at this; omega
 have hax := hch.a.i32.x
 have hay := hch.a.i32.y
 have hbx := hch.b.i32.x
 have hby := hch.b.i32.y
 refine aI #[.cell 4 121, .tmp 5] 72 Tryz.func75 rfl Tryz.results75 Tryz.ntmps75 rfl ?_
 have M0 := Mem.refl w
 refine aE (aA (bP (.agg (List.toArray _)) M0 rfl rfl rfl (fun b1 w1 M1 => (bP (.agg (List.toArray _)) M1 rfl rfl rfl (fun b2 w2 M2 => (aV lT M2 rfl rfl (fun b3 w3 M3 => (wq (aJ (.bool false) rfl) rfl (aB (aC (aE (aE (aA ?_)))))))))))))
 refine wq (aD 0 dH rfl) rfl (wq (aM 1 (.int _ _) bU M3 rfl rfl rfl) rfl (wq (aD 0 dH rfl) rfl (wq (aM 0 (.int _ _) bU M3 rfl rfl rfl) rfl (cX rfl rfl rfl rfl (pA 14 rfl (by omega) ?_)))))
 refine aB (aC (cM rfl (aL (aC (aE (aA (wq (aU 0 bK M3 rfl rfl rfl) rfl (wq (aU 1 bK M3 rfl rfl rfl) rfl (bZ bGk rfl rfl (aJb _ a b ha hb) ?_)))))))))
 rintro v4 w4 ⟨rfl, hb4⟩
 have M4 := M3.callB hb4
 refine aK 22 (.agg (cF (nL a b).1 ++ cF (nL a b).2.1).toArray) rfl (aV aAj M4 rfl rfl (fun b5 w5 M5 => (bG 3 _ lN M5 rfl rfl rfl rfl rfl (aT rfl) rfl (fun w6 M6 => (aB (aC (aE (aA (wq (aD 1 kT rfl) rfl (wq (aM 0 (.int _ _) aR M6 rfl rfl rfl) rfl ?_))))))))))
 refine wq (aZ dO Tryz.underlying2 rfl (fC _ (by omega) (by omega))) rfl (wq (aD 1 kT rfl) rfl (wq (aM 1 (.int _ _) aR M6 rfl rfl rfl) rfl (wq (aZ dO Tryz.underlying2 rfl (fC _ (by omega) (by omega))) rfl (wq (aY rfl rfl (by omega) (by omega)) rfl (bC rfl rfl ?_)))))
 refine aB (aC (aE (aE (aA (wq (aU 3 lN M6 rfl rfl rfl) rfl (bZ aPf rfl rfl (qM _ (nL a b).1 (nL a b).2.1 hch.a hch.b) ?_))))))
 rintro v7 w7 ⟨rfl, hb7⟩
 have M7 := M6.callB hb7
 refine aK 31 (.int .u64 ((pL (pJ (nL a b)) (qE (nL a b)) : Nat) : Int)) rfl (aO rfl rfl (wq (dA lK Tryz.underlying170 rfl) rfl (aK 33 (.int .u64 (((a.radius + b.radius).natAbs : Nat) : Int)) (iE (by rw [fZ]; omega)) (aO rfl rfl (wq (dA lK Tryz.underlying170 rfl) rfl ?_)))))
 refine aK 35 (.int .u64 (((a.radius + b.radius).natAbs : Nat) : Int)) (iE (by rw [fZ]; omega)) (wq (cA (.int _ _) rfl rfl rfl) rfl (aK 36 (.int .u64 (((a.radius + b.radius).natAbs * (a.radius + b.radius).natAbs : Nat) : Int)) (iE (kL _ _ (by omega))) (cX rfl rfl rfl rfl (aB (aC ?_)))))
 refine aS rfl (fun h37 => ?_) (fun h37 => ?_)
 ·refine aE (aA (wq (cP [] _ tK rfl rfl) rfl (bG 2 _ eL M7 rfl rfl rfl rfl rfl (aT rfl) rfl (fun w8 M8 => (wq (aJ (.bool false) rfl) rfl (aB (aC (aP (cH (rS (v2 := .bool false) 2 eL M8 rfl rfl rfl rfl ?_))))))))))
  exact ⟨by unfold jL; first | (rw [if_pos (by omega)]; rfl) | (rw [if_neg (by omega)]; rfl), M8.below⟩
 ·refine aL (aC (aE (aA (wq (aD 2 vV rfl) rfl (wq (aD 0 cQ rfl) rfl (wq (aM 3 (.int _ _) aR M7 rfl rfl rfl) rfl (wq (aZ dO Tryz.underlying2 rfl (fC _ (by omega) (by omega))) rfl (wq (aD 0 vF rfl) rfl ?_))))))))
  refine wq (aD 0 cQ rfl) rfl (wq (aM 3 (.int _ _) aR M7 rfl rfl rfl) rfl (wq (aZ dO Tryz.underlying2 rfl (fC _ (by omega) (by omega))) rfl (wq (fX rfl rfl (by omega) (by omega)) rfl (aK 47 (.int .i64 (pJ (nL a b))) rfl (bC rfl rfl ?_)))))
  refine aB (aC (aE (aA (wq (aD 2 vV rfl) rfl (wq (aD 1 cK rfl) rfl (wq (aM 3 (.int _ _) aR M7 rfl rfl rfl) rfl (wq (aZ dO Tryz.underlying2 rfl (fC _ (by omega) (by omega))) rfl (wq (aD 0 vF rfl) rfl ?_))))))))
  refine wq (aD 1 cK rfl) rfl (wq (aM 3 (.int _ _) aR M7 rfl rfl rfl) rfl (wq (aZ dO Tryz.underlying2 rfl (fC _ (by omega) (by omega))) rfl (wq (fX rfl rfl (by omega) (by omega)) rfl (aK 56 (.int .i64 (qE (nL a b))) rfl (bC rfl rfl ?_)))))
  refine aB (aC (aE (bR [(0, 0), (1, 1), (2, 0), (3, 1), (4, 0), (5, 0), (6, 0), (8, 0), (9, 0), (10, 0), (7, 2), (11, 2), (12, 0), (13, 0), (14, 0), (15, 2), (16, 0)] mixed rfl (by kernel_rfl) (fun w9 hb9 hh9 => ?_))))
  have M9 := M7.drew hb9 hh9
  refine aX rfl rfl rfl (fun _ => aD 0 dH rfl) (bV rfl rfl rfl (aM 0 (.int _ _) bU M9 rfl rfl rfl) (aX rfl rfl rfl (fun _ => aD 0 dH rfl) (bV rfl rfl rfl (aM 1 (.int _ _) bU M9 rfl rfl rfl) (aX rfl rfl rfl (fun _ => cP [(0, .int _ _), (1, .int _ _)] _ xE rfl rfl) ?_))))
  refine eF rfl rfl rfl (eF rfl rfl rfl (eF rfl rfl rfl (eF rfl rfl rfl (eF rfl rfl rfl (dS [false, false] rfl (by kernel_rfl) ?_)))))
  refine bZ bIn rfl rfl (aNw _ (pJ (nL a b)) (qE (nL a b)) hd.1 hd.2) ?_
  rintro v10 w10 ⟨rfl, hb10⟩
  have M10 := M9.callB hb10
  refine aB (aC ⟨(eD (bL rfl (aM 1 (.int _ _) bU M10 rfl rfl rfl)) (eD (bL rfl (aM 0 (.int _ _) bU M10 rfl rfl rfl)) dT)), ?_⟩)
  refine dS [false, false] rfl (by kernel_rfl) (bZ aPq rfl rfl (qN _ (pJ (nL a b)) (qE (nL a b)) hd.1 hd.2) ?_)
  rintro v11 w11 ⟨rfl, hb11⟩
  have M11 := M10.callB hb11
  refine aB (aC ⟨(eD (bL rfl (aM 1 (.int _ _) bU M11 rfl rfl rfl)) (eD (bL rfl (aM 0 (.int _ _) bU M11 rfl rfl rfl)) dT)), ?_⟩)
  refine aX rfl rfl rfl (fun _ => fX rfl rfl (by omega) (by omega)) (aX rfl rfl rfl (fun _ => dA lK Tryz.underlying21 rfl) (aX rfl rfl rfl (fun _ => cP [(0, .agg (List.toArray _)), (1, .agg (List.toArray _)), (2, .int _ _)] _ tK rfl rfl) (dS [true, true] rfl (by kernel_rfl) (bG 2 _ eL M11 rfl rfl rfl rfl rfl (aT rfl) rfl (fun w12 M12 => ?_)))))
  refine aB (aC ⟨dT, ?_⟩)
  refine aX rfl rfl rfl (fun _ => aJ (.bool true) rfl) (bY (aC (aP (rS (v2 := .bool true) 2 eL M12 rfl rfl rfl rfl ?_))))
  exact ⟨by unfold jL; first | (rw [if_pos (by omega)]; rfl) | (rw [if_neg (by omega)]; rfl), M12.below⟩
set_option maxHeartbeats 4000000 in
theorem aTm (w : World) (a b : Body) (ha : Okb a) (hb : Okb b) (hk : b.key < a.key) :
  Calls Tryz.prog 75 #[(.agg (aF a).toArray), (.agg (aF b).toArray)] w (fun ex w' => ∃ v, ex = .returned v ∧ (fun v w' => v = .tuple #[.agg (aKe (jL b a)).toArray, .bool (jL b a).isSome] ∧ Below w.heap.size w w') v w') := by
 refine aI #[.cell 4 121, .tmp 5] 72 Tryz.func75 rfl Tryz.results75 Tryz.ntmps75 rfl ?_
 have M0 := Mem.refl w
 refine aE (aA (bP (.agg (List.toArray _)) M0 rfl rfl rfl (fun b1 w1 M1 => (bP (.agg (List.toArray _)) M1 rfl rfl rfl (fun b2 w2 M2 => (aV lT M2 rfl rfl (fun b3 w3 M3 => (wq (aJ (.bool false) rfl) rfl (aB (aC (aE (aE (aA ?_)))))))))))))
 refine wq (aD 0 dH rfl) rfl (wq (aM 1 (.int _ _) bU M3 rfl rfl rfl) rfl (wq (aD 0 dH rfl) rfl (wq (aM 0 (.int _ _) bU M3 rfl rfl rfl) rfl (cX rfl rfl rfl rfl (jB 14 rfl (by omega) ?_)))))
 refine aB (aC (cC rfl (aE (aA (wq (aU 1 bK M3 rfl rfl rfl) rfl (wq (aU 0 bK M3 rfl rfl rfl) rfl (bZ aYa rfl rfl (aFp _ b a hb ha (by omega)) ?_)))))))
 rintro v4 w4 ⟨rfl, hb4⟩
 have M4 := M3.callB hb4
 refine wq (bO (.agg (List.toArray _)) rfl rfl) rfl (wq (bO (.bool _) rfl rfl) rfl (bG 2 _ eL M4 rfl rfl rfl rfl rfl (aT rfl) rfl (fun w5 M5 => (wq (aJ (.bool _) rfl) rfl (aB (aC (aP (cH (rS (v2 := .bool _) 2 eL M5 rfl rfl rfl rfl ?_)))))))))
 exact ⟨rfl, M5.below⟩
theorem aKd (w : World) (a b : Body) (ha : Okb a) (hb : Okb b) : Calls Tryz.prog 75 #[(.agg (aF a).toArray), (.agg (aF b).toArray)] w (fun ex w' => ∃ v, ex = .returned v ∧ (fun v w' => v = .tuple #[.agg (aKe (kI a b)).toArray, .bool (kI a b).isSome] ∧ Below w.heap.size w w') v w') := by
 unfold kI
 by_cases hk : b.key < a.key
 ·rw [if_pos hk]; exact aTm w a b ha hb hk
 ·rw [if_neg hk]; exact aFp w a b ha hb hk
set_option maxHeartbeats 4000000 in
theorem aAn (w : World) (s : Ch) (x y : Pt) (ba bb bl : Nat) (hx : PtI x) (hy : PtI y) (hO : Own [(some ba, bc (cF s.1) 38), (some bb, bc (cF s.2.1) 38), (some bl, bc [.int .u64 (s.2.2 : Int)] 170)] w) :
  Calls Tryz.prog 238 #[(.agg (cF x).toArray), (.agg (cF y).toArray), .pointer (some ⟨bl, 0, none⟩), .pointer (some ⟨ba, 0, none⟩), .pointer (some ⟨bb, 0, none⟩)] w (fun ex w' => ∃ v, ex = .returned v ∧ (fun v w' => v = .tuple #[] ∧ Mem w (cY [(some ba, bc (cF s.1) 38), (some bb, bc (cF s.2.1) 38), (some bl, bc [.int .u64 (s.2.2 : Int)] 170)]) [(some ba, bc (cF (fN s x y).1) 38), (some bb, bc (cF (fN s x y).2.1) 38), (some bl, bc [.int .u64 ((fN s x y).2.2 : Int)] 170)] w') v w') := by
 refine aI #[] 20 Tryz.func238 rfl Tryz.results238 Tryz.ntmps238 rfl ?_
 have M0 := hO.mem
 refine aE (aA (bP (.agg (List.toArray _)) M0 rfl rfl rfl (fun b1 w1 M1 => (bP (.agg (List.toArray _)) M1 rfl rfl rfl (fun b2 w2 M2 => (aB (aC (aE (aA (wq (aU 3 bI M2 rfl rfl rfl) rfl (wq (aU 4 bI M2 rfl rfl rfl) rfl ?_)))))))))))
 refine bZ aDu rfl rfl (sL _ x y hx.i32 hy.i32) ?_
 rintro v3 w3 ⟨rfl, hb3⟩
 have M3 := M2.callB hb3
 refine wq (bO (.int _ _) rfl rfl) rfl (wq (bO (.int _ _) rfl rfl) rfl (bZ aPr rfl rfl (qR _ (y.1 - x.1) (y.2 - x.2) (hx.inX hy) (hx.inY hy)) ?_))
 rintro v4 w4 ⟨rfl, hb4⟩
 have M4 := M3.callB hb4
 refine bC rfl rfl (aB (aC (aE (aA (aO rfl rfl (wq (aM 2 (.int _ _) cN M4 rfl rfl rfl) rfl (cX rfl rfl rfl rfl (aB (aC ?_)))))))))
 refine aS rfl (fun h16 => ?_) (fun h16 => ?_)
 ·refine bR [(0, 1), (1, 1), (2, 0), (3, 2), (4, 2), (5, 2)] mixed rfl (by kernel_rfl) (fun w5 hb5 hh5 => ?_)
  have M5 := M4.drew hb5 hh5
  refine bV rfl rfl rfl (aU 3 bI M5 rfl rfl rfl) (bV rfl rfl rfl (aU 4 bI M5 rfl rfl rfl) (eF rfl rfl rfl (dS [false, true] rfl (by kernel_rfl) (bG 0 _ bI M5 rfl rfl rfl rfl rfl (aT rfl) rfl (fun w6 M6 => ?_)))))
  refine aB (aC ⟨(eD (bL rfl (aU 4 bI M6 rfl rfl rfl)) dT), ?_⟩)
  refine dS [true] rfl (by kernel_rfl) (bG 1 _ bI M6 rfl rfl rfl rfl rfl (aT rfl) rfl (fun w7 M7 => ?_))
  refine aB (aC ⟨dT, ?_⟩)
  refine dS [] rfl (by kernel_rfl) (cZ 2 (.int _ _) cN M7 rfl rfl rfl rfl rfl rfl (fun w8 M8 => ?_))
  refine aB (aC ⟨dT, ?_⟩)
  refine bY (kR ?_)
  exact ⟨rfl, by unfold fN; first | (rw [if_pos (by omega)]; exact M8.keep [true, true, true, false, false]) | (rw [if_neg (by omega)]; exact M8.keep [true, true, true, false, false])⟩
 ·refine aL (kR ?_)
  exact ⟨rfl, by unfold fN; first | (rw [if_pos (by omega)]; exact M4.keep [true, true, true, false, false]) | (rw [if_neg (by omega)]; exact M4.keep [true, true, true, false, false])⟩
set_option maxHeartbeats 8000000 in
theorem aPc (w : World) (ap aq bp bq : Pt) (h1 : SgI ap aq) (h2 : SgI bp bq) :
  Calls Tryz.prog 221 #[(.agg (cF ap).toArray), (.agg (cF aq).toArray), (.agg (cF bp).toArray), (.agg (cF bq).toArray)] w (fun ex w' => ∃ v, ex = .returned v ∧ (fun v w' => v = .tuple #[(.agg (cF (lZ ap aq bp bq).1).toArray), (.agg (cF (lZ ap aq bp bq).2.1).toArray), .int .u64 ((lZ ap aq bp bq).2.2 : Int)] ∧ Below w.heap.size w w') v w') := by
 refine aI #[.cell 8 38, .cell 9 38, .cell 10 170] 48 Tryz.func221 rfl Tryz.results221 Tryz.ntmps221 rfl ?_
 have M0 := Mem.refl w
 refine aE (aA (bP (.agg (List.toArray _)) M0 rfl rfl rfl (fun b1 w1 M1 => (bP (.agg (List.toArray _)) M1 rfl rfl rfl (fun b2 w2 M2 => (bP (.agg (List.toArray _)) M2 rfl rfl rfl (fun b3 w3 M3 => (bP (.agg (List.toArray _)) M3 rfl rfl rfl (fun b4 w4 M4 => (aV gY M4 rfl rfl (fun b5 w5 M5 => ?_)))))))))))
 refine aV gY M5 rfl rfl (fun b6 w6 M6 => (aV bEf M6 rfl rfl (fun b7 w7 M7 => (aB (aC (aE (aA (cZ 6 (.int _ _) cN M7 rfl rfl rfl rfl rfl rfl (fun w8 M8 => (aB (aC (aE (aA ?_)))))))))))))
 obtain ⟨s, hS⟩ : ∃ z, z = ch0 := ⟨_, rfl⟩
 have hC : ChI s := by rw [hS]; exact aYy
 have M9 : Mem _ _ [_, _, _, _, (some b5, bc (cF ch0.1) 38), (some b6, bc (cF ch0.2.1) 38), (some b7, bc [.int .u64 (ch0.2.2 : Int)] 170)] _ := M8
 rw [← hS] at M9
 refine wq (dU [] [.pointer _, .pointer _, .pointer _] rfl rfl) rfl (wq (aJ (.func _ _ _) rfl) rfl (aB (aC (aE (aE (aA (wq (aU 0 bI M9 rfl rfl rfl) rfl (wq (aU 1 bI M9 rfl rfl rfl) rfl (wq (rH [.agg (List.toArray _), .agg (List.toArray _)] xQ aRg rfl rfl (dE rfl)) rfl ?_)))))))))
 refine aO rfl rfl (aB (aC (aQ (iL 3 (fG (aE (aA (cX rfl rfl rfl rfl (jB 21 rfl (by first | decide | omega) ?_)))))))))
 refine aB (aC (aE (cC rfl (aL (aC (aE (aQ (aE (aA (wq (pC 0 _ xQ bI rfl rfl (by decide) (by decide) rfl rfl) rfl (aV gY M9 rfl rfl (fun b10 w10 M10 => (bG 7 _ bI M10 rfl rfl rfl rfl rfl (aT rfl) rfl (fun w11 M11 => ?_))))))))))))))
 refine aB (aC (bR [(0, 0), (1, 1), (2, 1), (3, 1), (4, 1), (5, 2), (6, 2)] mixed rfl (by kernel_rfl) (fun w12 hb12 hh12 => ?_)))
 have M12 := M11.drew hb12 hh12
 refine aX rfl rfl rfl (fun _ => aH (.func _ _ _) rfl) (bV rfl rfl rfl (aU 7 bI M12 rfl rfl rfl) (bV rfl rfl rfl (aU 2 bI M12 rfl rfl rfl) (bV rfl rfl rfl (aU 3 bI M12 rfl rfl rfl) (bV rfl rfl rfl (aU 7 bI M12 rfl rfl rfl) (dS [true, true, true, false] rfl (by kernel_rfl) ?_)))))
 refine bZ aIs rfl rfl (mJ _ bp bq ap h2 h1.hp) ?_
 rintro v13 w13 ⟨rfl, hb13⟩
 have M13 := M12.callB hb13
 refine aB (aC ⟨(eD (bL rfl (aU 7 bI M13 rfl rfl rfl)) dT), ?_⟩)
 refine dS [true] rfl (by kernel_rfl) (bZ aIe rfl rfl (aAn _ s ap (cB bp bq ap) _ _ _ h1.hp (eM h2) (M13.ownSeg 4 3)) ?_)
 rintro v14 w14 ⟨rfl, hM14⟩
 have M14 : Mem _ _ [_, _, _, _, _, _, _, _] _ := M13.seg 4 3 hM14
 obtain ⟨s, hs⟩ : ∃ z, z = fN s ap (cB bp bq ap) := ⟨_, rfl⟩
 rw [← hs] at M14
 replace hC := hC.step (x := ap) (y := (cB bp bq ap)) h1.hp (eM h2)
 rw [← hs] at hC
 replace hS := hs.trans (congrArg (fun z => fN z ap (cB bp bq ap)) hS)
 refine aB (aC ⟨dT, ?_⟩)
 refine bY (cO (aC (aA (wq (aY rfl rfl (by first | decide | omega) (by first | decide | omega)) rfl (aK 30 (.int .i64 1) (iE (by first | decide | omega)) (aO rfl rfl ?_))))))
 refine aB (aC (fG (aE (aA (cX rfl rfl rfl rfl (jB 21 rfl (by first | decide | omega) (aB (aC (aE ?_)))))))))
 refine cC rfl (aL (aC (aE (aQ (aE (aA (wq (pC 1 _ xQ bI rfl rfl (by decide) (by decide) rfl rfl) rfl (aV gY M14 rfl rfl (fun b15 w15 M15 => (bG 8 _ bI M15 rfl rfl rfl rfl rfl (aT rfl) rfl (fun w16 M16 => (aB (aC ?_)))))))))))))
 refine bR [(0, 0), (1, 1), (2, 1), (3, 1), (4, 1), (5, 2), (6, 2)] mixed rfl (by kernel_rfl) (fun w17 hb17 hh17 => ?_)
 have M17 := M16.drew hb17 hh17
 refine aX rfl rfl rfl (fun _ => aH (.func _ _ _) rfl) (bV rfl rfl rfl (aU 8 bI M17 rfl rfl rfl) (bV rfl rfl rfl (aU 2 bI M17 rfl rfl rfl) (bV rfl rfl rfl (aU 3 bI M17 rfl rfl rfl) (bV rfl rfl rfl (aU 8 bI M17 rfl rfl rfl) (dS [true, true, true, false] rfl (by kernel_rfl) ?_)))))
 refine bZ aIs rfl rfl (mJ _ bp bq aq h2 h1.hq) ?_
 rintro v18 w18 ⟨rfl, hb18⟩
 have M18 := M17.callB hb18
 refine aB (aC ⟨(eD (bL rfl (aU 8 bI M18 rfl rfl rfl)) dT), ?_⟩)
 refine dS [true] rfl (by kernel_rfl) (bZ aIe rfl rfl (aAn _ s aq (cB bp bq aq) _ _ _ h1.hq (eM h2) (M18.ownSeg 4 3)) ?_)
 rintro v19 w19 ⟨rfl, hM19⟩
 have M19 : Mem _ _ [_, _, _, _, _, _, _, _, _] _ := M18.seg 4 3 hM19
 obtain ⟨s, hs⟩ : ∃ z, z = fN s aq (cB bp bq aq) := ⟨_, rfl⟩
 rw [← hs] at M19
 replace hC := hC.step (x := aq) (y := (cB bp bq aq)) h1.hq (eM h2)
 rw [← hs] at hC
 replace hS := hs.trans (congrArg (fun z => fN z aq (cB bp bq aq)) hS)
 refine aB (aC ⟨dT, ?_⟩)
 refine bY (cO (aC (aA (wq (aY rfl rfl (by first | decide | omega) (by first | decide | omega)) rfl (aK 30 (.int .i64 2) (iE (by first | decide | omega)) (aO rfl rfl ?_))))))
 refine aB (aC (fG (aE (aA (cX rfl rfl rfl rfl (pA 21 rfl (by first | decide | omega) (aB (aC (aE ?_)))))))))
 refine cM rfl (cV (dD (dD (eO (aC (aE (aE (aA (wq (aU 2 bI M19 rfl rfl rfl) rfl ?_)))))))))
 refine wq (aU 3 bI M19 rfl rfl rfl) rfl (wq (rH [.agg (List.toArray _), .agg (List.toArray _)] xQ aRg rfl rfl (dE rfl)) rfl (aO rfl rfl (aB (aC (aQ (iL 3 (fG (aE (aA ?_)))))))))
 refine cX rfl rfl rfl rfl (jB 35 rfl (by first | decide | omega) (aB (aC (aE (cC rfl (aL (aC (aE (aQ (aE (aA (wq (pC 0 _ xQ bI rfl rfl (by decide) (by decide) rfl rfl) rfl ?_))))))))))))
 refine aV gY M19 rfl rfl (fun b20 w20 M20 => (bG 9 _ bI M20 rfl rfl rfl rfl rfl (aT rfl) rfl (fun w21 M21 => (aB (aC (bR [(0, 0), (1, 1), (2, 1), (3, 1), (5, 1), (4, 2), (6, 2)] mixed rfl (by kernel_rfl) (fun w22 hb22 hh22 => ?_)))))))
 have M22 := M21.drew hb22 hh22
 refine aX rfl rfl rfl (fun _ => aH (.func _ _ _) rfl) (bV rfl rfl rfl (aU 0 bI M22 rfl rfl rfl) (bV rfl rfl rfl (aU 1 bI M22 rfl rfl rfl) (bV rfl rfl rfl (aU 9 bI M22 rfl rfl rfl) (bV rfl rfl rfl (aU 9 bI M22 rfl rfl rfl) (dS [false, true, true, true] rfl (by kernel_rfl) ?_)))))
 refine bZ aIs rfl rfl (mJ _ ap aq bp h1 h2.hp) ?_
 rintro v23 w23 ⟨rfl, hb23⟩
 have M23 := M22.callB hb23
 refine aB (aC ⟨(eD (bL rfl (aU 9 bI M23 rfl rfl rfl)) dT), ?_⟩)
 refine dS [true] rfl (by kernel_rfl) (bZ aIe rfl rfl (aAn _ s (cB ap aq bp) bp _ _ _ (eM h1) h2.hp (M23.ownSeg 4 3)) ?_)
 rintro v24 w24 ⟨rfl, hM24⟩
 have M24 : Mem _ _ [_, _, _, _, _, _, _, _, _, _] _ := M23.seg 4 3 hM24
 obtain ⟨s, hs⟩ : ∃ z, z = fN s (cB ap aq bp) bp := ⟨_, rfl⟩
 rw [← hs] at M24
 replace hC := hC.step (x := (cB ap aq bp)) (y := bp) (eM h1) h2.hp
 rw [← hs] at hC
 replace hS := hs.trans (congrArg (fun z => fN z (cB ap aq bp) bp) hS)
 refine aB (aC ⟨dT, ?_⟩)
 refine bY (cO (aC (aA (wq (aY rfl rfl (by first | decide | omega) (by first | decide | omega)) rfl (aK 44 (.int .i64 1) (iE (by first | decide | omega)) (aO rfl rfl ?_))))))
 refine aB (aC (fG (aE (aA (cX rfl rfl rfl rfl (jB 35 rfl (by first | decide | omega) (aB (aC (aE ?_)))))))))
 refine cC rfl (aL (aC (aE (aQ (aE (aA (wq (pC 1 _ xQ bI rfl rfl (by decide) (by decide) rfl rfl) rfl (aV gY M24 rfl rfl (fun b25 w25 M25 => (bG 10 _ bI M25 rfl rfl rfl rfl rfl (aT rfl) rfl (fun w26 M26 => (aB (aC ?_)))))))))))))
 refine bR [(0, 0), (1, 1), (2, 1), (3, 1), (5, 1), (4, 2), (6, 2)] mixed rfl (by kernel_rfl) (fun w27 hb27 hh27 => ?_)
 have M27 := M26.drew hb27 hh27
 refine aX rfl rfl rfl (fun _ => aH (.func _ _ _) rfl) (bV rfl rfl rfl (aU 0 bI M27 rfl rfl rfl) (bV rfl rfl rfl (aU 1 bI M27 rfl rfl rfl) (bV rfl rfl rfl (aU 10 bI M27 rfl rfl rfl) (bV rfl rfl rfl (aU 10 bI M27 rfl rfl rfl) (dS [false, true, true, true] rfl (by kernel_rfl) ?_)))))
 refine bZ aIs rfl rfl (mJ _ ap aq bq h1 h2.hq) ?_
 rintro v28 w28 ⟨rfl, hb28⟩
 have M28 := M27.callB hb28
 refine aB (aC ⟨(eD (bL rfl (aU 10 bI M28 rfl rfl rfl)) dT), ?_⟩)
 refine dS [true] rfl (by kernel_rfl) (bZ aIe rfl rfl (aAn _ s (cB ap aq bq) bq _ _ _ (eM h1) h2.hq (M28.ownSeg 4 3)) ?_)
 rintro v29 w29 ⟨rfl, hM29⟩
 have M29 : Mem _ _ [_, _, _, _, _, _, _, _, _, _, _] _ := M28.seg 4 3 hM29
 obtain ⟨s, hs⟩ : ∃ z, z = fN s (cB ap aq bq) bq := ⟨_, rfl⟩
 rw [← hs] at M29
 replace hC := hC.step (x := (cB ap aq bq)) (y := bq) (eM h1) h2.hq
 rw [← hs] at hC
 replace hS := hs.trans (congrArg (fun z => fN z (cB ap aq bq) bq) hS)
 refine aB (aC ⟨dT, ?_⟩)
 refine bY (cO (aC (aA (wq (aY rfl rfl (by first | decide | omega) (by first | decide | omega)) rfl (aK 44 (.int .i64 2) (iE (by first | decide | omega)) (aO rfl rfl ?_))))))
 refine aB (aC (fG (aE (aA (cX rfl rfl rfl rfl (pA 35 rfl (by first | decide | omega) (aB (aC (aE ?_)))))))))
 refine cM rfl (cV (dD (dD (eO (aC (aE (bR [(0, 1), (1, 1), (2, 1), (3, 2), (4, 2), (5, 2)] mixed rfl (by kernel_rfl) (fun w30 hb30 hh30 => ?_))))))))
 have M30 := M29.drew hb30 hh30
 refine bV rfl rfl rfl (aU 4 bI M30 rfl rfl rfl) (bV rfl rfl rfl (aU 5 bI M30 rfl rfl rfl) (bV rfl rfl rfl (aM 6 (.int _ _) cN M30 rfl rfl rfl) (dS [false, false, true] rfl (by kernel_rfl) (bG 4 _ bI M30 rfl rfl rfl rfl rfl (aT rfl) rfl (fun w31 M31 => ?_)))))
 refine aB (aC ⟨(eD (bL rfl (aM 6 (.int _ _) cN M31 rfl rfl rfl)) (eD (bL rfl (aU 5 bI M31 rfl rfl rfl)) dT)), ?_⟩)
 refine dS [false, true] rfl (by kernel_rfl) (bG 5 _ bI M31 rfl rfl rfl rfl rfl (aT rfl) rfl (fun w32 M32 => ?_))
 refine aB (aC ⟨(eD (bL rfl (aM 6 (.int _ _) cN M32 rfl rfl rfl)) dT), ?_⟩)
 refine dS [true] rfl (by kernel_rfl) (cZ 6 (.int _ _) cN M32 rfl rfl rfl rfl rfl rfl (fun w33 M33 => ?_))
 refine aB (aC ⟨dT, ?_⟩)
 refine bY (aC (aP (bHj 4 5 6 bI cN M33 rfl rfl rfl rfl rfl rfl rfl rfl ?_)))
 exact ⟨by rw [show s = lZ ap aq bp bq from hS], M33.below⟩
set_option maxHeartbeats 4000000 in
theorem aPt (w : World) (ap aq bp bq : Pt) (h1 : SgI ap aq) (h2 : SgI bp bq) :
  Calls Tryz.prog 199 #[(.agg (cF ap).toArray), (.agg (cF aq).toArray), (.agg (cF bp).toArray), (.agg (cF bq).toArray)] w (fun ex w' => ∃ v, ex = .returned v ∧ (fun v w' => v = .tuple #[(.agg (cF (lZ ap aq bp bq).1).toArray), (.agg (cF (lZ ap aq bp bq).2.1).toArray)] ∧ Below w.heap.size w w') v w') := by
 refine aI #[.cell 8 38, .cell 9 38] 21 Tryz.func199 rfl Tryz.results199 Tryz.ntmps199 rfl ?_
 have M0 := Mem.refl w
 refine aE (aA (bP (.agg (List.toArray _)) M0 rfl rfl rfl (fun b1 w1 M1 => (bP (.agg (List.toArray _)) M1 rfl rfl rfl (fun b2 w2 M2 => (bP (.agg (List.toArray _)) M2 rfl rfl rfl (fun b3 w3 M3 => (bP (.agg (List.toArray _)) M3 rfl rfl rfl (fun b4 w4 M4 => (aV gY M4 rfl rfl (fun b5 w5 M5 => ?_)))))))))))
 refine aV gY M5 rfl rfl (fun b6 w6 M6 => (aB (aC (aE (aA (wq (aU 0 bI M6 rfl rfl rfl) rfl (wq (aU 1 bI M6 rfl rfl rfl) rfl (wq (aU 2 bI M6 rfl rfl rfl) rfl (wq (aU 3 bI M6 rfl rfl rfl) rfl ?_)))))))))
 refine bZ bGm rfl rfl (aPc _ ap aq bp bq h1 h2) ?_
 rintro v7 w7 ⟨rfl, hb7⟩
 have M7 := M6.callB hb7
 refine wq (aH (.tuple (List.toArray _)) rfl) rfl (wq (bO (.agg (List.toArray _)) rfl rfl) rfl (wq (bO (.agg (List.toArray _)) rfl rfl) rfl (wq (bO (.int _ _) rfl rfl) rfl (bG 4 _ bI M7 rfl rfl rfl rfl rfl (aT rfl) rfl (fun w8 M8 => (bG 5 _ bI M8 rfl rfl rfl rfl rfl (aT rfl) rfl (fun w9 M9 => ?_)))))))
 refine aB (aC (aE (bR [(0, 1), (1, 1), (2, 2), (3, 2)] mixed rfl (by kernel_rfl) (fun w10 hb10 hh10 => ?_))))
 have M10 := M9.drew hb10 hh10
 refine bV rfl rfl rfl (aU 4 bI M10 rfl rfl rfl) (bV rfl rfl rfl (aU 5 bI M10 rfl rfl rfl) (dS [false, true] rfl (by kernel_rfl) (bG 4 _ bI M10 rfl rfl rfl rfl rfl (aT rfl) rfl (fun w11 M11 => ?_))))
 refine aB (aC ⟨(eD (bL rfl (aU 5 bI M11 rfl rfl rfl)) dT), ?_⟩)
 refine dS [true] rfl (by kernel_rfl) (bG 5 _ bI M11 rfl rfl rfl rfl rfl (aT rfl) rfl (fun w12 M12 => ?_))
 refine aB (aC ⟨dT, ?_⟩)
 refine bY (aC (aP (aQq 4 5 bI M12 rfl rfl rfl rfl rfl rfl ?_)))
 exact ⟨rfl, M12.below⟩
end Go.Proofs.YtlmcphcgiclanaaGreatDoor
