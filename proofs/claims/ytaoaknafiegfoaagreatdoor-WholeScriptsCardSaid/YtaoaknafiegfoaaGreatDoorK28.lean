/- Part of the proof of the laws of this seat: Z1, Z1b, Z1c, Z1d, W3, Z2, W4, Z3, Z4, W5. No conditions. -/
import Derived.Test.YtaoaknafiegfoaaGreatDoorK2
import Derived.Test.YtaoaknafiegfoaaGreatDoorK5
import Derived.Test.YtaoaknafiegfoaaGreatDoorK12
import Derived.Test.YtaoaknafiegfoaaGreatDoorK18
import Derived.Test.YtaoaknafiegfoaaGreatDoorK11
import Derived.Test.YtaoaknafiegfoaaGreatDoorK17
set_option linter.unusedVariables false
set_option linter.unusedSimpArgs false
set_option linter.unnecessarySimpa false
namespace Go.Proofs.YtaoaknafiegfoaaGreatDoor
open Go.Bil
open Go.RowKit (Below)
open Go.Proofs
set_option maxHeartbeats 8000000 in
theorem yB (w : World) (a : Int) (h0 : -9223372036854775808 ≤ a) (h1 : a ≤ 9223372036854775807) :
  Calls Tryz.prog 266 #[.int .i64 a] w (fun ex w' => ∃ v, ex = .returned v ∧ (fun v w' => v = (.agg ((bRb a.natAbs).map lI).toArray) ∧ Below w.heap.size w w') v w') := by
 obtain ⟨m, hm⟩ : ∃ m, m = a.natAbs := ⟨_, rfl⟩
 refine aI #[.cell 2 344] 24 Tryz.func266 rfl Tryz.results266 Tryz.ntmps266 rfl ?_
 have M0 := Mem.refl w
 refine aE (aA (aS uB M0 rfl rfl (fun b1 w1 M1 => (aB (aC (aE (aA (aS uB M1 rfl rfl (fun b2 w2 M2 => (aB (aC (aE (aA (aP rfl rfl ?_))))))))))))))
 refine wq (dA lW Tryz.underlying237 rfl) rfl (bI rfl rfl (aB (aC (aE (aE (aA (aP rfl rfl (cZ rfl rfl rfl rfl (aB (aC ?_))))))))))
 refine aW rfl (fun h9 => ?_) (fun h9 => ?_)
 ·refine aA (aP rfl rfl (wq (qQ rfl) rfl (aK 11 (.int .u64 ((m : Nat) : Int)) (iE (by rw [gB, gB]; omega)) (bI rfl rfl (aB (aC (aE (aE (aA ?_)))))))))
  refine bI rfl rfl (aB (aC (aQ (iR 5 (fK (aE (aE (aA (aP rfl rfl (cZ rfl rfl rfl rfl ?_))))))))))
  refine kZ 13 rfl (by first | decide | omega) (aB (aC (cF rfl (aL (aC (aE (aQ (aE (aA (aP rfl rfl (aP rfl rfl ?_)))))))))))
  refine aK 17 (.int .u64 ((m : Nat) : Int)) (iE (by first | rfl | (rw [gB]; omega) | (rw [gB, gB]; omega))) (wq (iT rfl rfl (by decide)) rfl (aK 18 (.int .u64 ((m % 65536 : Nat) : Int)) (iE (jF (m) 65536)) (wq (aD 0 bU rfl) rfl (wq (cA (0) cY rfl rfl rfl (by decide)) rfl ?_))))
  refine dD 1 (.int _ _) cQ M2 rfl rfl rfl rfl rfl rfl (fun w3 M3 => (aB (aC (aA (aP rfl rfl (aK 21 (.int .u64 ((m : Nat) : Int)) (iE (by first | rfl | (rw [gB]; omega) | (rw [gB, gB]; omega))) (wq (fZ rfl rfl (by decide)) rfl (aK 22 (.int .u64 ((m / 65536 : Nat) : Int)) (iE (iO (m) 65536 (by omega))) ?_))))))))
  refine bI rfl rfl (aB (cV (aC (aA (aP rfl rfl (wq (aY rfl rfl (by first | decide | omega) (by first | decide | omega)) rfl ?_))))))
  refine aK 15 (.int .i64 1) (iE (by first | decide | omega)) (bI rfl rfl (aB (aC (fK (eC (fr := [(2, .pointer _), (3, .pointer _), (4, .int _ _), (5, .int .i64 1)]) (bA rfl (bA rfl (bA rfl (bA rfl eB)))) (fun ρ4 => (aE (aE (aA ?_)))))))))
  refine aP rfl rfl (cZ rfl rfl rfl rfl (kZ 13 rfl (by first | decide | omega) (aB (aC (cF rfl (aL (aC (aE (aQ (aE (aA ?_)))))))))))
  refine aP rfl rfl (aP rfl rfl (aK 17 (.int .u64 ((m / 65536 : Nat) : Int)) (iE (by first | rfl | (rw [gB]; omega) | (rw [gB, gB]; omega))) (wq (iT rfl rfl (by decide)) rfl (aK 18 (.int .u64 ((m / 65536 % 65536 : Nat) : Int)) (iE (jF (m / 65536) 65536)) (wq (aD 0 bU rfl) rfl ?_)))))
  refine wq (cA (1) cY rfl rfl rfl (by decide)) rfl (dD 1 (.int _ _) cQ M3 rfl rfl rfl rfl rfl rfl (fun w5 M5 => (aB (aC (aA (aP rfl rfl (aK 21 (.int .u64 ((m / 65536 : Nat) : Int)) (iE (by first | rfl | (rw [gB]; omega) | (rw [gB, gB]; omega))) (wq (fZ rfl rfl (by decide)) rfl ?_))))))))
  refine aK 22 (.int .u64 ((m / 65536 / 65536 : Nat) : Int)) (iE (iO (m / 65536) 65536 (by omega))) (bI rfl rfl (aB (cV (aC (aA (aP rfl rfl ?_))))))
  refine wq (aY rfl rfl (by first | decide | omega) (by first | decide | omega)) rfl (aK 15 (.int .i64 2) (iE (by first | decide | omega)) (bI rfl rfl (aB (aC (fK (eC (fr := [(2, .pointer _), (3, .pointer _), (4, .int _ _), (5, .int .i64 2)]) (bA rfl (bA rfl (bA rfl (bA rfl eB)))) (fun ρ6 => ?_)))))))
  refine aE (aE (aA (aP rfl rfl (cZ rfl rfl rfl rfl (kZ 13 rfl (by first | decide | omega) (aB (aC (cF rfl ?_))))))))
  refine aL (aC (aE (aQ (aE (aA (aP rfl rfl (aP rfl rfl (aK 17 (.int .u64 ((m / 65536 / 65536 : Nat) : Int)) (iE (by first | rfl | (rw [gB]; omega) | (rw [gB, gB]; omega))) (wq (iT rfl rfl (by decide)) rfl (aK 18 (.int .u64 ((m / 65536 / 65536 % 65536 : Nat) : Int)) (iE (jF (m / 65536 / 65536) 65536)) ?_))))))))))
  refine wq (aD 0 bU rfl) rfl (wq (cA (2) cY rfl rfl rfl (by decide)) rfl (dD 1 (.int _ _) cQ M5 rfl rfl rfl rfl rfl rfl (fun w7 M7 => (aB (aC (aA (aP rfl rfl (aK 21 (.int .u64 ((m / 65536 / 65536 : Nat) : Int)) (iE (by first | rfl | (rw [gB]; omega) | (rw [gB, gB]; omega))) ?_))))))))
  refine wq (fZ rfl rfl (by decide)) rfl (aK 22 (.int .u64 ((m / 65536 / 65536 / 65536 : Nat) : Int)) (iE (iO (m / 65536 / 65536) 65536 (by omega))) (bI rfl rfl (aB (cV (aC (aA ?_))))))
  refine aP rfl rfl (wq (aY rfl rfl (by first | decide | omega) (by first | decide | omega)) rfl (aK 15 (.int .i64 3) (iE (by first | decide | omega)) (bI rfl rfl (aB (aC (fK ?_))))))
  refine eC (fr := [(2, .pointer _), (3, .pointer _), (4, .int _ _), (5, .int .i64 3)]) (bA rfl (bA rfl (bA rfl (bA rfl eB)))) (fun ρ8 => (aE (aE (aA (aP rfl rfl (cZ rfl rfl rfl rfl (kZ 13 rfl (by first | decide | omega) (aB (aC ?_)))))))))
  refine cF rfl (aL (aC (aE (aQ (aE (aA (aP rfl rfl (aP rfl rfl (aK 17 (.int .u64 ((m / 65536 / 65536 / 65536 : Nat) : Int)) (iE (by first | rfl | (rw [gB]; omega) | (rw [gB, gB]; omega))) (wq (iT rfl rfl (by decide)) rfl ?_))))))))))
  refine aK 18 (.int .u64 ((m / 65536 / 65536 / 65536 % 65536 : Nat) : Int)) (iE (jF (m / 65536 / 65536 / 65536) 65536)) (wq (aD 0 bU rfl) rfl (wq (cA (3) cY rfl rfl rfl (by decide)) rfl (dD 1 (.int _ _) cQ M7 rfl rfl rfl rfl rfl rfl (fun w9 M9 => (aB (aC (aA ?_)))))))
  refine aP rfl rfl (aK 21 (.int .u64 ((m / 65536 / 65536 / 65536 : Nat) : Int)) (iE (by first | rfl | (rw [gB]; omega) | (rw [gB, gB]; omega))) (wq (fZ rfl rfl (by decide)) rfl (aK 22 (.int .u64 ((m / 65536 / 65536 / 65536 / 65536 : Nat) : Int)) (iE (iO (m / 65536 / 65536 / 65536) 65536 (by omega))) ?_)))
  refine bI rfl rfl (aB (cV (aC (aA (aP rfl rfl (wq (aY rfl rfl (by first | decide | omega) (by first | decide | omega)) rfl ?_))))))
  refine aK 15 (.int .i64 4) (iE (by first | decide | omega)) (bI rfl rfl (aB (aC (fK (eC (fr := [(2, .pointer _), (3, .pointer _), (4, .int _ _), (5, .int .i64 4)]) (bA rfl (bA rfl (bA rfl (bA rfl eB)))) (fun ρ10 => (aE (aE (aA ?_)))))))))
  refine aP rfl rfl (cZ rfl rfl rfl rfl (pE 13 rfl (by first | decide | omega) (aB (aC (cJ rfl (cX ?_))))))
  refine dF (dF (eS (aC (aE (aA (wq (aX 1 nW M9 rfl rfl rfl) rfl (bG 0 _ nW M9 rfl rfl rfl rfl rfl (aR rfl) rfl (fun w11 M11 => (aB (aC (aO ?_)))))))))))
  refine eL 0 nW M11 rfl rfl rfl ?_
  exact ⟨by rw [← hm]; rfl, M11.below⟩
 ·refine aL (aC (aE (aE (aA (bI rfl rfl (aB (aC (aQ (iR 5 (fK (aE (aE (aA (aP rfl rfl ?_))))))))))))))
  refine cZ rfl rfl rfl rfl (kZ 13 rfl (by first | decide | omega) (aB (aC (cF rfl (aL (aC (aE (aQ (aE (aA (aP rfl rfl ?_)))))))))))
  refine aP rfl rfl (aK 17 (.int .u64 ((m : Nat) : Int)) (iE (by first | rfl | (rw [gB]; omega) | (rw [gB, gB]; omega))) (wq (iT rfl rfl (by decide)) rfl (aK 18 (.int .u64 ((m % 65536 : Nat) : Int)) (iE (jF (m) 65536)) (wq (aD 0 bU rfl) rfl (wq (cA (0) cY rfl rfl rfl (by decide)) rfl ?_)))))
  refine dD 1 (.int _ _) cQ M2 rfl rfl rfl rfl rfl rfl (fun w12 M12 => (aB (aC (aA (aP rfl rfl (aK 21 (.int .u64 ((m : Nat) : Int)) (iE (by first | rfl | (rw [gB]; omega) | (rw [gB, gB]; omega))) (wq (fZ rfl rfl (by decide)) rfl (aK 22 (.int .u64 ((m / 65536 : Nat) : Int)) (iE (iO (m) 65536 (by omega))) ?_))))))))
  refine bI rfl rfl (aB (cV (aC (aA (aP rfl rfl (wq (aY rfl rfl (by first | decide | omega) (by first | decide | omega)) rfl ?_))))))
  refine aK 15 (.int .i64 1) (iE (by first | decide | omega)) (bI rfl rfl (aB (aC (fK (eC (fr := [(2, .pointer _), (3, .pointer _), (4, .int _ _), (5, .int .i64 1)]) (bA rfl (bA rfl (bA rfl (bA rfl eB)))) (fun ρ13 => (aE (aE (aA ?_)))))))))
  refine aP rfl rfl (cZ rfl rfl rfl rfl (kZ 13 rfl (by first | decide | omega) (aB (aC (cF rfl (aL (aC (aE (aQ (aE (aA ?_)))))))))))
  refine aP rfl rfl (aP rfl rfl (aK 17 (.int .u64 ((m / 65536 : Nat) : Int)) (iE (by first | rfl | (rw [gB]; omega) | (rw [gB, gB]; omega))) (wq (iT rfl rfl (by decide)) rfl (aK 18 (.int .u64 ((m / 65536 % 65536 : Nat) : Int)) (iE (jF (m / 65536) 65536)) (wq (aD 0 bU rfl) rfl ?_)))))
  refine wq (cA (1) cY rfl rfl rfl (by decide)) rfl (dD 1 (.int _ _) cQ M12 rfl rfl rfl rfl rfl rfl (fun w14 M14 => (aB (aC (aA (aP rfl rfl (aK 21 (.int .u64 ((m / 65536 : Nat) : Int)) (iE (by first | rfl | (rw [gB]; omega) | (rw [gB, gB]; omega))) (wq (fZ rfl rfl (by decide)) rfl ?_))))))))
  refine aK 22 (.int .u64 ((m / 65536 / 65536 : Nat) : Int)) (iE (iO (m / 65536) 65536 (by omega))) (bI rfl rfl (aB (cV (aC (aA (aP rfl rfl ?_))))))
  refine wq (aY rfl rfl (by first | decide | omega) (by first | decide | omega)) rfl (aK 15 (.int .i64 2) (iE (by first | decide | omega)) (bI rfl rfl (aB (aC (fK (eC (fr := [(2, .pointer _), (3, .pointer _), (4, .int _ _), (5, .int .i64 2)]) (bA rfl (bA rfl (bA rfl (bA rfl eB)))) (fun ρ15 => ?_)))))))
  refine aE (aE (aA (aP rfl rfl (cZ rfl rfl rfl rfl (kZ 13 rfl (by first | decide | omega) (aB (aC (cF rfl ?_))))))))
  refine aL (aC (aE (aQ (aE (aA (aP rfl rfl (aP rfl rfl (aK 17 (.int .u64 ((m / 65536 / 65536 : Nat) : Int)) (iE (by first | rfl | (rw [gB]; omega) | (rw [gB, gB]; omega))) (wq (iT rfl rfl (by decide)) rfl (aK 18 (.int .u64 ((m / 65536 / 65536 % 65536 : Nat) : Int)) (iE (jF (m / 65536 / 65536) 65536)) ?_))))))))))
  refine wq (aD 0 bU rfl) rfl (wq (cA (2) cY rfl rfl rfl (by decide)) rfl (dD 1 (.int _ _) cQ M14 rfl rfl rfl rfl rfl rfl (fun w16 M16 => (aB (aC (aA (aP rfl rfl (aK 21 (.int .u64 ((m / 65536 / 65536 : Nat) : Int)) (iE (by first | rfl | (rw [gB]; omega) | (rw [gB, gB]; omega))) ?_))))))))
  refine wq (fZ rfl rfl (by decide)) rfl (aK 22 (.int .u64 ((m / 65536 / 65536 / 65536 : Nat) : Int)) (iE (iO (m / 65536 / 65536) 65536 (by omega))) (bI rfl rfl (aB (cV (aC (aA ?_))))))
  refine aP rfl rfl (wq (aY rfl rfl (by first | decide | omega) (by first | decide | omega)) rfl (aK 15 (.int .i64 3) (iE (by first | decide | omega)) (bI rfl rfl (aB (aC (fK ?_))))))
  refine eC (fr := [(2, .pointer _), (3, .pointer _), (4, .int _ _), (5, .int .i64 3)]) (bA rfl (bA rfl (bA rfl (bA rfl eB)))) (fun ρ17 => (aE (aE (aA (aP rfl rfl (cZ rfl rfl rfl rfl (kZ 13 rfl (by first | decide | omega) (aB (aC ?_)))))))))
  refine cF rfl (aL (aC (aE (aQ (aE (aA (aP rfl rfl (aP rfl rfl (aK 17 (.int .u64 ((m / 65536 / 65536 / 65536 : Nat) : Int)) (iE (by first | rfl | (rw [gB]; omega) | (rw [gB, gB]; omega))) (wq (iT rfl rfl (by decide)) rfl ?_))))))))))
  refine aK 18 (.int .u64 ((m / 65536 / 65536 / 65536 % 65536 : Nat) : Int)) (iE (jF (m / 65536 / 65536 / 65536) 65536)) (wq (aD 0 bU rfl) rfl (wq (cA (3) cY rfl rfl rfl (by decide)) rfl (dD 1 (.int _ _) cQ M16 rfl rfl rfl rfl rfl rfl (fun w18 M18 => (aB (aC (aA ?_)))))))
  refine aP rfl rfl (aK 21 (.int .u64 ((m / 65536 / 65536 / 65536 : Nat) : Int)) (iE (by first | rfl | (rw [gB]; omega) | (rw [gB, gB]; omega))) (wq (fZ rfl rfl (by decide)) rfl (aK 22 (.int .u64 ((m / 65536 / 65536 / 65536 / 65536 : Nat) : Int)) (iE (iO (m / 65536 / 65536 / 65536) 65536 (by omega))) ?_)))
  refine bI rfl rfl (aB (cV (aC (aA (aP rfl rfl (wq (aY rfl rfl (by first | decide | omega) (by first | decide | omega)) rfl ?_))))))
  refine aK 15 (.int .i64 4) (iE (by first | decide | omega)) (bI rfl rfl (aB (aC (fK (eC (fr := [(2, .pointer _), (3, .pointer _), (4, .int _ _), (5, .int .i64 4)]) (bA rfl (bA rfl (bA rfl (bA rfl eB)))) (fun ρ19 => (aE (aE (aA ?_)))))))))
  refine aP rfl rfl (cZ rfl rfl rfl rfl (pE 13 rfl (by first | decide | omega) (aB (aC (cJ rfl (cX ?_))))))
  refine dF (dF (eS (aC (aE (aA (wq (aX 1 nW M18 rfl rfl rfl) rfl (bG 0 _ nW M18 rfl rfl rfl rfl rfl (aR rfl) rfl (fun w20 M20 => (aB (aC (aO ?_)))))))))))
  refine eL 0 nW M20 rfl rfl rfl ?_
  exact ⟨by rw [← hm]; rfl, M20.below⟩
set_option maxHeartbeats 64000000 in
set_option maxRecDepth 10000 in
theorem vK (w : World) (a b : Int) (ha0 : -9223372036854775808 ≤ a) (ha1 : a ≤ 9223372036854775807) (hb0 : -9223372036854775808 ≤ b) (hb1 : b ≤ 9223372036854775807) :
  Calls Tryz.prog 251 #[.int .i64 a, .int .i64 b] w (fun ex w' => ∃ v, ex = .returned v ∧ (fun v w' => ∃ D : List Nat, v = (.agg ((D).map lI).toArray) ∧ D.length = 8 ∧ (∀ x ∈ D, x < 65536) ∧ tX D = a.natAbs * b.natAbs ∧ Below w.heap.size w w') v w') := by
 obtain ⟨x0, x1, x2, x3, hx, hx0, hx1, hx2, hx3, hX⟩ := bJp (m := a.natAbs) (by omega)
 obtain ⟨y0, y1, y2, y3, hy, hy0, hy1, hy2, hy3, hY⟩ := bJp (m := b.natAbs) (by omega)
 refine aI #[.cell 4 344] 57 Tryz.func251 rfl Tryz.results251 Tryz.ntmps251 rfl ?_
 have M0 := Mem.refl w
 refine aE (aA (aS uB M0 rfl rfl (fun b1 w1 M1 => (aB (aC (aE (aA (aP rfl rfl (bY bDb rfl rfl (yB _ a ha0 ha1) ?_)))))))))
 rintro v2 w2 ⟨rfl, hb2⟩
 have M2 := M1.callB hb2
 refine aK 13 (.agg (List.map lI [x0, x1, x2, x3, 0, 0, 0, 0]).toArray) (congrArg (fun l => Value.agg (List.map lI l).toArray) hx) (aS uB M2 rfl rfl (fun b3 w3 M3 => (bG 1 _ nW M3 rfl rfl rfl rfl rfl (aR rfl) rfl (fun w4 M4 => (aB (aC (aE (aA (aP rfl rfl ?_)))))))))
 refine bY bDb rfl rfl (yB _ b hb0 hb1) ?_
 rintro v5 w5 ⟨rfl, hb5⟩
 have M5 := M4.callB hb5
 refine aK 15 (.agg (List.map lI [y0, y1, y2, y3, 0, 0, 0, 0]).toArray) (congrArg (fun l => Value.agg (List.map lI l).toArray) hy) (aS uB M5 rfl rfl (fun b6 w6 M6 => (bG 2 _ nW M6 rfl rfl rfl rfl rfl (aR rfl) rfl (fun w7 M7 => (aB (aC (aE (aA (aS uB M7 rfl rfl (fun b8 w8 M8 => ?_))))))))))
 refine aB (aC (aE (aE (aA (bI rfl rfl (aB (aC (aQ (iR 5 (fK (aE (aE (aA (aP rfl rfl ?_))))))))))))))
 refine cZ rfl rfl rfl rfl (kZ 17 rfl (by first | decide | omega) (aB (aC (cF rfl (aL (aC (aE (aQ (aE (aA (bI rfl rfl ?_)))))))))))
 refine aB (aC (aE (aE (aA (bI rfl rfl (aB (aC (aQ (iR 5 (fK (aE (aE (aA (aP rfl rfl ?_))))))))))))))
 refine cZ rfl rfl rfl rfl (kZ 21 rfl (by first | decide | omega) (aB (aC (cF rfl (aL (aC (aE (aQ (aE (bQ [(0, 0), (1, 0), (2, 0), (3, 0), (4, 0), (5, 1), (6, 0), (7, 0), (8, 0), (9, 1), (10, 0), (11, 0), (12, 0), (13, 1), (14, 0), (15, 0), (16, 0), (17, 0), (18, 0)] mixed rfl (by kernel_rfl) (fun w9 hb9 hh9 => ?_)))))))))))
 have M9 := M8.drew hb9 hh9
 obtain ⟨t00, ht00, ba00, bb00, bc00, bd00, be00⟩ := fW (z := 0) (c := 0) (x := x0) (y := y0) (by decide) (by decide) hx0 hy0
 refine eF rfl rfl rfl (eF rfl rfl rfl (aV rfl rfl rfl (fun _ => aY rfl rfl (by first | decide | omega) (by first | decide | omega)) (aV rfl rfl rfl (fun _ => aD 0 bU rfl) (aV rfl rfl rfl (fun _ => cA (0) cY rfl rfl rfl (by decide)) (bS rfl rfl rfl (aM 3 (.int _ _) cQ M9 rfl rfl rfl) ?_)))))
 refine eF rfl rfl rfl (aV rfl rfl rfl (fun _ => aD 0 bU rfl) (aV rfl rfl rfl (fun _ => cA (0) cY rfl rfl rfl (by decide)) (bS rfl rfl rfl (aM 1 (.int _ _) cQ M9 rfl rfl rfl) (eF rfl rfl rfl (aV rfl rfl rfl (fun _ => aD 0 bU rfl) ?_)))))
 refine aV rfl rfl rfl (fun _ => cA (0) cY rfl rfl rfl (by decide)) (bS rfl rfl rfl (aM 2 (.int _ _) cQ M9 rfl rfl rfl) (aV rfl rfl rfl (fun _ => bZ (.int _ _) rfl rfl rfl) (dX 38 (.int .u64 ((x0 * y0 : Nat) : Int)) (iE (lA x0 y0 ba00)) (aV rfl rfl rfl (fun _ => bZ (.int _ _) rfl rfl rfl) ?_))))
 refine dX 39 (.int .u64 ((0 + x0 * y0 : Nat) : Int)) (iE (lB (0) (x0 * y0) bb00)) (eF rfl rfl rfl (aV rfl rfl rfl (fun _ => bZ (.int _ _) rfl rfl rfl) (dX 41 (.int .u64 (t00 : Int)) (iE ((lB (0 + x0 * y0) (0) bc00).trans (congrArg _ ht00.symm))) (mA rfl rfl rfl (bX ?_)))))
 refine aC (aE (aA (aP rfl rfl (aP rfl rfl (wq (aY rfl rfl (by first | decide | omega) (by first | decide | omega)) rfl (aK 44 (.int .i64 0) (iE (by first | decide | omega)) (aP rfl rfl ?_)))))))
 refine wq (iT rfl rfl (by decide)) rfl (aK 46 (.int .u64 ((t00 % 65536 : Nat) : Int)) (iE (jF t00 65536)) (wq (aD 0 bU rfl) rfl (wq (cA (0) cY rfl rfl rfl (by decide)) rfl (dD 3 (.int _ _) cQ M9 rfl rfl rfl rfl rfl rfl (fun w10 M10 => (aB (aC (aA ?_))))))))
 refine aP rfl rfl (wq (fZ rfl rfl (by decide)) rfl (aK 50 (.int .u64 ((t00 / 65536 : Nat) : Int)) (iE (iO t00 65536 bd00)) (bI rfl rfl (aB (cV ?_)))))
 refine aC (aA (aP rfl rfl (wq (aY rfl rfl (by first | decide | omega) (by first | decide | omega)) rfl (aK 23 (.int .i64 1) (iE (by first | decide | omega)) (bI rfl rfl (aB ?_))))))
 refine aC (fK (eC (fr := [(4, .pointer _), (5, .pointer _), (6, .pointer _), (7, .pointer _), (8, .int .i64 0), (9, .int _ _), (10, .int .i64 1), (11, .int _ _), (16, .int .i64 0), (17, .bool true)]) (bA rfl (bA rfl (bA rfl (bA rfl (bA rfl (bA rfl (bA rfl (bA rfl (bA rfl (bA rfl eB)))))))))) (fun ρ11 => ?_)))
 have M12 : Mem _ _ [_, _, _, (some _, bc [.int .u64 ((t00 % 65536 : Nat) : Int), .int .u64 0, .int .u64 0, .int .u64 0, .int .u64 0, .int .u64 0, .int .u64 0, .int .u64 0] 344)] _ := M10
 refine aE (aE (aA (aP rfl rfl (cZ rfl rfl rfl rfl (kZ 21 rfl (by first | decide | omega) (aB (aC (cF rfl ?_))))))))
 refine aL (aC (aE (aQ (aE (bQ [(0, 0), (1, 0), (2, 0), (3, 0), (4, 0), (5, 1), (6, 0), (7, 0), (8, 0), (9, 1), (10, 0), (11, 0), (12, 0), (13, 1), (14, 0), (15, 0), (16, 0), (17, 0), (18, 0)] mixed rfl (by kernel_rfl) (fun w13 hb13 hh13 => ?_))))))
 have M13 := M12.drew hb13 hh13
 obtain ⟨t01, ht01, ba01, bb01, bc01, bd01, be01⟩ := fW (z := 0) (c := t00 / 65536) (x := x0) (y := y1) (by decide) be00 hx0 hy1
 refine eF rfl rfl rfl (eF rfl rfl rfl (aV rfl rfl rfl (fun _ => aY rfl rfl (by first | decide | omega) (by first | decide | omega)) (aV rfl rfl rfl (fun _ => aD 0 bU rfl) (aV rfl rfl rfl (fun _ => cA (1) cY rfl rfl rfl (by decide)) (bS rfl rfl rfl (aM 3 (.int _ _) cQ M13 rfl rfl rfl) ?_)))))
 refine eF rfl rfl rfl (aV rfl rfl rfl (fun _ => aD 0 bU rfl) (aV rfl rfl rfl (fun _ => cA (0) cY rfl rfl rfl (by decide)) (bS rfl rfl rfl (aM 1 (.int _ _) cQ M13 rfl rfl rfl) (eF rfl rfl rfl (aV rfl rfl rfl (fun _ => aD 0 bU rfl) ?_)))))
 refine aV rfl rfl rfl (fun _ => cA (1) cY rfl rfl rfl (by decide)) (bS rfl rfl rfl (aM 2 (.int _ _) cQ M13 rfl rfl rfl) (aV rfl rfl rfl (fun _ => bZ (.int _ _) rfl rfl rfl) (dX 38 (.int .u64 ((x0 * y1 : Nat) : Int)) (iE (lA x0 y1 ba01)) (aV rfl rfl rfl (fun _ => bZ (.int _ _) rfl rfl rfl) ?_))))
 refine dX 39 (.int .u64 ((0 + x0 * y1 : Nat) : Int)) (iE (lB (0) (x0 * y1) bb01)) (eF rfl rfl rfl (aV rfl rfl rfl (fun _ => bZ (.int _ _) rfl rfl rfl) (dX 41 (.int .u64 (t01 : Int)) (iE ((lB (0 + x0 * y1) (t00 / 65536) bc01).trans (congrArg _ ht01.symm))) (mA rfl rfl rfl (bX ?_)))))
 refine aC (aE (aA (aP rfl rfl (aP rfl rfl (wq (aY rfl rfl (by first | decide | omega) (by first | decide | omega)) rfl (aK 44 (.int .i64 1) (iE (by first | decide | omega)) (aP rfl rfl ?_)))))))
 refine wq (iT rfl rfl (by decide)) rfl (aK 46 (.int .u64 ((t01 % 65536 : Nat) : Int)) (iE (jF t01 65536)) (wq (aD 0 bU rfl) rfl (wq (cA (1) cY rfl rfl rfl (by decide)) rfl (dD 3 (.int _ _) cQ M13 rfl rfl rfl rfl rfl rfl (fun w14 M14 => (aB (aC (aA ?_))))))))
 refine aP rfl rfl (wq (fZ rfl rfl (by decide)) rfl (aK 50 (.int .u64 ((t01 / 65536 : Nat) : Int)) (iE (iO t01 65536 bd01)) (bI rfl rfl (aB (cV ?_)))))
 refine aC (aA (aP rfl rfl (wq (aY rfl rfl (by first | decide | omega) (by first | decide | omega)) rfl (aK 23 (.int .i64 2) (iE (by first | decide | omega)) (bI rfl rfl (aB ?_))))))
 refine aC (fK (eC (fr := [(4, .pointer _), (5, .pointer _), (6, .pointer _), (7, .pointer _), (8, .int .i64 0), (9, .int _ _), (10, .int .i64 2), (11, .int _ _), (16, .int .i64 0), (17, .bool true)]) (bA rfl (bA rfl (bA rfl (bA rfl (bA rfl (bA rfl (bA rfl (bA rfl (bA rfl (bA rfl eB)))))))))) (fun ρ15 => ?_)))
 have M16 : Mem _ _ [_, _, _, (some _, bc [.int .u64 ((t00 % 65536 : Nat) : Int), .int .u64 ((t01 % 65536 : Nat) : Int), .int .u64 0, .int .u64 0, .int .u64 0, .int .u64 0, .int .u64 0, .int .u64 0] 344)] _ := M14
 refine aE (aE (aA (aP rfl rfl (cZ rfl rfl rfl rfl (kZ 21 rfl (by first | decide | omega) (aB (aC (cF rfl ?_))))))))
 refine aL (aC (aE (aQ (aE (bQ [(0, 0), (1, 0), (2, 0), (3, 0), (4, 0), (5, 1), (6, 0), (7, 0), (8, 0), (9, 1), (10, 0), (11, 0), (12, 0), (13, 1), (14, 0), (15, 0), (16, 0), (17, 0), (18, 0)] mixed rfl (by kernel_rfl) (fun w17 hb17 hh17 => ?_))))))
 have M17 := M16.drew hb17 hh17
 obtain ⟨t02, ht02, ba02, bb02, bc02, bd02, be02⟩ := fW (z := 0) (c := t01 / 65536) (x := x0) (y := y2) (by decide) be01 hx0 hy2
 refine eF rfl rfl rfl (eF rfl rfl rfl (aV rfl rfl rfl (fun _ => aY rfl rfl (by first | decide | omega) (by first | decide | omega)) (aV rfl rfl rfl (fun _ => aD 0 bU rfl) (aV rfl rfl rfl (fun _ => cA (2) cY rfl rfl rfl (by decide)) (bS rfl rfl rfl (aM 3 (.int _ _) cQ M17 rfl rfl rfl) ?_)))))
 refine eF rfl rfl rfl (aV rfl rfl rfl (fun _ => aD 0 bU rfl) (aV rfl rfl rfl (fun _ => cA (0) cY rfl rfl rfl (by decide)) (bS rfl rfl rfl (aM 1 (.int _ _) cQ M17 rfl rfl rfl) (eF rfl rfl rfl (aV rfl rfl rfl (fun _ => aD 0 bU rfl) ?_)))))
 refine aV rfl rfl rfl (fun _ => cA (2) cY rfl rfl rfl (by decide)) (bS rfl rfl rfl (aM 2 (.int _ _) cQ M17 rfl rfl rfl) (aV rfl rfl rfl (fun _ => bZ (.int _ _) rfl rfl rfl) (dX 38 (.int .u64 ((x0 * y2 : Nat) : Int)) (iE (lA x0 y2 ba02)) (aV rfl rfl rfl (fun _ => bZ (.int _ _) rfl rfl rfl) ?_))))
 refine dX 39 (.int .u64 ((0 + x0 * y2 : Nat) : Int)) (iE (lB (0) (x0 * y2) bb02)) (eF rfl rfl rfl (aV rfl rfl rfl (fun _ => bZ (.int _ _) rfl rfl rfl) (dX 41 (.int .u64 (t02 : Int)) (iE ((lB (0 + x0 * y2) (t01 / 65536) bc02).trans (congrArg _ ht02.symm))) (mA rfl rfl rfl (bX ?_)))))
 refine aC (aE (aA (aP rfl rfl (aP rfl rfl (wq (aY rfl rfl (by first | decide | omega) (by first | decide | omega)) rfl (aK 44 (.int .i64 2) (iE (by first | decide | omega)) (aP rfl rfl ?_)))))))
 refine wq (iT rfl rfl (by decide)) rfl (aK 46 (.int .u64 ((t02 % 65536 : Nat) : Int)) (iE (jF t02 65536)) (wq (aD 0 bU rfl) rfl (wq (cA (2) cY rfl rfl rfl (by decide)) rfl (dD 3 (.int _ _) cQ M17 rfl rfl rfl rfl rfl rfl (fun w18 M18 => (aB (aC (aA ?_))))))))
 refine aP rfl rfl (wq (fZ rfl rfl (by decide)) rfl (aK 50 (.int .u64 ((t02 / 65536 : Nat) : Int)) (iE (iO t02 65536 bd02)) (bI rfl rfl (aB (cV ?_)))))
 refine aC (aA (aP rfl rfl (wq (aY rfl rfl (by first | decide | omega) (by first | decide | omega)) rfl (aK 23 (.int .i64 3) (iE (by first | decide | omega)) (bI rfl rfl (aB ?_))))))
 refine aC (fK (eC (fr := [(4, .pointer _), (5, .pointer _), (6, .pointer _), (7, .pointer _), (8, .int .i64 0), (9, .int _ _), (10, .int .i64 3), (11, .int _ _), (16, .int .i64 0), (17, .bool true)]) (bA rfl (bA rfl (bA rfl (bA rfl (bA rfl (bA rfl (bA rfl (bA rfl (bA rfl (bA rfl eB)))))))))) (fun ρ19 => ?_)))
 have M20 : Mem _ _ [_, _, _, (some _, bc [.int .u64 ((t00 % 65536 : Nat) : Int), .int .u64 ((t01 % 65536 : Nat) : Int), .int .u64 ((t02 % 65536 : Nat) : Int), .int .u64 0, .int .u64 0, .int .u64 0, .int .u64 0, .int .u64 0] 344)] _ := M18
 refine aE (aE (aA (aP rfl rfl (cZ rfl rfl rfl rfl (kZ 21 rfl (by first | decide | omega) (aB (aC (cF rfl ?_))))))))
 refine aL (aC (aE (aQ (aE (bQ [(0, 0), (1, 0), (2, 0), (3, 0), (4, 0), (5, 1), (6, 0), (7, 0), (8, 0), (9, 1), (10, 0), (11, 0), (12, 0), (13, 1), (14, 0), (15, 0), (16, 0), (17, 0), (18, 0)] mixed rfl (by kernel_rfl) (fun w21 hb21 hh21 => ?_))))))
 have M21 := M20.drew hb21 hh21
 obtain ⟨t03, ht03, ba03, bb03, bc03, bd03, be03⟩ := fW (z := 0) (c := t02 / 65536) (x := x0) (y := y3) (by decide) be02 hx0 hy3
 refine eF rfl rfl rfl (eF rfl rfl rfl (aV rfl rfl rfl (fun _ => aY rfl rfl (by first | decide | omega) (by first | decide | omega)) (aV rfl rfl rfl (fun _ => aD 0 bU rfl) (aV rfl rfl rfl (fun _ => cA (3) cY rfl rfl rfl (by decide)) (bS rfl rfl rfl (aM 3 (.int _ _) cQ M21 rfl rfl rfl) ?_)))))
 refine eF rfl rfl rfl (aV rfl rfl rfl (fun _ => aD 0 bU rfl) (aV rfl rfl rfl (fun _ => cA (0) cY rfl rfl rfl (by decide)) (bS rfl rfl rfl (aM 1 (.int _ _) cQ M21 rfl rfl rfl) (eF rfl rfl rfl (aV rfl rfl rfl (fun _ => aD 0 bU rfl) ?_)))))
 refine aV rfl rfl rfl (fun _ => cA (3) cY rfl rfl rfl (by decide)) (bS rfl rfl rfl (aM 2 (.int _ _) cQ M21 rfl rfl rfl) (aV rfl rfl rfl (fun _ => bZ (.int _ _) rfl rfl rfl) (dX 38 (.int .u64 ((x0 * y3 : Nat) : Int)) (iE (lA x0 y3 ba03)) (aV rfl rfl rfl (fun _ => bZ (.int _ _) rfl rfl rfl) ?_))))
 refine dX 39 (.int .u64 ((0 + x0 * y3 : Nat) : Int)) (iE (lB (0) (x0 * y3) bb03)) (eF rfl rfl rfl (aV rfl rfl rfl (fun _ => bZ (.int _ _) rfl rfl rfl) (dX 41 (.int .u64 (t03 : Int)) (iE ((lB (0 + x0 * y3) (t02 / 65536) bc03).trans (congrArg _ ht03.symm))) (mA rfl rfl rfl (bX ?_)))))
 refine aC (aE (aA (aP rfl rfl (aP rfl rfl (wq (aY rfl rfl (by first | decide | omega) (by first | decide | omega)) rfl (aK 44 (.int .i64 3) (iE (by first | decide | omega)) (aP rfl rfl ?_)))))))
 refine wq (iT rfl rfl (by decide)) rfl (aK 46 (.int .u64 ((t03 % 65536 : Nat) : Int)) (iE (jF t03 65536)) (wq (aD 0 bU rfl) rfl (wq (cA (3) cY rfl rfl rfl (by decide)) rfl (dD 3 (.int _ _) cQ M21 rfl rfl rfl rfl rfl rfl (fun w22 M22 => (aB (aC (aA ?_))))))))
 refine aP rfl rfl (wq (fZ rfl rfl (by decide)) rfl (aK 50 (.int .u64 ((t03 / 65536 : Nat) : Int)) (iE (iO t03 65536 bd03)) (bI rfl rfl (aB (cV ?_)))))
 refine aC (aA (aP rfl rfl (wq (aY rfl rfl (by first | decide | omega) (by first | decide | omega)) rfl (aK 23 (.int .i64 4) (iE (by first | decide | omega)) (bI rfl rfl (aB ?_))))))
 refine aC (fK (eC (fr := [(4, .pointer _), (5, .pointer _), (6, .pointer _), (7, .pointer _), (8, .int .i64 0), (9, .int _ _), (10, .int .i64 4), (11, .int _ _), (16, .int .i64 0), (17, .bool true)]) (bA rfl (bA rfl (bA rfl (bA rfl (bA rfl (bA rfl (bA rfl (bA rfl (bA rfl (bA rfl eB)))))))))) (fun ρ23 => ?_)))
 have M24 : Mem _ _ [_, _, _, (some _, bc [.int .u64 ((t00 % 65536 : Nat) : Int), .int .u64 ((t01 % 65536 : Nat) : Int), .int .u64 ((t02 % 65536 : Nat) : Int), .int .u64 ((t03 % 65536 : Nat) : Int), .int .u64 0, .int .u64 0, .int .u64 0, .int .u64 0] 344)] _ := M22
 refine aE (aE (aA (aP rfl rfl (cZ rfl rfl rfl rfl (pE 21 rfl (by first | decide | omega) (aB (aC (cJ rfl ?_))))))))
 refine cX (dF (dF (eS (aC (aA (aP rfl rfl (wq (aY rfl rfl (by first | decide | omega) (by first | decide | omega)) rfl ?_)))))))
 refine aK 52 (.int .i64 4) (iE (by first | decide | omega)) (aP rfl rfl (wq (aD 0 bU rfl) rfl (wq (cA (4) cY rfl rfl rfl (by decide)) rfl (dD 3 (.int _ _) cQ M24 rfl rfl rfl rfl rfl rfl (fun w25 M25 => (aB ?_))))))
 refine cV (aC (aA (aP rfl rfl (wq (aY rfl rfl (by first | decide | omega) (by first | decide | omega)) rfl (aK 19 (.int .i64 1) (iE (by first | decide | omega)) (bI rfl rfl ?_))))))
 refine aB (aC (fK (eC (fr := [(4, .pointer _), (5, .pointer _), (6, .pointer _), (7, .pointer _), (8, .int .i64 1), (9, .int _ _), (10, .int .i64 4), (11, .int _ _)]) (bA rfl (bA rfl (bA rfl (bA rfl (bA rfl (bA rfl (bA rfl (bA rfl eB)))))))) (fun ρ26 => ?_))))
 have M27 : Mem _ _ [_, _, _, (some _, bc [.int .u64 ((t00 % 65536 : Nat) : Int), .int .u64 ((t01 % 65536 : Nat) : Int), .int .u64 ((t02 % 65536 : Nat) : Int), .int .u64 ((t03 % 65536 : Nat) : Int), .int .u64 ((t03 / 65536 : Nat) : Int), .int .u64 0, .int .u64 0, .int .u64 0] 344)] _ := M25
 refine aE (aE (aA (aP rfl rfl (cZ rfl rfl rfl rfl (kZ 17 rfl (by first | decide | omega) (aB (aC (cF rfl ?_))))))))
 refine aL (aC (aE (aQ (aE (aA (bI rfl rfl (aB (aC (aE (aE (aA (bI rfl rfl (aB (aC (aQ (iR 5 (fK ?_)))))))))))))))))
 refine aE (aE (aA (aP rfl rfl (cZ rfl rfl rfl rfl (kZ 21 rfl (by first | decide | omega) (aB (aC (cF rfl ?_))))))))
 refine aL (aC (aE (aQ (aE (bQ [(0, 0), (1, 0), (2, 0), (3, 0), (4, 0), (5, 1), (6, 0), (7, 0), (8, 0), (9, 1), (10, 0), (11, 0), (12, 0), (13, 1), (14, 0), (15, 0), (16, 0), (17, 0), (18, 0)] mixed rfl (by kernel_rfl) (fun w28 hb28 hh28 => ?_))))))
 have M28 := M27.drew hb28 hh28
 obtain ⟨t10, ht10, ba10, bb10, bc10, bd10, be10⟩ := fW (z := t01 % 65536) (c := 0) (x := x1) (y := y0) (Nat.mod_lt _ (by decide)) (by decide) hx1 hy0
 refine eF rfl rfl rfl (eF rfl rfl rfl (aV rfl rfl rfl (fun _ => aY rfl rfl (by first | decide | omega) (by first | decide | omega)) (aV rfl rfl rfl (fun _ => aD 0 bU rfl) (aV rfl rfl rfl (fun _ => cA (1) cY rfl rfl rfl (by decide)) (bS rfl rfl rfl (aM 3 (.int _ _) cQ M28 rfl rfl rfl) ?_)))))
 refine eF rfl rfl rfl (aV rfl rfl rfl (fun _ => aD 0 bU rfl) (aV rfl rfl rfl (fun _ => cA (1) cY rfl rfl rfl (by decide)) (bS rfl rfl rfl (aM 1 (.int _ _) cQ M28 rfl rfl rfl) (eF rfl rfl rfl (aV rfl rfl rfl (fun _ => aD 0 bU rfl) ?_)))))
 refine aV rfl rfl rfl (fun _ => cA (0) cY rfl rfl rfl (by decide)) (bS rfl rfl rfl (aM 2 (.int _ _) cQ M28 rfl rfl rfl) (aV rfl rfl rfl (fun _ => bZ (.int _ _) rfl rfl rfl) (dX 38 (.int .u64 ((x1 * y0 : Nat) : Int)) (iE (lA x1 y0 ba10)) (aV rfl rfl rfl (fun _ => bZ (.int _ _) rfl rfl rfl) ?_))))
 refine dX 39 (.int .u64 ((t01 % 65536 + x1 * y0 : Nat) : Int)) (iE (lB (t01 % 65536) (x1 * y0) bb10)) (eF rfl rfl rfl (aV rfl rfl rfl (fun _ => bZ (.int _ _) rfl rfl rfl) (dX 41 (.int .u64 (t10 : Int)) (iE ((lB (t01 % 65536 + x1 * y0) (0) bc10).trans (congrArg _ ht10.symm))) (mA rfl rfl rfl (bX ?_)))))
 refine aC (aE (aA (aP rfl rfl (aP rfl rfl (wq (aY rfl rfl (by first | decide | omega) (by first | decide | omega)) rfl (aK 44 (.int .i64 1) (iE (by first | decide | omega)) (aP rfl rfl ?_)))))))
 refine wq (iT rfl rfl (by decide)) rfl (aK 46 (.int .u64 ((t10 % 65536 : Nat) : Int)) (iE (jF t10 65536)) (wq (aD 0 bU rfl) rfl (wq (cA (1) cY rfl rfl rfl (by decide)) rfl (dD 3 (.int _ _) cQ M28 rfl rfl rfl rfl rfl rfl (fun w29 M29 => (aB (aC (aA ?_))))))))
 refine aP rfl rfl (wq (fZ rfl rfl (by decide)) rfl (aK 50 (.int .u64 ((t10 / 65536 : Nat) : Int)) (iE (iO t10 65536 bd10)) (bI rfl rfl (aB (cV ?_)))))
 refine aC (aA (aP rfl rfl (wq (aY rfl rfl (by first | decide | omega) (by first | decide | omega)) rfl (aK 23 (.int .i64 1) (iE (by first | decide | omega)) (bI rfl rfl (aB ?_))))))
 refine aC (fK (eC (fr := [(4, .pointer _), (5, .pointer _), (6, .pointer _), (7, .pointer _), (8, .int .i64 1), (9, .int _ _), (10, .int .i64 1), (11, .int _ _), (16, .int .i64 1), (17, .bool true)]) (bA rfl (bA rfl (bA rfl (bA rfl (bA rfl (bA rfl (bA rfl (bA rfl (bA rfl (bA rfl eB)))))))))) (fun ρ30 => ?_)))
 have M31 : Mem _ _ [_, _, _, (some _, bc [.int .u64 ((t00 % 65536 : Nat) : Int), .int .u64 ((t10 % 65536 : Nat) : Int), .int .u64 ((t02 % 65536 : Nat) : Int), .int .u64 ((t03 % 65536 : Nat) : Int), .int .u64 ((t03 / 65536 : Nat) : Int), .int .u64 0, .int .u64 0, .int .u64 0] 344)] _ := M29
 refine aE (aE (aA (aP rfl rfl (cZ rfl rfl rfl rfl (kZ 21 rfl (by first | decide | omega) (aB (aC (cF rfl ?_))))))))
 refine aL (aC (aE (aQ (aE (bQ [(0, 0), (1, 0), (2, 0), (3, 0), (4, 0), (5, 1), (6, 0), (7, 0), (8, 0), (9, 1), (10, 0), (11, 0), (12, 0), (13, 1), (14, 0), (15, 0), (16, 0), (17, 0), (18, 0)] mixed rfl (by kernel_rfl) (fun w32 hb32 hh32 => ?_))))))
 have M32 := M31.drew hb32 hh32
 obtain ⟨t11, ht11, ba11, bb11, bc11, bd11, be11⟩ := fW (z := t02 % 65536) (c := t10 / 65536) (x := x1) (y := y1) (Nat.mod_lt _ (by decide)) be10 hx1 hy1
 refine eF rfl rfl rfl (eF rfl rfl rfl (aV rfl rfl rfl (fun _ => aY rfl rfl (by first | decide | omega) (by first | decide | omega)) (aV rfl rfl rfl (fun _ => aD 0 bU rfl) (aV rfl rfl rfl (fun _ => cA (2) cY rfl rfl rfl (by decide)) (bS rfl rfl rfl (aM 3 (.int _ _) cQ M32 rfl rfl rfl) ?_)))))
 refine eF rfl rfl rfl (aV rfl rfl rfl (fun _ => aD 0 bU rfl) (aV rfl rfl rfl (fun _ => cA (1) cY rfl rfl rfl (by decide)) (bS rfl rfl rfl (aM 1 (.int _ _) cQ M32 rfl rfl rfl) (eF rfl rfl rfl (aV rfl rfl rfl (fun _ => aD 0 bU rfl) ?_)))))
 refine aV rfl rfl rfl (fun _ => cA (1) cY rfl rfl rfl (by decide)) (bS rfl rfl rfl (aM 2 (.int _ _) cQ M32 rfl rfl rfl) (aV rfl rfl rfl (fun _ => bZ (.int _ _) rfl rfl rfl) (dX 38 (.int .u64 ((x1 * y1 : Nat) : Int)) (iE (lA x1 y1 ba11)) (aV rfl rfl rfl (fun _ => bZ (.int _ _) rfl rfl rfl) ?_))))
 refine dX 39 (.int .u64 ((t02 % 65536 + x1 * y1 : Nat) : Int)) (iE (lB (t02 % 65536) (x1 * y1) bb11)) (eF rfl rfl rfl (aV rfl rfl rfl (fun _ => bZ (.int _ _) rfl rfl rfl) (dX 41 (.int .u64 (t11 : Int)) (iE ((lB (t02 % 65536 + x1 * y1) (t10 / 65536) bc11).trans (congrArg _ ht11.symm))) (mA rfl rfl rfl ?_))))
 refine bX (aC (aE (aA (aP rfl rfl (aP rfl rfl (wq (aY rfl rfl (by first | decide | omega) (by first | decide | omega)) rfl (aK 44 (.int .i64 2) (iE (by first | decide | omega)) ?_)))))))
 refine aP rfl rfl (wq (iT rfl rfl (by decide)) rfl (aK 46 (.int .u64 ((t11 % 65536 : Nat) : Int)) (iE (jF t11 65536)) (wq (aD 0 bU rfl) rfl (wq (cA (2) cY rfl rfl rfl (by decide)) rfl (dD 3 (.int _ _) cQ M32 rfl rfl rfl rfl rfl rfl (fun w33 M33 => ?_))))))
 refine aB (aC (aA (aP rfl rfl (wq (fZ rfl rfl (by decide)) rfl (aK 50 (.int .u64 ((t11 / 65536 : Nat) : Int)) (iE (iO t11 65536 bd11)) (bI rfl rfl (aB ?_)))))))
 refine cV (aC (aA (aP rfl rfl (wq (aY rfl rfl (by first | decide | omega) (by first | decide | omega)) rfl (aK 23 (.int .i64 2) (iE (by first | decide | omega)) (bI rfl rfl ?_))))))
 refine aB (aC (fK (eC (fr := [(4, .pointer _), (5, .pointer _), (6, .pointer _), (7, .pointer _), (8, .int .i64 1), (9, .int _ _), (10, .int .i64 2), (11, .int _ _), (16, .int .i64 1), (17, .bool true)]) (bA rfl (bA rfl (bA rfl (bA rfl (bA rfl (bA rfl (bA rfl (bA rfl (bA rfl (bA rfl eB)))))))))) (fun ρ34 => ?_))))
 have M35 : Mem _ _ [_, _, _, (some _, bc [.int .u64 ((t00 % 65536 : Nat) : Int), .int .u64 ((t10 % 65536 : Nat) : Int), .int .u64 ((t11 % 65536 : Nat) : Int), .int .u64 ((t03 % 65536 : Nat) : Int), .int .u64 ((t03 / 65536 : Nat) : Int), .int .u64 0, .int .u64 0, .int .u64 0] 344)] _ := M33
 refine aE (aE (aA (aP rfl rfl (cZ rfl rfl rfl rfl (kZ 21 rfl (by first | decide | omega) (aB (aC (cF rfl ?_))))))))
 refine aL (aC (aE (aQ (aE (bQ [(0, 0), (1, 0), (2, 0), (3, 0), (4, 0), (5, 1), (6, 0), (7, 0), (8, 0), (9, 1), (10, 0), (11, 0), (12, 0), (13, 1), (14, 0), (15, 0), (16, 0), (17, 0), (18, 0)] mixed rfl (by kernel_rfl) (fun w36 hb36 hh36 => ?_))))))
 have M36 := M35.drew hb36 hh36
 obtain ⟨t12, ht12, ba12, bb12, bc12, bd12, be12⟩ := fW (z := t03 % 65536) (c := t11 / 65536) (x := x1) (y := y2) (Nat.mod_lt _ (by decide)) be11 hx1 hy2
 refine eF rfl rfl rfl (eF rfl rfl rfl (aV rfl rfl rfl (fun _ => aY rfl rfl (by first | decide | omega) (by first | decide | omega)) (aV rfl rfl rfl (fun _ => aD 0 bU rfl) (aV rfl rfl rfl (fun _ => cA (3) cY rfl rfl rfl (by decide)) (bS rfl rfl rfl (aM 3 (.int _ _) cQ M36 rfl rfl rfl) ?_)))))
 refine eF rfl rfl rfl (aV rfl rfl rfl (fun _ => aD 0 bU rfl) (aV rfl rfl rfl (fun _ => cA (1) cY rfl rfl rfl (by decide)) (bS rfl rfl rfl (aM 1 (.int _ _) cQ M36 rfl rfl rfl) (eF rfl rfl rfl (aV rfl rfl rfl (fun _ => aD 0 bU rfl) ?_)))))
 refine aV rfl rfl rfl (fun _ => cA (2) cY rfl rfl rfl (by decide)) (bS rfl rfl rfl (aM 2 (.int _ _) cQ M36 rfl rfl rfl) (aV rfl rfl rfl (fun _ => bZ (.int _ _) rfl rfl rfl) (dX 38 (.int .u64 ((x1 * y2 : Nat) : Int)) (iE (lA x1 y2 ba12)) (aV rfl rfl rfl (fun _ => bZ (.int _ _) rfl rfl rfl) ?_))))
 refine dX 39 (.int .u64 ((t03 % 65536 + x1 * y2 : Nat) : Int)) (iE (lB (t03 % 65536) (x1 * y2) bb12)) (eF rfl rfl rfl (aV rfl rfl rfl (fun _ => bZ (.int _ _) rfl rfl rfl) (dX 41 (.int .u64 (t12 : Int)) (iE ((lB (t03 % 65536 + x1 * y2) (t11 / 65536) bc12).trans (congrArg _ ht12.symm))) (mA rfl rfl rfl ?_))))
 refine bX (aC (aE (aA (aP rfl rfl (aP rfl rfl (wq (aY rfl rfl (by first | decide | omega) (by first | decide | omega)) rfl (aK 44 (.int .i64 3) (iE (by first | decide | omega)) ?_)))))))
 refine aP rfl rfl (wq (iT rfl rfl (by decide)) rfl (aK 46 (.int .u64 ((t12 % 65536 : Nat) : Int)) (iE (jF t12 65536)) (wq (aD 0 bU rfl) rfl (wq (cA (3) cY rfl rfl rfl (by decide)) rfl (dD 3 (.int _ _) cQ M36 rfl rfl rfl rfl rfl rfl (fun w37 M37 => ?_))))))
 refine aB (aC (aA (aP rfl rfl (wq (fZ rfl rfl (by decide)) rfl (aK 50 (.int .u64 ((t12 / 65536 : Nat) : Int)) (iE (iO t12 65536 bd12)) (bI rfl rfl (aB ?_)))))))
 refine cV (aC (aA (aP rfl rfl (wq (aY rfl rfl (by first | decide | omega) (by first | decide | omega)) rfl (aK 23 (.int .i64 3) (iE (by first | decide | omega)) (bI rfl rfl ?_))))))
 refine aB (aC (fK (eC (fr := [(4, .pointer _), (5, .pointer _), (6, .pointer _), (7, .pointer _), (8, .int .i64 1), (9, .int _ _), (10, .int .i64 3), (11, .int _ _), (16, .int .i64 1), (17, .bool true)]) (bA rfl (bA rfl (bA rfl (bA rfl (bA rfl (bA rfl (bA rfl (bA rfl (bA rfl (bA rfl eB)))))))))) (fun ρ38 => ?_))))
 have M39 : Mem _ _ [_, _, _, (some _, bc [.int .u64 ((t00 % 65536 : Nat) : Int), .int .u64 ((t10 % 65536 : Nat) : Int), .int .u64 ((t11 % 65536 : Nat) : Int), .int .u64 ((t12 % 65536 : Nat) : Int), .int .u64 ((t03 / 65536 : Nat) : Int), .int .u64 0, .int .u64 0, .int .u64 0] 344)] _ := M37
 refine aE (aE (aA (aP rfl rfl (cZ rfl rfl rfl rfl (kZ 21 rfl (by first | decide | omega) (aB (aC (cF rfl ?_))))))))
 refine aL (aC (aE (aQ (aE (bQ [(0, 0), (1, 0), (2, 0), (3, 0), (4, 0), (5, 1), (6, 0), (7, 0), (8, 0), (9, 1), (10, 0), (11, 0), (12, 0), (13, 1), (14, 0), (15, 0), (16, 0), (17, 0), (18, 0)] mixed rfl (by kernel_rfl) (fun w40 hb40 hh40 => ?_))))))
 have M40 := M39.drew hb40 hh40
 obtain ⟨t13, ht13, ba13, bb13, bc13, bd13, be13⟩ := fW (z := t03 / 65536) (c := t12 / 65536) (x := x1) (y := y3) be03 be12 hx1 hy3
 refine eF rfl rfl rfl (eF rfl rfl rfl (aV rfl rfl rfl (fun _ => aY rfl rfl (by first | decide | omega) (by first | decide | omega)) (aV rfl rfl rfl (fun _ => aD 0 bU rfl) (aV rfl rfl rfl (fun _ => cA (4) cY rfl rfl rfl (by decide)) (bS rfl rfl rfl (aM 3 (.int _ _) cQ M40 rfl rfl rfl) ?_)))))
 refine eF rfl rfl rfl (aV rfl rfl rfl (fun _ => aD 0 bU rfl) (aV rfl rfl rfl (fun _ => cA (1) cY rfl rfl rfl (by decide)) (bS rfl rfl rfl (aM 1 (.int _ _) cQ M40 rfl rfl rfl) (eF rfl rfl rfl (aV rfl rfl rfl (fun _ => aD 0 bU rfl) ?_)))))
 refine aV rfl rfl rfl (fun _ => cA (3) cY rfl rfl rfl (by decide)) (bS rfl rfl rfl (aM 2 (.int _ _) cQ M40 rfl rfl rfl) (aV rfl rfl rfl (fun _ => bZ (.int _ _) rfl rfl rfl) (dX 38 (.int .u64 ((x1 * y3 : Nat) : Int)) (iE (lA x1 y3 ba13)) (aV rfl rfl rfl (fun _ => bZ (.int _ _) rfl rfl rfl) ?_))))
 refine dX 39 (.int .u64 ((t03 / 65536 + x1 * y3 : Nat) : Int)) (iE (lB (t03 / 65536) (x1 * y3) bb13)) (eF rfl rfl rfl (aV rfl rfl rfl (fun _ => bZ (.int _ _) rfl rfl rfl) (dX 41 (.int .u64 (t13 : Int)) (iE ((lB (t03 / 65536 + x1 * y3) (t12 / 65536) bc13).trans (congrArg _ ht13.symm))) (mA rfl rfl rfl ?_))))
 refine bX (aC (aE (aA (aP rfl rfl (aP rfl rfl (wq (aY rfl rfl (by first | decide | omega) (by first | decide | omega)) rfl (aK 44 (.int .i64 4) (iE (by first | decide | omega)) ?_)))))))
 refine aP rfl rfl (wq (iT rfl rfl (by decide)) rfl (aK 46 (.int .u64 ((t13 % 65536 : Nat) : Int)) (iE (jF t13 65536)) (wq (aD 0 bU rfl) rfl (wq (cA (4) cY rfl rfl rfl (by decide)) rfl (dD 3 (.int _ _) cQ M40 rfl rfl rfl rfl rfl rfl (fun w41 M41 => ?_))))))
 refine aB (aC (aA (aP rfl rfl (wq (fZ rfl rfl (by decide)) rfl (aK 50 (.int .u64 ((t13 / 65536 : Nat) : Int)) (iE (iO t13 65536 bd13)) (bI rfl rfl (aB ?_)))))))
 refine cV (aC (aA (aP rfl rfl (wq (aY rfl rfl (by first | decide | omega) (by first | decide | omega)) rfl (aK 23 (.int .i64 4) (iE (by first | decide | omega)) (bI rfl rfl ?_))))))
 refine aB (aC (fK (eC (fr := [(4, .pointer _), (5, .pointer _), (6, .pointer _), (7, .pointer _), (8, .int .i64 1), (9, .int _ _), (10, .int .i64 4), (11, .int _ _), (16, .int .i64 1), (17, .bool true)]) (bA rfl (bA rfl (bA rfl (bA rfl (bA rfl (bA rfl (bA rfl (bA rfl (bA rfl (bA rfl eB)))))))))) (fun ρ42 => ?_))))
 have M43 : Mem _ _ [_, _, _, (some _, bc [.int .u64 ((t00 % 65536 : Nat) : Int), .int .u64 ((t10 % 65536 : Nat) : Int), .int .u64 ((t11 % 65536 : Nat) : Int), .int .u64 ((t12 % 65536 : Nat) : Int), .int .u64 ((t13 % 65536 : Nat) : Int), .int .u64 0, .int .u64 0, .int .u64 0] 344)] _ := M41
 refine aE (aE (aA (aP rfl rfl (cZ rfl rfl rfl rfl (pE 21 rfl (by first | decide | omega) (aB (aC (cJ rfl ?_))))))))
 refine cX (dF (dF (eS (aC (aA (aP rfl rfl (wq (aY rfl rfl (by first | decide | omega) (by first | decide | omega)) rfl ?_)))))))
 refine aK 52 (.int .i64 5) (iE (by first | decide | omega)) (aP rfl rfl (wq (aD 0 bU rfl) rfl (wq (cA (5) cY rfl rfl rfl (by decide)) rfl (dD 3 (.int _ _) cQ M43 rfl rfl rfl rfl rfl rfl (fun w44 M44 => (aB ?_))))))
 refine cV (aC (aA (aP rfl rfl (wq (aY rfl rfl (by first | decide | omega) (by first | decide | omega)) rfl (aK 19 (.int .i64 2) (iE (by first | decide | omega)) (bI rfl rfl ?_))))))
 refine aB (aC (fK (eC (fr := [(4, .pointer _), (5, .pointer _), (6, .pointer _), (7, .pointer _), (8, .int .i64 2), (9, .int _ _), (10, .int .i64 4), (11, .int _ _)]) (bA rfl (bA rfl (bA rfl (bA rfl (bA rfl (bA rfl (bA rfl (bA rfl eB)))))))) (fun ρ45 => ?_))))
 have M46 : Mem _ _ [_, _, _, (some _, bc [.int .u64 ((t00 % 65536 : Nat) : Int), .int .u64 ((t10 % 65536 : Nat) : Int), .int .u64 ((t11 % 65536 : Nat) : Int), .int .u64 ((t12 % 65536 : Nat) : Int), .int .u64 ((t13 % 65536 : Nat) : Int), .int .u64 ((t13 / 65536 : Nat) : Int), .int .u64 0, .int .u64 0] 344)] _ := M44
 refine aE (aE (aA (aP rfl rfl (cZ rfl rfl rfl rfl (kZ 17 rfl (by first | decide | omega) (aB (aC (cF rfl ?_))))))))
 refine aL (aC (aE (aQ (aE (aA (bI rfl rfl (aB (aC (aE (aE (aA (bI rfl rfl (aB (aC (aQ (iR 5 (fK ?_)))))))))))))))))
 refine aE (aE (aA (aP rfl rfl (cZ rfl rfl rfl rfl (kZ 21 rfl (by first | decide | omega) (aB (aC (cF rfl ?_))))))))
 refine aL (aC (aE (aQ (aE (bQ [(0, 0), (1, 0), (2, 0), (3, 0), (4, 0), (5, 1), (6, 0), (7, 0), (8, 0), (9, 1), (10, 0), (11, 0), (12, 0), (13, 1), (14, 0), (15, 0), (16, 0), (17, 0), (18, 0)] mixed rfl (by kernel_rfl) (fun w47 hb47 hh47 => ?_))))))
 have M47 := M46.drew hb47 hh47
 obtain ⟨t20, ht20, ba20, bb20, bc20, bd20, be20⟩ := fW (z := t11 % 65536) (c := 0) (x := x2) (y := y0) (Nat.mod_lt _ (by decide)) (by decide) hx2 hy0
 refine eF rfl rfl rfl (eF rfl rfl rfl (aV rfl rfl rfl (fun _ => aY rfl rfl (by first | decide | omega) (by first | decide | omega)) (aV rfl rfl rfl (fun _ => aD 0 bU rfl) (aV rfl rfl rfl (fun _ => cA (2) cY rfl rfl rfl (by decide)) (bS rfl rfl rfl (aM 3 (.int _ _) cQ M47 rfl rfl rfl) ?_)))))
 refine eF rfl rfl rfl (aV rfl rfl rfl (fun _ => aD 0 bU rfl) (aV rfl rfl rfl (fun _ => cA (2) cY rfl rfl rfl (by decide)) (bS rfl rfl rfl (aM 1 (.int _ _) cQ M47 rfl rfl rfl) (eF rfl rfl rfl (aV rfl rfl rfl (fun _ => aD 0 bU rfl) ?_)))))
 refine aV rfl rfl rfl (fun _ => cA (0) cY rfl rfl rfl (by decide)) (bS rfl rfl rfl (aM 2 (.int _ _) cQ M47 rfl rfl rfl) (aV rfl rfl rfl (fun _ => bZ (.int _ _) rfl rfl rfl) (dX 38 (.int .u64 ((x2 * y0 : Nat) : Int)) (iE (lA x2 y0 ba20)) (aV rfl rfl rfl (fun _ => bZ (.int _ _) rfl rfl rfl) ?_))))
 refine dX 39 (.int .u64 ((t11 % 65536 + x2 * y0 : Nat) : Int)) (iE (lB (t11 % 65536) (x2 * y0) bb20)) (eF rfl rfl rfl (aV rfl rfl rfl (fun _ => bZ (.int _ _) rfl rfl rfl) (dX 41 (.int .u64 (t20 : Int)) (iE ((lB (t11 % 65536 + x2 * y0) (0) bc20).trans (congrArg _ ht20.symm))) (mA rfl rfl rfl (bX ?_)))))
 refine aC (aE (aA (aP rfl rfl (aP rfl rfl (wq (aY rfl rfl (by first | decide | omega) (by first | decide | omega)) rfl (aK 44 (.int .i64 2) (iE (by first | decide | omega)) (aP rfl rfl ?_)))))))
 refine wq (iT rfl rfl (by decide)) rfl (aK 46 (.int .u64 ((t20 % 65536 : Nat) : Int)) (iE (jF t20 65536)) (wq (aD 0 bU rfl) rfl (wq (cA (2) cY rfl rfl rfl (by decide)) rfl (dD 3 (.int _ _) cQ M47 rfl rfl rfl rfl rfl rfl (fun w48 M48 => (aB (aC (aA ?_))))))))
 refine aP rfl rfl (wq (fZ rfl rfl (by decide)) rfl (aK 50 (.int .u64 ((t20 / 65536 : Nat) : Int)) (iE (iO t20 65536 bd20)) (bI rfl rfl (aB (cV ?_)))))
 refine aC (aA (aP rfl rfl (wq (aY rfl rfl (by first | decide | omega) (by first | decide | omega)) rfl (aK 23 (.int .i64 1) (iE (by first | decide | omega)) (bI rfl rfl (aB ?_))))))
 refine aC (fK (eC (fr := [(4, .pointer _), (5, .pointer _), (6, .pointer _), (7, .pointer _), (8, .int .i64 2), (9, .int _ _), (10, .int .i64 1), (11, .int _ _), (16, .int .i64 2), (17, .bool true)]) (bA rfl (bA rfl (bA rfl (bA rfl (bA rfl (bA rfl (bA rfl (bA rfl (bA rfl (bA rfl eB)))))))))) (fun ρ49 => ?_)))
 have M50 : Mem _ _ [_, _, _, (some _, bc [.int .u64 ((t00 % 65536 : Nat) : Int), .int .u64 ((t10 % 65536 : Nat) : Int), .int .u64 ((t20 % 65536 : Nat) : Int), .int .u64 ((t12 % 65536 : Nat) : Int), .int .u64 ((t13 % 65536 : Nat) : Int), .int .u64 ((t13 / 65536 : Nat) : Int), .int .u64 0, .int .u64 0] 344)] _ := M48
 refine aE (aE (aA (aP rfl rfl (cZ rfl rfl rfl rfl (kZ 21 rfl (by first | decide | omega) (aB (aC (cF rfl ?_))))))))
 refine aL (aC (aE (aQ (aE (bQ [(0, 0), (1, 0), (2, 0), (3, 0), (4, 0), (5, 1), (6, 0), (7, 0), (8, 0), (9, 1), (10, 0), (11, 0), (12, 0), (13, 1), (14, 0), (15, 0), (16, 0), (17, 0), (18, 0)] mixed rfl (by kernel_rfl) (fun w51 hb51 hh51 => ?_))))))
 have M51 := M50.drew hb51 hh51
 obtain ⟨t21, ht21, ba21, bb21, bc21, bd21, be21⟩ := fW (z := t12 % 65536) (c := t20 / 65536) (x := x2) (y := y1) (Nat.mod_lt _ (by decide)) be20 hx2 hy1
 refine eF rfl rfl rfl (eF rfl rfl rfl (aV rfl rfl rfl (fun _ => aY rfl rfl (by first | decide | omega) (by first | decide | omega)) (aV rfl rfl rfl (fun _ => aD 0 bU rfl) (aV rfl rfl rfl (fun _ => cA (3) cY rfl rfl rfl (by decide)) (bS rfl rfl rfl (aM 3 (.int _ _) cQ M51 rfl rfl rfl) ?_)))))
 refine eF rfl rfl rfl (aV rfl rfl rfl (fun _ => aD 0 bU rfl) (aV rfl rfl rfl (fun _ => cA (2) cY rfl rfl rfl (by decide)) (bS rfl rfl rfl (aM 1 (.int _ _) cQ M51 rfl rfl rfl) (eF rfl rfl rfl (aV rfl rfl rfl (fun _ => aD 0 bU rfl) ?_)))))
 refine aV rfl rfl rfl (fun _ => cA (1) cY rfl rfl rfl (by decide)) (bS rfl rfl rfl (aM 2 (.int _ _) cQ M51 rfl rfl rfl) (aV rfl rfl rfl (fun _ => bZ (.int _ _) rfl rfl rfl) (dX 38 (.int .u64 ((x2 * y1 : Nat) : Int)) (iE (lA x2 y1 ba21)) (aV rfl rfl rfl (fun _ => bZ (.int _ _) rfl rfl rfl) ?_))))
 refine dX 39 (.int .u64 ((t12 % 65536 + x2 * y1 : Nat) : Int)) (iE (lB (t12 % 65536) (x2 * y1) bb21)) (eF rfl rfl rfl (aV rfl rfl rfl (fun _ => bZ (.int _ _) rfl rfl rfl) (dX 41 (.int .u64 (t21 : Int)) (iE ((lB (t12 % 65536 + x2 * y1) (t20 / 65536) bc21).trans (congrArg _ ht21.symm))) (mA rfl rfl rfl ?_))))
 refine bX (aC (aE (aA (aP rfl rfl (aP rfl rfl (wq (aY rfl rfl (by first | decide | omega) (by first | decide | omega)) rfl (aK 44 (.int .i64 3) (iE (by first | decide | omega)) ?_)))))))
 refine aP rfl rfl (wq (iT rfl rfl (by decide)) rfl (aK 46 (.int .u64 ((t21 % 65536 : Nat) : Int)) (iE (jF t21 65536)) (wq (aD 0 bU rfl) rfl (wq (cA (3) cY rfl rfl rfl (by decide)) rfl (dD 3 (.int _ _) cQ M51 rfl rfl rfl rfl rfl rfl (fun w52 M52 => ?_))))))
 refine aB (aC (aA (aP rfl rfl (wq (fZ rfl rfl (by decide)) rfl (aK 50 (.int .u64 ((t21 / 65536 : Nat) : Int)) (iE (iO t21 65536 bd21)) (bI rfl rfl (aB ?_)))))))
 refine cV (aC (aA (aP rfl rfl (wq (aY rfl rfl (by first | decide | omega) (by first | decide | omega)) rfl (aK 23 (.int .i64 2) (iE (by first | decide | omega)) (bI rfl rfl ?_))))))
 refine aB (aC (fK (eC (fr := [(4, .pointer _), (5, .pointer _), (6, .pointer _), (7, .pointer _), (8, .int .i64 2), (9, .int _ _), (10, .int .i64 2), (11, .int _ _), (16, .int .i64 2), (17, .bool true)]) (bA rfl (bA rfl (bA rfl (bA rfl (bA rfl (bA rfl (bA rfl (bA rfl (bA rfl (bA rfl eB)))))))))) (fun ρ53 => ?_))))
 have M54 : Mem _ _ [_, _, _, (some _, bc [.int .u64 ((t00 % 65536 : Nat) : Int), .int .u64 ((t10 % 65536 : Nat) : Int), .int .u64 ((t20 % 65536 : Nat) : Int), .int .u64 ((t21 % 65536 : Nat) : Int), .int .u64 ((t13 % 65536 : Nat) : Int), .int .u64 ((t13 / 65536 : Nat) : Int), .int .u64 0, .int .u64 0] 344)] _ := M52
 refine aE (aE (aA (aP rfl rfl (cZ rfl rfl rfl rfl (kZ 21 rfl (by first | decide | omega) (aB (aC (cF rfl ?_))))))))
 refine aL (aC (aE (aQ (aE (bQ [(0, 0), (1, 0), (2, 0), (3, 0), (4, 0), (5, 1), (6, 0), (7, 0), (8, 0), (9, 1), (10, 0), (11, 0), (12, 0), (13, 1), (14, 0), (15, 0), (16, 0), (17, 0), (18, 0)] mixed rfl (by kernel_rfl) (fun w55 hb55 hh55 => ?_))))))
 have M55 := M54.drew hb55 hh55
 obtain ⟨t22, ht22, ba22, bb22, bc22, bd22, be22⟩ := fW (z := t13 % 65536) (c := t21 / 65536) (x := x2) (y := y2) (Nat.mod_lt _ (by decide)) be21 hx2 hy2
 refine eF rfl rfl rfl (eF rfl rfl rfl (aV rfl rfl rfl (fun _ => aY rfl rfl (by first | decide | omega) (by first | decide | omega)) (aV rfl rfl rfl (fun _ => aD 0 bU rfl) (aV rfl rfl rfl (fun _ => cA (4) cY rfl rfl rfl (by decide)) (bS rfl rfl rfl (aM 3 (.int _ _) cQ M55 rfl rfl rfl) ?_)))))
 refine eF rfl rfl rfl (aV rfl rfl rfl (fun _ => aD 0 bU rfl) (aV rfl rfl rfl (fun _ => cA (2) cY rfl rfl rfl (by decide)) (bS rfl rfl rfl (aM 1 (.int _ _) cQ M55 rfl rfl rfl) (eF rfl rfl rfl (aV rfl rfl rfl (fun _ => aD 0 bU rfl) ?_)))))
 refine aV rfl rfl rfl (fun _ => cA (2) cY rfl rfl rfl (by decide)) (bS rfl rfl rfl (aM 2 (.int _ _) cQ M55 rfl rfl rfl) (aV rfl rfl rfl (fun _ => bZ (.int _ _) rfl rfl rfl) (dX 38 (.int .u64 ((x2 * y2 : Nat) : Int)) (iE (lA x2 y2 ba22)) (aV rfl rfl rfl (fun _ => bZ (.int _ _) rfl rfl rfl) ?_))))
 refine dX 39 (.int .u64 ((t13 % 65536 + x2 * y2 : Nat) : Int)) (iE (lB (t13 % 65536) (x2 * y2) bb22)) (eF rfl rfl rfl (aV rfl rfl rfl (fun _ => bZ (.int _ _) rfl rfl rfl) (dX 41 (.int .u64 (t22 : Int)) (iE ((lB (t13 % 65536 + x2 * y2) (t21 / 65536) bc22).trans (congrArg _ ht22.symm))) (mA rfl rfl rfl ?_))))
 refine bX (aC (aE (aA (aP rfl rfl (aP rfl rfl (wq (aY rfl rfl (by first | decide | omega) (by first | decide | omega)) rfl (aK 44 (.int .i64 4) (iE (by first | decide | omega)) ?_)))))))
 refine aP rfl rfl (wq (iT rfl rfl (by decide)) rfl (aK 46 (.int .u64 ((t22 % 65536 : Nat) : Int)) (iE (jF t22 65536)) (wq (aD 0 bU rfl) rfl (wq (cA (4) cY rfl rfl rfl (by decide)) rfl (dD 3 (.int _ _) cQ M55 rfl rfl rfl rfl rfl rfl (fun w56 M56 => ?_))))))
 refine aB (aC (aA (aP rfl rfl (wq (fZ rfl rfl (by decide)) rfl (aK 50 (.int .u64 ((t22 / 65536 : Nat) : Int)) (iE (iO t22 65536 bd22)) (bI rfl rfl (aB ?_)))))))
 refine cV (aC (aA (aP rfl rfl (wq (aY rfl rfl (by first | decide | omega) (by first | decide | omega)) rfl (aK 23 (.int .i64 3) (iE (by first | decide | omega)) (bI rfl rfl ?_))))))
 refine aB (aC (fK (eC (fr := [(4, .pointer _), (5, .pointer _), (6, .pointer _), (7, .pointer _), (8, .int .i64 2), (9, .int _ _), (10, .int .i64 3), (11, .int _ _), (16, .int .i64 2), (17, .bool true)]) (bA rfl (bA rfl (bA rfl (bA rfl (bA rfl (bA rfl (bA rfl (bA rfl (bA rfl (bA rfl eB)))))))))) (fun ρ57 => ?_))))
 have M58 : Mem _ _ [_, _, _, (some _, bc [.int .u64 ((t00 % 65536 : Nat) : Int), .int .u64 ((t10 % 65536 : Nat) : Int), .int .u64 ((t20 % 65536 : Nat) : Int), .int .u64 ((t21 % 65536 : Nat) : Int), .int .u64 ((t22 % 65536 : Nat) : Int), .int .u64 ((t13 / 65536 : Nat) : Int), .int .u64 0, .int .u64 0] 344)] _ := M56
 refine aE (aE (aA (aP rfl rfl (cZ rfl rfl rfl rfl (kZ 21 rfl (by first | decide | omega) (aB (aC (cF rfl ?_))))))))
 refine aL (aC (aE (aQ (aE (bQ [(0, 0), (1, 0), (2, 0), (3, 0), (4, 0), (5, 1), (6, 0), (7, 0), (8, 0), (9, 1), (10, 0), (11, 0), (12, 0), (13, 1), (14, 0), (15, 0), (16, 0), (17, 0), (18, 0)] mixed rfl (by kernel_rfl) (fun w59 hb59 hh59 => ?_))))))
 have M59 := M58.drew hb59 hh59
 obtain ⟨t23, ht23, ba23, bb23, bc23, bd23, be23⟩ := fW (z := t13 / 65536) (c := t22 / 65536) (x := x2) (y := y3) be13 be22 hx2 hy3
 refine eF rfl rfl rfl (eF rfl rfl rfl (aV rfl rfl rfl (fun _ => aY rfl rfl (by first | decide | omega) (by first | decide | omega)) (aV rfl rfl rfl (fun _ => aD 0 bU rfl) (aV rfl rfl rfl (fun _ => cA (5) cY rfl rfl rfl (by decide)) (bS rfl rfl rfl (aM 3 (.int _ _) cQ M59 rfl rfl rfl) ?_)))))
 refine eF rfl rfl rfl (aV rfl rfl rfl (fun _ => aD 0 bU rfl) (aV rfl rfl rfl (fun _ => cA (2) cY rfl rfl rfl (by decide)) (bS rfl rfl rfl (aM 1 (.int _ _) cQ M59 rfl rfl rfl) (eF rfl rfl rfl (aV rfl rfl rfl (fun _ => aD 0 bU rfl) ?_)))))
 refine aV rfl rfl rfl (fun _ => cA (3) cY rfl rfl rfl (by decide)) (bS rfl rfl rfl (aM 2 (.int _ _) cQ M59 rfl rfl rfl) (aV rfl rfl rfl (fun _ => bZ (.int _ _) rfl rfl rfl) (dX 38 (.int .u64 ((x2 * y3 : Nat) : Int)) (iE (lA x2 y3 ba23)) (aV rfl rfl rfl (fun _ => bZ (.int _ _) rfl rfl rfl) ?_))))
 refine dX 39 (.int .u64 ((t13 / 65536 + x2 * y3 : Nat) : Int)) (iE (lB (t13 / 65536) (x2 * y3) bb23)) (eF rfl rfl rfl (aV rfl rfl rfl (fun _ => bZ (.int _ _) rfl rfl rfl) (dX 41 (.int .u64 (t23 : Int)) (iE ((lB (t13 / 65536 + x2 * y3) (t22 / 65536) bc23).trans (congrArg _ ht23.symm))) (mA rfl rfl rfl ?_))))
 refine bX (aC (aE (aA (aP rfl rfl (aP rfl rfl (wq (aY rfl rfl (by first | decide | omega) (by first | decide | omega)) rfl (aK 44 (.int .i64 5) (iE (by first | decide | omega)) ?_)))))))
 refine aP rfl rfl (wq (iT rfl rfl (by decide)) rfl (aK 46 (.int .u64 ((t23 % 65536 : Nat) : Int)) (iE (jF t23 65536)) (wq (aD 0 bU rfl) rfl (wq (cA (5) cY rfl rfl rfl (by decide)) rfl (dD 3 (.int _ _) cQ M59 rfl rfl rfl rfl rfl rfl (fun w60 M60 => ?_))))))
 refine aB (aC (aA (aP rfl rfl (wq (fZ rfl rfl (by decide)) rfl (aK 50 (.int .u64 ((t23 / 65536 : Nat) : Int)) (iE (iO t23 65536 bd23)) (bI rfl rfl (aB ?_)))))))
 refine cV (aC (aA (aP rfl rfl (wq (aY rfl rfl (by first | decide | omega) (by first | decide | omega)) rfl (aK 23 (.int .i64 4) (iE (by first | decide | omega)) (bI rfl rfl ?_))))))
 refine aB (aC (fK (eC (fr := [(4, .pointer _), (5, .pointer _), (6, .pointer _), (7, .pointer _), (8, .int .i64 2), (9, .int _ _), (10, .int .i64 4), (11, .int _ _), (16, .int .i64 2), (17, .bool true)]) (bA rfl (bA rfl (bA rfl (bA rfl (bA rfl (bA rfl (bA rfl (bA rfl (bA rfl (bA rfl eB)))))))))) (fun ρ61 => ?_))))
 have M62 : Mem _ _ [_, _, _, (some _, bc [.int .u64 ((t00 % 65536 : Nat) : Int), .int .u64 ((t10 % 65536 : Nat) : Int), .int .u64 ((t20 % 65536 : Nat) : Int), .int .u64 ((t21 % 65536 : Nat) : Int), .int .u64 ((t22 % 65536 : Nat) : Int), .int .u64 ((t23 % 65536 : Nat) : Int), .int .u64 0, .int .u64 0] 344)] _ := M60
 refine aE (aE (aA (aP rfl rfl (cZ rfl rfl rfl rfl (pE 21 rfl (by first | decide | omega) (aB (aC (cJ rfl ?_))))))))
 refine cX (dF (dF (eS (aC (aA (aP rfl rfl (wq (aY rfl rfl (by first | decide | omega) (by first | decide | omega)) rfl ?_)))))))
 refine aK 52 (.int .i64 6) (iE (by first | decide | omega)) (aP rfl rfl (wq (aD 0 bU rfl) rfl (wq (cA (6) cY rfl rfl rfl (by decide)) rfl (dD 3 (.int _ _) cQ M62 rfl rfl rfl rfl rfl rfl (fun w63 M63 => (aB ?_))))))
 refine cV (aC (aA (aP rfl rfl (wq (aY rfl rfl (by first | decide | omega) (by first | decide | omega)) rfl (aK 19 (.int .i64 3) (iE (by first | decide | omega)) (bI rfl rfl ?_))))))
 refine aB (aC (fK (eC (fr := [(4, .pointer _), (5, .pointer _), (6, .pointer _), (7, .pointer _), (8, .int .i64 3), (9, .int _ _), (10, .int .i64 4), (11, .int _ _)]) (bA rfl (bA rfl (bA rfl (bA rfl (bA rfl (bA rfl (bA rfl (bA rfl eB)))))))) (fun ρ64 => ?_))))
 have M65 : Mem _ _ [_, _, _, (some _, bc [.int .u64 ((t00 % 65536 : Nat) : Int), .int .u64 ((t10 % 65536 : Nat) : Int), .int .u64 ((t20 % 65536 : Nat) : Int), .int .u64 ((t21 % 65536 : Nat) : Int), .int .u64 ((t22 % 65536 : Nat) : Int), .int .u64 ((t23 % 65536 : Nat) : Int), .int .u64 ((t23 / 65536 : Nat) : Int), .int .u64 0] 344)] _ := M63
 refine aE (aE (aA (aP rfl rfl (cZ rfl rfl rfl rfl (kZ 17 rfl (by first | decide | omega) (aB (aC (cF rfl ?_))))))))
 refine aL (aC (aE (aQ (aE (aA (bI rfl rfl (aB (aC (aE (aE (aA (bI rfl rfl (aB (aC (aQ (iR 5 (fK ?_)))))))))))))))))
 refine aE (aE (aA (aP rfl rfl (cZ rfl rfl rfl rfl (kZ 21 rfl (by first | decide | omega) (aB (aC (cF rfl ?_))))))))
 refine aL (aC (aE (aQ (aE (bQ [(0, 0), (1, 0), (2, 0), (3, 0), (4, 0), (5, 1), (6, 0), (7, 0), (8, 0), (9, 1), (10, 0), (11, 0), (12, 0), (13, 1), (14, 0), (15, 0), (16, 0), (17, 0), (18, 0)] mixed rfl (by kernel_rfl) (fun w66 hb66 hh66 => ?_))))))
 have M66 := M65.drew hb66 hh66
 obtain ⟨t30, ht30, ba30, bb30, bc30, bd30, be30⟩ := fW (z := t21 % 65536) (c := 0) (x := x3) (y := y0) (Nat.mod_lt _ (by decide)) (by decide) hx3 hy0
 refine eF rfl rfl rfl (eF rfl rfl rfl (aV rfl rfl rfl (fun _ => aY rfl rfl (by first | decide | omega) (by first | decide | omega)) (aV rfl rfl rfl (fun _ => aD 0 bU rfl) (aV rfl rfl rfl (fun _ => cA (3) cY rfl rfl rfl (by decide)) (bS rfl rfl rfl (aM 3 (.int _ _) cQ M66 rfl rfl rfl) ?_)))))
 refine eF rfl rfl rfl (aV rfl rfl rfl (fun _ => aD 0 bU rfl) (aV rfl rfl rfl (fun _ => cA (3) cY rfl rfl rfl (by decide)) (bS rfl rfl rfl (aM 1 (.int _ _) cQ M66 rfl rfl rfl) (eF rfl rfl rfl (aV rfl rfl rfl (fun _ => aD 0 bU rfl) ?_)))))
 refine aV rfl rfl rfl (fun _ => cA (0) cY rfl rfl rfl (by decide)) (bS rfl rfl rfl (aM 2 (.int _ _) cQ M66 rfl rfl rfl) (aV rfl rfl rfl (fun _ => bZ (.int _ _) rfl rfl rfl) (dX 38 (.int .u64 ((x3 * y0 : Nat) : Int)) (iE (lA x3 y0 ba30)) (aV rfl rfl rfl (fun _ => bZ (.int _ _) rfl rfl rfl) ?_))))
 refine dX 39 (.int .u64 ((t21 % 65536 + x3 * y0 : Nat) : Int)) (iE (lB (t21 % 65536) (x3 * y0) bb30)) (eF rfl rfl rfl (aV rfl rfl rfl (fun _ => bZ (.int _ _) rfl rfl rfl) (dX 41 (.int .u64 (t30 : Int)) (iE ((lB (t21 % 65536 + x3 * y0) (0) bc30).trans (congrArg _ ht30.symm))) (mA rfl rfl rfl (bX ?_)))))
 refine aC (aE (aA (aP rfl rfl (aP rfl rfl (wq (aY rfl rfl (by first | decide | omega) (by first | decide | omega)) rfl (aK 44 (.int .i64 3) (iE (by first | decide | omega)) (aP rfl rfl ?_)))))))
 refine wq (iT rfl rfl (by decide)) rfl (aK 46 (.int .u64 ((t30 % 65536 : Nat) : Int)) (iE (jF t30 65536)) (wq (aD 0 bU rfl) rfl (wq (cA (3) cY rfl rfl rfl (by decide)) rfl (dD 3 (.int _ _) cQ M66 rfl rfl rfl rfl rfl rfl (fun w67 M67 => (aB (aC (aA ?_))))))))
 refine aP rfl rfl (wq (fZ rfl rfl (by decide)) rfl (aK 50 (.int .u64 ((t30 / 65536 : Nat) : Int)) (iE (iO t30 65536 bd30)) (bI rfl rfl (aB (cV ?_)))))
 refine aC (aA (aP rfl rfl (wq (aY rfl rfl (by first | decide | omega) (by first | decide | omega)) rfl (aK 23 (.int .i64 1) (iE (by first | decide | omega)) (bI rfl rfl (aB ?_))))))
 refine aC (fK (eC (fr := [(4, .pointer _), (5, .pointer _), (6, .pointer _), (7, .pointer _), (8, .int .i64 3), (9, .int _ _), (10, .int .i64 1), (11, .int _ _), (16, .int .i64 3), (17, .bool true)]) (bA rfl (bA rfl (bA rfl (bA rfl (bA rfl (bA rfl (bA rfl (bA rfl (bA rfl (bA rfl eB)))))))))) (fun ρ68 => ?_)))
 have M69 : Mem _ _ [_, _, _, (some _, bc [.int .u64 ((t00 % 65536 : Nat) : Int), .int .u64 ((t10 % 65536 : Nat) : Int), .int .u64 ((t20 % 65536 : Nat) : Int), .int .u64 ((t30 % 65536 : Nat) : Int), .int .u64 ((t22 % 65536 : Nat) : Int), .int .u64 ((t23 % 65536 : Nat) : Int), .int .u64 ((t23 / 65536 : Nat) : Int), .int .u64 0] 344)] _ := M67
 refine aE (aE (aA (aP rfl rfl (cZ rfl rfl rfl rfl (kZ 21 rfl (by first | decide | omega) (aB (aC (cF rfl ?_))))))))
 refine aL (aC (aE (aQ (aE (bQ [(0, 0), (1, 0), (2, 0), (3, 0), (4, 0), (5, 1), (6, 0), (7, 0), (8, 0), (9, 1), (10, 0), (11, 0), (12, 0), (13, 1), (14, 0), (15, 0), (16, 0), (17, 0), (18, 0)] mixed rfl (by kernel_rfl) (fun w70 hb70 hh70 => ?_))))))
 have M70 := M69.drew hb70 hh70
 obtain ⟨t31, ht31, ba31, bb31, bc31, bd31, be31⟩ := fW (z := t22 % 65536) (c := t30 / 65536) (x := x3) (y := y1) (Nat.mod_lt _ (by decide)) be30 hx3 hy1
 refine eF rfl rfl rfl (eF rfl rfl rfl (aV rfl rfl rfl (fun _ => aY rfl rfl (by first | decide | omega) (by first | decide | omega)) (aV rfl rfl rfl (fun _ => aD 0 bU rfl) (aV rfl rfl rfl (fun _ => cA (4) cY rfl rfl rfl (by decide)) (bS rfl rfl rfl (aM 3 (.int _ _) cQ M70 rfl rfl rfl) ?_)))))
 refine eF rfl rfl rfl (aV rfl rfl rfl (fun _ => aD 0 bU rfl) (aV rfl rfl rfl (fun _ => cA (3) cY rfl rfl rfl (by decide)) (bS rfl rfl rfl (aM 1 (.int _ _) cQ M70 rfl rfl rfl) (eF rfl rfl rfl (aV rfl rfl rfl (fun _ => aD 0 bU rfl) ?_)))))
 refine aV rfl rfl rfl (fun _ => cA (1) cY rfl rfl rfl (by decide)) (bS rfl rfl rfl (aM 2 (.int _ _) cQ M70 rfl rfl rfl) (aV rfl rfl rfl (fun _ => bZ (.int _ _) rfl rfl rfl) (dX 38 (.int .u64 ((x3 * y1 : Nat) : Int)) (iE (lA x3 y1 ba31)) (aV rfl rfl rfl (fun _ => bZ (.int _ _) rfl rfl rfl) ?_))))
 refine dX 39 (.int .u64 ((t22 % 65536 + x3 * y1 : Nat) : Int)) (iE (lB (t22 % 65536) (x3 * y1) bb31)) (eF rfl rfl rfl (aV rfl rfl rfl (fun _ => bZ (.int _ _) rfl rfl rfl) (dX 41 (.int .u64 (t31 : Int)) (iE ((lB (t22 % 65536 + x3 * y1) (t30 / 65536) bc31).trans (congrArg _ ht31.symm))) (mA rfl rfl rfl ?_))))
 refine bX (aC (aE (aA (aP rfl rfl (aP rfl rfl (wq (aY rfl rfl (by first | decide | omega) (by first | decide | omega)) rfl (aK 44 (.int .i64 4) (iE (by first | decide | omega)) ?_)))))))
 refine aP rfl rfl (wq (iT rfl rfl (by decide)) rfl (aK 46 (.int .u64 ((t31 % 65536 : Nat) : Int)) (iE (jF t31 65536)) (wq (aD 0 bU rfl) rfl (wq (cA (4) cY rfl rfl rfl (by decide)) rfl (dD 3 (.int _ _) cQ M70 rfl rfl rfl rfl rfl rfl (fun w71 M71 => ?_))))))
 refine aB (aC (aA (aP rfl rfl (wq (fZ rfl rfl (by decide)) rfl (aK 50 (.int .u64 ((t31 / 65536 : Nat) : Int)) (iE (iO t31 65536 bd31)) (bI rfl rfl (aB ?_)))))))
 refine cV (aC (aA (aP rfl rfl (wq (aY rfl rfl (by first | decide | omega) (by first | decide | omega)) rfl (aK 23 (.int .i64 2) (iE (by first | decide | omega)) (bI rfl rfl ?_))))))
 refine aB (aC (fK (eC (fr := [(4, .pointer _), (5, .pointer _), (6, .pointer _), (7, .pointer _), (8, .int .i64 3), (9, .int _ _), (10, .int .i64 2), (11, .int _ _), (16, .int .i64 3), (17, .bool true)]) (bA rfl (bA rfl (bA rfl (bA rfl (bA rfl (bA rfl (bA rfl (bA rfl (bA rfl (bA rfl eB)))))))))) (fun ρ72 => ?_))))
 have M73 : Mem _ _ [_, _, _, (some _, bc [.int .u64 ((t00 % 65536 : Nat) : Int), .int .u64 ((t10 % 65536 : Nat) : Int), .int .u64 ((t20 % 65536 : Nat) : Int), .int .u64 ((t30 % 65536 : Nat) : Int), .int .u64 ((t31 % 65536 : Nat) : Int), .int .u64 ((t23 % 65536 : Nat) : Int), .int .u64 ((t23 / 65536 : Nat) : Int), .int .u64 0] 344)] _ := M71
 refine aE (aE (aA (aP rfl rfl (cZ rfl rfl rfl rfl (kZ 21 rfl (by first | decide | omega) (aB (aC (cF rfl ?_))))))))
 refine aL (aC (aE (aQ (aE (bQ [(0, 0), (1, 0), (2, 0), (3, 0), (4, 0), (5, 1), (6, 0), (7, 0), (8, 0), (9, 1), (10, 0), (11, 0), (12, 0), (13, 1), (14, 0), (15, 0), (16, 0), (17, 0), (18, 0)] mixed rfl (by kernel_rfl) (fun w74 hb74 hh74 => ?_))))))
 have M74 := M73.drew hb74 hh74
 obtain ⟨t32, ht32, ba32, bb32, bc32, bd32, be32⟩ := fW (z := t23 % 65536) (c := t31 / 65536) (x := x3) (y := y2) (Nat.mod_lt _ (by decide)) be31 hx3 hy2
 refine eF rfl rfl rfl (eF rfl rfl rfl (aV rfl rfl rfl (fun _ => aY rfl rfl (by first | decide | omega) (by first | decide | omega)) (aV rfl rfl rfl (fun _ => aD 0 bU rfl) (aV rfl rfl rfl (fun _ => cA (5) cY rfl rfl rfl (by decide)) (bS rfl rfl rfl (aM 3 (.int _ _) cQ M74 rfl rfl rfl) ?_)))))
 refine eF rfl rfl rfl (aV rfl rfl rfl (fun _ => aD 0 bU rfl) (aV rfl rfl rfl (fun _ => cA (3) cY rfl rfl rfl (by decide)) (bS rfl rfl rfl (aM 1 (.int _ _) cQ M74 rfl rfl rfl) (eF rfl rfl rfl (aV rfl rfl rfl (fun _ => aD 0 bU rfl) ?_)))))
 refine aV rfl rfl rfl (fun _ => cA (2) cY rfl rfl rfl (by decide)) (bS rfl rfl rfl (aM 2 (.int _ _) cQ M74 rfl rfl rfl) (aV rfl rfl rfl (fun _ => bZ (.int _ _) rfl rfl rfl) (dX 38 (.int .u64 ((x3 * y2 : Nat) : Int)) (iE (lA x3 y2 ba32)) (aV rfl rfl rfl (fun _ => bZ (.int _ _) rfl rfl rfl) ?_))))
 refine dX 39 (.int .u64 ((t23 % 65536 + x3 * y2 : Nat) : Int)) (iE (lB (t23 % 65536) (x3 * y2) bb32)) (eF rfl rfl rfl (aV rfl rfl rfl (fun _ => bZ (.int _ _) rfl rfl rfl) (dX 41 (.int .u64 (t32 : Int)) (iE ((lB (t23 % 65536 + x3 * y2) (t31 / 65536) bc32).trans (congrArg _ ht32.symm))) (mA rfl rfl rfl ?_))))
 refine bX (aC (aE (aA (aP rfl rfl (aP rfl rfl (wq (aY rfl rfl (by first | decide | omega) (by first | decide | omega)) rfl (aK 44 (.int .i64 5) (iE (by first | decide | omega)) ?_)))))))
 refine aP rfl rfl (wq (iT rfl rfl (by decide)) rfl (aK 46 (.int .u64 ((t32 % 65536 : Nat) : Int)) (iE (jF t32 65536)) (wq (aD 0 bU rfl) rfl (wq (cA (5) cY rfl rfl rfl (by decide)) rfl (dD 3 (.int _ _) cQ M74 rfl rfl rfl rfl rfl rfl (fun w75 M75 => ?_))))))
 refine aB (aC (aA (aP rfl rfl (wq (fZ rfl rfl (by decide)) rfl (aK 50 (.int .u64 ((t32 / 65536 : Nat) : Int)) (iE (iO t32 65536 bd32)) (bI rfl rfl (aB ?_)))))))
 refine cV (aC (aA (aP rfl rfl (wq (aY rfl rfl (by first | decide | omega) (by first | decide | omega)) rfl (aK 23 (.int .i64 3) (iE (by first | decide | omega)) (bI rfl rfl ?_))))))
 refine aB (aC (fK (eC (fr := [(4, .pointer _), (5, .pointer _), (6, .pointer _), (7, .pointer _), (8, .int .i64 3), (9, .int _ _), (10, .int .i64 3), (11, .int _ _), (16, .int .i64 3), (17, .bool true)]) (bA rfl (bA rfl (bA rfl (bA rfl (bA rfl (bA rfl (bA rfl (bA rfl (bA rfl (bA rfl eB)))))))))) (fun ρ76 => ?_))))
 have M77 : Mem _ _ [_, _, _, (some _, bc [.int .u64 ((t00 % 65536 : Nat) : Int), .int .u64 ((t10 % 65536 : Nat) : Int), .int .u64 ((t20 % 65536 : Nat) : Int), .int .u64 ((t30 % 65536 : Nat) : Int), .int .u64 ((t31 % 65536 : Nat) : Int), .int .u64 ((t32 % 65536 : Nat) : Int), .int .u64 ((t23 / 65536 : Nat) : Int), .int .u64 0] 344)] _ := M75
 refine aE (aE (aA (aP rfl rfl (cZ rfl rfl rfl rfl (kZ 21 rfl (by first | decide | omega) (aB (aC (cF rfl ?_))))))))
 refine aL (aC (aE (aQ (aE (bQ [(0, 0), (1, 0), (2, 0), (3, 0), (4, 0), (5, 1), (6, 0), (7, 0), (8, 0), (9, 1), (10, 0), (11, 0), (12, 0), (13, 1), (14, 0), (15, 0), (16, 0), (17, 0), (18, 0)] mixed rfl (by kernel_rfl) (fun w78 hb78 hh78 => ?_))))))
 have M78 := M77.drew hb78 hh78
 obtain ⟨t33, ht33, ba33, bb33, bc33, bd33, be33⟩ := fW (z := t23 / 65536) (c := t32 / 65536) (x := x3) (y := y3) be23 be32 hx3 hy3
 refine eF rfl rfl rfl (eF rfl rfl rfl (aV rfl rfl rfl (fun _ => aY rfl rfl (by first | decide | omega) (by first | decide | omega)) (aV rfl rfl rfl (fun _ => aD 0 bU rfl) (aV rfl rfl rfl (fun _ => cA (6) cY rfl rfl rfl (by decide)) (bS rfl rfl rfl (aM 3 (.int _ _) cQ M78 rfl rfl rfl) ?_)))))
 refine eF rfl rfl rfl (aV rfl rfl rfl (fun _ => aD 0 bU rfl) (aV rfl rfl rfl (fun _ => cA (3) cY rfl rfl rfl (by decide)) (bS rfl rfl rfl (aM 1 (.int _ _) cQ M78 rfl rfl rfl) (eF rfl rfl rfl (aV rfl rfl rfl (fun _ => aD 0 bU rfl) ?_)))))
 refine aV rfl rfl rfl (fun _ => cA (3) cY rfl rfl rfl (by decide)) (bS rfl rfl rfl (aM 2 (.int _ _) cQ M78 rfl rfl rfl) (aV rfl rfl rfl (fun _ => bZ (.int _ _) rfl rfl rfl) (dX 38 (.int .u64 ((x3 * y3 : Nat) : Int)) (iE (lA x3 y3 ba33)) (aV rfl rfl rfl (fun _ => bZ (.int _ _) rfl rfl rfl) ?_))))
 refine dX 39 (.int .u64 ((t23 / 65536 + x3 * y3 : Nat) : Int)) (iE (lB (t23 / 65536) (x3 * y3) bb33)) (eF rfl rfl rfl (aV rfl rfl rfl (fun _ => bZ (.int _ _) rfl rfl rfl) (dX 41 (.int .u64 (t33 : Int)) (iE ((lB (t23 / 65536 + x3 * y3) (t32 / 65536) bc33).trans (congrArg _ ht33.symm))) (mA rfl rfl rfl ?_))))
 refine bX (aC (aE (aA (aP rfl rfl (aP rfl rfl (wq (aY rfl rfl (by first | decide | omega) (by first | decide | omega)) rfl (aK 44 (.int .i64 6) (iE (by first | decide | omega)) ?_)))))))
 refine aP rfl rfl (wq (iT rfl rfl (by decide)) rfl (aK 46 (.int .u64 ((t33 % 65536 : Nat) : Int)) (iE (jF t33 65536)) (wq (aD 0 bU rfl) rfl (wq (cA (6) cY rfl rfl rfl (by decide)) rfl (dD 3 (.int _ _) cQ M78 rfl rfl rfl rfl rfl rfl (fun w79 M79 => ?_))))))
 refine aB (aC (aA (aP rfl rfl (wq (fZ rfl rfl (by decide)) rfl (aK 50 (.int .u64 ((t33 / 65536 : Nat) : Int)) (iE (iO t33 65536 bd33)) (bI rfl rfl (aB ?_)))))))
 refine cV (aC (aA (aP rfl rfl (wq (aY rfl rfl (by first | decide | omega) (by first | decide | omega)) rfl (aK 23 (.int .i64 4) (iE (by first | decide | omega)) (bI rfl rfl ?_))))))
 refine aB (aC (fK (eC (fr := [(4, .pointer _), (5, .pointer _), (6, .pointer _), (7, .pointer _), (8, .int .i64 3), (9, .int _ _), (10, .int .i64 4), (11, .int _ _), (16, .int .i64 3), (17, .bool true)]) (bA rfl (bA rfl (bA rfl (bA rfl (bA rfl (bA rfl (bA rfl (bA rfl (bA rfl (bA rfl eB)))))))))) (fun ρ80 => ?_))))
 have M81 : Mem _ _ [_, _, _, (some _, bc [.int .u64 ((t00 % 65536 : Nat) : Int), .int .u64 ((t10 % 65536 : Nat) : Int), .int .u64 ((t20 % 65536 : Nat) : Int), .int .u64 ((t30 % 65536 : Nat) : Int), .int .u64 ((t31 % 65536 : Nat) : Int), .int .u64 ((t32 % 65536 : Nat) : Int), .int .u64 ((t33 % 65536 : Nat) : Int), .int .u64 0] 344)] _ := M79
 refine aE (aE (aA (aP rfl rfl (cZ rfl rfl rfl rfl (pE 21 rfl (by first | decide | omega) (aB (aC (cJ rfl ?_))))))))
 refine cX (dF (dF (eS (aC (aA (aP rfl rfl (wq (aY rfl rfl (by first | decide | omega) (by first | decide | omega)) rfl ?_)))))))
 refine aK 52 (.int .i64 7) (iE (by first | decide | omega)) (aP rfl rfl (wq (aD 0 bU rfl) rfl (wq (cA (7) cY rfl rfl rfl (by decide)) rfl (dD 3 (.int _ _) cQ M81 rfl rfl rfl rfl rfl rfl (fun w82 M82 => (aB ?_))))))
 refine cV (aC (aA (aP rfl rfl (wq (aY rfl rfl (by first | decide | omega) (by first | decide | omega)) rfl (aK 19 (.int .i64 4) (iE (by first | decide | omega)) (bI rfl rfl ?_))))))
 refine aB (aC (fK (eC (fr := [(4, .pointer _), (5, .pointer _), (6, .pointer _), (7, .pointer _), (8, .int .i64 4), (9, .int _ _), (10, .int .i64 4), (11, .int _ _)]) (bA rfl (bA rfl (bA rfl (bA rfl (bA rfl (bA rfl (bA rfl (bA rfl eB)))))))) (fun ρ83 => ?_))))
 have M84 : Mem _ _ [_, _, _, (some _, bc [.int .u64 ((t00 % 65536 : Nat) : Int), .int .u64 ((t10 % 65536 : Nat) : Int), .int .u64 ((t20 % 65536 : Nat) : Int), .int .u64 ((t30 % 65536 : Nat) : Int), .int .u64 ((t31 % 65536 : Nat) : Int), .int .u64 ((t32 % 65536 : Nat) : Int), .int .u64 ((t33 % 65536 : Nat) : Int), .int .u64 ((t33 / 65536 : Nat) : Int)] 344)] _ := M82
 refine aE (aE (aA (aP rfl rfl (cZ rfl rfl rfl rfl (pE 17 rfl (by first | decide | omega) (aB (aC (cJ rfl ?_))))))))
 refine cX (dF (dF (eS (aC (aE (aA (wq (aX 3 nW M84 rfl rfl rfl) rfl (bG 0 _ nW M84 rfl rfl rfl rfl rfl (aR rfl) rfl (fun w85 M85 => ?_)))))))))
 refine aB (aC (aO (eL 0 nW M85 rfl rfl rfl ?_)))
 have hall := bIg ht00 ht01 ht02 ht03 ht10 ht11 ht12 ht13 ht20 ht21 ht22 ht23 ht30 ht31 ht32 ht33
 rw [hX, hY] at hall
 exact ⟨[t00 % 65536, t10 % 65536, t20 % 65536, t30 % 65536, t31 % 65536, t32 % 65536, t33 % 65536, t33 / 65536], rfl, rfl, bSl (Nat.mod_lt _ (by decide)) (Nat.mod_lt _ (by decide)) (Nat.mod_lt _ (by decide)) (Nat.mod_lt _ (by decide)) (Nat.mod_lt _ (by decide)) (Nat.mod_lt _ (by decide)) (Nat.mod_lt _ (by decide)) be33, hall, M85.below⟩
set_option maxHeartbeats 4000000 in
theorem aWr (w : World) (d0 d1 d2 d3 d4 d5 d6 d7 : Nat) (hd : ∀ x ∈ ([d0, d1, d2, d3, d4, d5, d6, d7] : List Nat), x < 65536) (i : Nat) (hi : i < 128) :
  Calls Tryz.prog 265 #[(.agg (([d0, d1, d2, d3, d4, d5, d6, d7] : List Nat).map lI).toArray), .int .i64 (i : Int)] w (fun ex w' => ∃ v, ex = .returned v ∧ (fun v w' => v = .int .u64 ((tX [d0, d1, d2, d3, d4, d5, d6, d7] / 2 ^ i % 2 : Nat) : Int) ∧ Below w.heap.size w w') v w') := by
 obtain ⟨d, hdj⟩ := cS (xs := ([d0, d1, d2, d3, d4, d5, d6, d7] : List Nat)) (k := i / 16) (n := 8) rfl (by omega)
 have hdl := hd d (List.mem_of_getElem? hdj)
 refine aI #[.tmp 4] 22 Tryz.func265 rfl Tryz.results265 Tryz.ntmps265 rfl ?_
 have M0 := Mem.refl w
 refine aE (aA (bK (.agg (List.toArray _)) M0 rfl rfl rfl (fun b1 w1 M1 => (bI rfl rfl (aB (aC (aE (aA (aP rfl rfl (wq (fZ rfl rfl (by decide)) rfl ?_))))))))))
 refine aK 8 (.int .i64 ((i / 16 : Nat) : Int)) (iE (bSn i 16 (by omega))) (wq (aD 0 bU rfl) rfl (wq (cA ((i / 16)) cY rfl rfl rfl (by omega)) rfl (wq (aM 0 (.int _ _) cQ M1 rfl rfl (bGc hdj)) rfl (bI rfl rfl (aB (aC (aE (aE (aA ?_)))))))))
 refine bI rfl rfl (aB (aC (aQ (dS (σ := Nat) [1, 4] (fun k => [(5, .int .u64 ((d / 2 ^ k : Nat) : Int)), (6, .int .i64 (k : Int))]) (fun k w' => k ≤ i % 16 ∧ Mem w [] [(some b1, bc (([d0, d1, d2, d3, d4, d5, d6, d7] : List Nat).map lI) 344)] w') (fun k => i % 16 - k) 0 (bA (iv rfl (by simp)) (bA rfl eB)) (⟨by omega, M1⟩) ?_))))
 rintro k ρ2 w2 ⟨hk, hM2⟩
 refine aE (aE (aA (aP rfl rfl (aP rfl rfl (wq (iT rfl rfl (by decide)) rfl (aK 14 (.int .i64 ((i % 16 : Nat) : Int)) (iE (jF i 16)) (cZ rfl rfl rfl rfl ?_)))))))
 refine aB (aC ?_)
 refine aW rfl (fun h15 => ?_) (fun h15 => ?_)
 ·refine aL (aC (aE (aQ (aA (aP rfl rfl (wq (fZ rfl rfl (by decide)) rfl (aK 19 (.int .u64 ((d / 2 ^ (k + 1) : Nat) : Int)) (iE ((iO (d / 2 ^ k) 2 (Nat.lt_of_le_of_lt (Nat.div_le_self _ _) (by omega))).trans (congrArg _ (by rw [Nat.pow_succ, Nat.div_div_eq_div_mul])))) (bI rfl rfl ?_))))))))
  refine aB (cV (aC (aA (aP rfl rfl (wq (aY rfl rfl (by omega) (by omega)) rfl (bI rfl rfl ?_))))))
  refine aB ?_
  refine cG (k + 1) (bA rfl (bA rfl eB)) (cN rfl (cN rfl gV)) ?_ ?_
  ·exact ⟨by omega, hM2⟩
  ·omega
 ·have hks : k = i % 16 := by omega
  refine cX (dF (dK (eS (aC (aE (aA (aP rfl rfl ?_)))))))
  refine wq (iT rfl rfl (by decide)) rfl (aK 21 (.int .u64 ((d / 2 ^ k % 2 : Nat) : Int)) (iE (jF (d / 2 ^ k) 2)) (bI rfl rfl (aB (aC (aO (cD (.int _ _) rfl ?_))))))
  exact ⟨iE (congrArg _ (by rw [hks]; exact bLv (tX [d0, d1, d2, d3, d4, d5, d6, d7]) i (i / 16) (i % 16) d (by omega) (by omega) (aMq [d0, d1, d2, d3, d4, d5, d6, d7] (i / 16) d hd hdj))), hM2.below⟩
set_option maxHeartbeats 8000000 in
theorem yG (w : World) (d0 d1 d2 d3 d4 d5 d6 d7 : Nat) (hd : ∀ x ∈ ([d0, d1, d2, d3, d4, d5, d6, d7] : List Nat), x < 65536) (z : Nat) (hz : 0 < z) (hz1 : z ≤ 9223372036854775807) (hX : tX [d0, d1, d2, d3, d4, d5, d6, d7] / z ≤ 4611686018427387904) (hX2 : tX [d0, d1, d2, d3, d4, d5, d6, d7] < 340282366920938463463374607431768211456) :
  Calls Tryz.prog 250 #[(.agg (([d0, d1, d2, d3, d4, d5, d6, d7] : List Nat).map lI).toArray), .int .u64 (z : Int)] w (fun ex w' => ∃ v, ex = .returned v ∧ (fun v w' => v = .tuple #[.int .u64 ((tX [d0, d1, d2, d3, d4, d5, d6, d7] / z : Nat) : Int), .int .u64 ((tX [d0, d1, d2, d3, d4, d5, d6, d7] % z : Nat) : Int), .bool true] ∧ Below w.heap.size w w') v w') := by
 refine aI #[.tmp 4, .tmp 5, .tmp 6] 42 Tryz.func250 rfl Tryz.results250 Tryz.ntmps250 rfl ?_
 have M0 := Mem.refl w
 refine aE (aA (bK (.agg (List.toArray _)) M0 rfl rfl rfl (fun b1 w1 M1 => (bI rfl rfl (bI rfl rfl (wq (aJ (.bool false) rfl) rfl (aB (aC (aE (aA ?_))))))))))
 refine bI rfl rfl (aB (aC (aE (aA (bI rfl rfl (aB (aC (aE (aA (wq (aJ (.bool true) rfl) rfl (aB (aC (aE (aE (aA ?_)))))))))))))))
 refine bI rfl rfl (aB (aC (aQ (dS (σ := Nat × Nat × Nat) [1, 2, 4, 5, 6] (fun (p, q, r) => [(7, .int .u64 (q : Int)), (8, .int .u64 (r : Int)), (9, .bool true), (10, .int .i64 ((p : Int) - 1))]) (fun (p, q, r) w' => (p ≤ 128 ∧ Lb (tX [d0, d1, d2, d3, d4, d5, d6, d7]) z p q r) ∧ Mem w [] [(some b1, bc (([d0, d1, d2, d3, d4, d5, d6, d7] : List Nat).map lI) 344)] w') (fun (p, q, r) => p) (128, 0, 0) (bA rfl (bA rfl (bA rfl (bA (iv rfl (by decide)) eB)))) (⟨⟨by omega, bGv hz hX2⟩, M1⟩) ?_))))
 rintro ⟨p, q, r⟩ ρ2 w2 ⟨⟨hp, hlb⟩, hM2⟩
 refine aE (aE (aA (aP rfl rfl (cZ rfl rfl rfl rfl (aB (aC ?_))))))
 refine aW rfl (fun h13 => ?_) (fun h13 => ?_)
 ·obtain ⟨s, rfl⟩ : ∃ s, p = s + 1 := ⟨p - 1, by omega⟩
  obtain ⟨b, hb⟩ : ∃ b, tX [d0, d1, d2, d3, d4, d5, d6, d7] / 2 ^ s % 2 = b := ⟨_, rfl⟩
  obtain ⟨hr, hb2, hq2, hyes, hno⟩ := bIt hz hlb hb
  have hsm := bDh (i := s) hX
  refine aL (aC (aE (aQ (aE (aA (aP rfl rfl (cZ rfl rfl rfl rfl (pE 17 rfl (by omega) (wq (aJ (.bool false) rfl) rfl (aB (aC (aE (aA ?_)))))))))))))
  refine aP rfl rfl (wq (bZ (.int _ _) rfl rfl rfl) rfl (aK 19 (.int .u64 ((2 * r : Nat) : Int)) (iE (by rw [gB]; omega)) (wq (aX 0 nW hM2 rfl rfl rfl) rfl (aP rfl rfl (aK 21 (.int .i64 (s : Int)) (iE (by omega)) ?_)))))
  refine bY bNa rfl rfl (aWr _ d0 d1 d2 d3 d4 d5 d6 d7 hd s (by omega)) ?_
  rintro v3 w3 ⟨rfl, hb3⟩
  have M3 := hM2.callB hb3
  refine aK 22 (.int .u64 (b : Int)) (iE (congrArg _ hb)) (wq (bZ (.int _ _) rfl rfl rfl) rfl (aK 23 (.int .u64 ((2 * r + b : Nat) : Int)) (iE (by rw [gB]; omega)) (bI rfl rfl (aB (aC (aE (aE (aA (aP rfl rfl ?_)))))))))
  refine cZ rfl rfl rfl rfl (pE 25 rfl (by omega) (aB (aC (cJ rfl (aL (aC (aE (aA (aP rfl rfl ?_)))))))))
  refine wq (bZ (.int _ _) rfl rfl rfl) rfl (aK 27 (.int .u64 ((2 * q : Nat) : Int)) (iE (by rw [gB]; omega)) (bI rfl rfl (aB (aC (aE (aA (wq (aH (.bool false) rfl) rfl (wq (aH (.bool false) rfl) rfl ?_))))))))
  refine aP rfl rfl (aP rfl rfl (cZ rfl rfl rfl rfl (wq (bR false (.bool (decide _)) rfl rfl) rfl (aB (aC ?_)))))
  refine aW rfl (fun h33 => ?_) (fun h33 => ?_)
  ·refine aE (aA (aP rfl rfl (aP rfl rfl (wq (bZ (.int _ _) rfl rfl rfl) rfl (aK 36 (.int .u64 ((2 * r + b - z : Nat) : Int)) (iE (by rw [gB]; omega)) (bI rfl rfl ?_))))))
   refine aB (aC (aA (aP rfl rfl (wq (bZ (.int _ _) rfl rfl rfl) rfl (aK 38 (.int .u64 ((2 * q + 1 : Nat) : Int)) (iE (by rw [gB]; omega)) (bI rfl rfl (aB ?_)))))))
   refine cV (aC (aA (aP rfl rfl (wq (fU rfl rfl (by omega) (by omega)) rfl (bI rfl rfl (aB ?_))))))
   refine cG (s, 2 * q + 1, 2 * r + b - z) (bA rfl (bA rfl (bA rfl (bA (iv rfl (by omega)) eB)))) (cN rfl (cN rfl (cN rfl (cN rfl (cN rfl gV))))) ?_ ?_
   ·exact ⟨⟨by omega, hyes (by omega)⟩, M3⟩
   ·(show s < s + 1; omega)
  ·refine aL (cV (aC (aA (aP rfl rfl (wq (fU rfl rfl (by omega) (by omega)) rfl (bI rfl rfl ?_))))))
   refine aB ?_
   refine cG (s, 2 * q, 2 * r + b) (bA rfl (bA rfl (bA rfl (bA (iv rfl (by omega)) eB)))) (cN rfl (cN rfl (cN rfl (cN rfl (cN rfl gV))))) ?_ ?_
   ·exact ⟨⟨by omega, hno (by omega)⟩, M3⟩
   ·(show s < s + 1; omega)
 ·obtain rfl : p = 0 := by omega
  obtain ⟨hq, hr⟩ := bGx hlb
  refine cX (dF (dK (eS (aC (aE (aA (aP rfl rfl ?_)))))))
  refine aP rfl rfl (wq (aH (.bool true) rfl) rfl (bI rfl rfl (bI rfl rfl (wq (aJ (.bool true) rfl) rfl (aB (aC (aO ?_)))))))
  refine aZj (.int _ _) (.int _ _) (.bool true) rfl rfl rfl ?_
  exact ⟨by rw [hq, hr], hM2.below⟩
set_option maxHeartbeats 4000000 in
theorem aAw (w : World) (q r : Nat) (neg : Bool) (hq : q ≤ 4294967296) :
  Calls Tryz.prog 252 #[.int .u64 (q : Int), .int .u64 (r : Int), .bool true, .bool neg] w (fun ex w' => ∃ v, ex = .returned v ∧ (fun v w' => v = .tuple #[.int .i64 (if neg = true then (if 0 < r then -(q : Int) - 1 else -(q : Int)) else (q : Int)), .bool true] ∧ Below w.heap.size w w') v w') := by
 refine aI #[.tmp 8, .tmp 9] 33 Tryz.func252 rfl Tryz.results252 Tryz.ntmps252 rfl ?_
 have M0 := Mem.refl w
 refine aE (aA (bI rfl rfl (wq (aJ (.bool false) rfl) rfl (aB (aC (aE (aE (aA (wq (aH (.bool _) rfl) rfl (wq (gG _ rfl rfl) rfl ?_))))))))))
 refine aB (aC ?_)
 refine iG _ rfl (fun h11 => ?_) (fun h11 => ?_)
 ·have hn : neg = false := by simpa using h11
  refine aE (aA (aP rfl rfl (wq (aZ vF Tryz.underlying2 rfl (fH _ (by omega) (by omega))) rfl (wq (aH (.bool true) rfl) rfl (wq (aH (.bool true) rfl) rfl (aP rfl rfl ?_))))))
  refine cZ rfl rfl rfl rfl (kZ 17 rfl (by omega) (wq (bR true (.bool true) rfl rfl) rfl (bI rfl rfl (wq (aJ (.bool true) rfl) rfl (aB (aC (aO (cM ?_))))))))
  refine gA (.int _ _) (.bool true) rfl rfl ?_
  exact ⟨by rw [hn]; rfl, M0.below⟩
 ·have hn : neg = true := by simpa using h11
  refine aL (aC (aE (aE (aA (aP rfl rfl (cZ rfl rfl rfl rfl (aB (aC ?_))))))))
  refine aW rfl (fun h20 => ?_) (fun h20 => ?_)
  ·refine aE (aE (aA (aP rfl rfl (cZ rfl rfl rfl rfl (pE 22 rfl (by omega) (aB (aC (cJ rfl ?_))))))))
   refine aL (aC (aA (aP rfl rfl (wq (bZ (.int _ _) rfl rfl rfl) rfl (aK 24 (.int .u64 ((q + 1 : Nat) : Int)) (iE (by rw [gB]; omega)) (bI rfl rfl (aB (aC (aE (aA ?_))))))))))
   refine aP rfl rfl (wq (qQ rfl) rfl (wq (dA vF Tryz.underlying2 rfl) rfl (aK 27 (.int .i64 (-((q + 1 : Nat) : Int))) (iE (aIv (q + 1) (by omega))) (wq (aH (.bool true) rfl) rfl (wq (aH (.bool true) rfl) rfl ?_)))))
   refine aP rfl rfl (cZ rfl rfl rfl rfl (kZ 31 rfl (by omega) (wq (bR true (.bool true) rfl rfl) rfl (bI rfl rfl (wq (aJ (.bool true) rfl) rfl ?_)))))
   refine aB (aC (aO (gA (.int _ _) (.bool true) rfl rfl ?_)))
   exact ⟨by rw [if_pos hn, if_pos (by omega)]; exact tP (iE (by omega)) rfl, M0.below⟩
  ·refine aL (aC (aE (aA (aP rfl rfl (wq (qQ rfl) rfl (wq (dA vF Tryz.underlying2 rfl) rfl (aK 27 (.int .i64 (-((q : Nat) : Int))) (iE (aIv (q) (by omega))) (wq (aH (.bool true) rfl) rfl ?_))))))))
   refine wq (aH (.bool true) rfl) rfl (aP rfl rfl (cZ rfl rfl rfl rfl (kZ 31 rfl (by omega) (wq (bR true (.bool true) rfl rfl) rfl (bI rfl rfl ?_)))))
   refine wq (aJ (.bool true) rfl) rfl (aB (aC (aO (gA (.int _ _) (.bool true) rfl rfl ?_))))
   exact ⟨by rw [if_pos hn, if_neg (by omega)], M0.below⟩
set_option maxHeartbeats 8000000 in
theorem wX (w : World) (a n d : Int) (ha : -4294967296 ≤ a ∧ a ≤ 4294967296) (hn : 0 ≤ n) (hnd : n ≤ d) (hd0 : 0 < d) (hd : d ≤ 9223372036854775807) :
  Calls Tryz.prog 249 #[.int .i64 a, .int .i64 n, .int .i64 d] w (fun ex w' => ∃ v, ex = .returned v ∧ (fun v w' => v = .tuple #[.int .i64 (a * n / d), .int .i64 0] ∧ Below w.heap.size w w') v w') := by
 obtain ⟨m, rfl⟩ := Int.eq_ofNat_of_zero_le hn
 obtain ⟨z, rfl⟩ := Int.eq_ofNat_of_zero_le (Int.le_of_lt hd0)
 have hmd := aOp (a := a) (m := m) (z := z) ha (by omega) (by omega) (by omega)
 obtain ⟨q, hq⟩ : ∃ q, a.natAbs * m / z = q := ⟨_, rfl⟩
 obtain ⟨r, hr⟩ : ∃ r, a.natAbs * m % z = r := ⟨_, rfl⟩
 have hql : q ≤ 4294967296 := by rw [← hq]; exact hmd.2.2.2
 have hbig : a.natAbs * m ≤ 4294967296 * 9223372036854775807 := Nat.mul_le_mul (by omega) (by omega)
 refine aI #[.tmp 6, .tmp 7] 49 Tryz.func249 rfl Tryz.results249 Tryz.ntmps249 rfl ?_
 have M0 := Mem.refl w
 refine aE (aA (bI rfl rfl (bI rfl rfl (aB (aC (aE (aE (aA (aP rfl rfl (cZ rfl rfl rfl rfl ?_))))))))))
 refine pE 15 rfl (by omega) (aB (aC (cJ rfl (aL (aC (aE (aA (aP rfl rfl (wq (dA lW Tryz.underlying237 rfl) rfl ?_)))))))))
 refine aK 17 (.int .u64 (z : Int)) (iE (by rw [gB]; omega)) (bI rfl rfl (aB (aC (aE (aE (aA (aP rfl rfl (cZ rfl rfl rfl rfl (pE 19 rfl (by omega) ?_)))))))))
 refine aB (aC (cJ rfl (aL (aC (aE (aA (aP rfl rfl (aP rfl rfl (bY bAe rfl rfl (vK _ a (m : Int) (by omega) (by omega) (by omega) (by omega)) ?_)))))))))
 rintro v1 w1 ⟨D, rfl, hD8, hDd, hDv, hb1⟩
 have M1 := M0.callB hb1
 obtain ⟨d0, d1, d2, d3, d4, d5, d6, d7, rfl⟩ := bKj hD8
 rw [Int.natAbs_natCast] at hDv
 refine aP rfl rfl (bY bCd rfl rfl (yG _ d0 d1 d2 d3 d4 d5 d6 d7 hDd z (by omega) (by omega) (by rw [hDv]; omega) (by rw [hDv]; omega)) ?_)
 rintro v2 w2 ⟨rfl, hb2⟩
 have M2 := M1.callB hb2
 refine wq (aH (.tuple (List.toArray _)) rfl) rfl (wq (bN (.int _ _) rfl rfl) rfl (aK 28 (.int .u64 (q : Int)) (iE (by rw [hDv, hq])) (wq (bN (.int _ _) rfl rfl) rfl (aK 29 (.int .u64 (r : Int)) (iE (by rw [hDv, hr])) (wq (bN (.bool true) rfl rfl) rfl ?_)))))
 refine bI rfl rfl (bI rfl rfl (wq (aJ (.bool true) rfl) rfl (aB (aC (aE (aA (aP rfl rfl (aP rfl rfl ?_))))))))
 refine wq (aH (.bool true) rfl) rfl (aP rfl rfl (cZ rfl rfl rfl rfl (aP rfl rfl (cZ rfl rfl rfl rfl (pE 38 rfl (by omega) ?_)))))
 refine wq (rR _ Tryz.underlying4 rfl rfl rfl) rfl (aK 39 (.bool (decide (a < 0))) (bv rfl (by simp)) (aP rfl rfl (cZ rfl rfl rfl rfl (pE 41 rfl (by omega) (wq (rR _ Tryz.underlying4 rfl rfl rfl) rfl ?_)))))
 refine aK 42 (.bool (decide (a < 0))) (bv rfl (by simp)) (bY bBy rfl rfl (aAw _ q r (decide (a < 0)) hql) ?_)
 rintro v3 w3 ⟨rfl, hb3⟩
 have M3 := M2.callB hb3
 refine wq (aH (.tuple (List.toArray _)) rfl) rfl (wq (bN (.int _ _) rfl rfl) rfl (wq (bN (.bool true) rfl rfl) rfl (bI rfl rfl (wq (aJ (.bool true) rfl) rfl (aB (aC (aE (aE (aA ?_)))))))))
 refine wq (aH (.bool true) rfl) rfl (wq (gG false rfl rfl) rfl (aB (aC (cJ rfl (aL (aC (aE (aA (aP rfl rfl ?_)))))))))
 refine bI rfl rfl (bI rfl rfl (aB (aC (aO (gA (.int _ _) (.int _ _) rfl rfl ?_)))))
 have hval : (if decide (a < 0) = true then (if 0 < r then -(q : Int) - 1 else -(q : Int)) else (q : Int)) = a * (m : Int) / (z : Int) := bEr hq hr hd0
 exact ⟨tP (iE hval) rfl, M3.below⟩
set_option maxHeartbeats 8000000 in
theorem bRc (w : World) (n : Nat) (hn : n < 18446744073709551616) :
  Calls Tryz.prog 242 #[.int .u64 (n : Int)] w (fun ex w' => ∃ v, ex = .returned v ∧ (fun v w' => v = .int .u64 ((vA n : Nat) : Int) ∧ Below w.heap.size w w') v w') := by
 refine aI #[.tmp 2] 32 Tryz.func242 rfl Tryz.results242 Tryz.ntmps242 rfl ?_
 have M0 := Mem.refl w
 refine aE (aA (bI rfl rfl (aB (aC (aE (aA (aP rfl rfl (bI rfl rfl (bI rfl rfl ?_)))))))))
 refine aB (aC (aE (aE (aA (aP rfl rfl (aB (aC (aQ (dS (σ := Nat × Nat × Nat) [2] (fun (i, R, e) => [(8, .int .i64 (i : Int)), (3, .int .u64 ((n - R * R : Nat) : Int)), (4, .int .u64 ((R * e : Nat) : Int))]) (fun (i, R, e) w' => Iq n i R e ∧ Mem w [] [] w') (fun (i, R, e) => 32 - i) (0, 0, 4294967296) (bA rfl (bA (iv rfl (by simp)) (bA (iv rfl (by simp)) eB))) (⟨bHo hn, M0⟩) ?_)))))))))
 rintro ⟨i, R, e⟩ ρ1 w1 ⟨I, hM1⟩
 have hile := I.ile
 have hle := I.le
 refine aE (aA (cZ rfl rfl rfl rfl (aB (aC (aE ?_)))))
 refine aW rfl (fun h9 => ?_) (fun h9 => ?_)
 ·obtain ⟨f, hf1, hf2, hf3, hf4, hf5, hf6, hf7, hf8, hfy, hfn⟩ := bHi (by omega) I
  refine aL (aC (aE (aQ (aE (aA (aP rfl rfl (bI rfl rfl (aB (aC (aE (aA (aP rfl rfl (wq (fB rfl rfl (by omega) (by omega)) rfl ?_)))))))))))))
  refine wq (jQ rfl rfl (by omega)) rfl (aK 13 (.int .u64 ((f * f : Nat) : Int)) (iE ((bIx (2 * i) _ (by omega) (by omega)).trans (congrArg _ hf4))) (bI rfl rfl (aB (aC (aE (aA (aP rfl rfl (aP rfl rfl ?_))))))))
  refine aP rfl rfl (wq (bZ (.int _ _) rfl rfl rfl) rfl (aK 17 (.int .u64 ((R * e + f * f : Nat) : Int)) (iE (by rw [gB]; omega)) (cZ rfl rfl rfl rfl (aB (aC ?_)))))
  refine aW rfl (fun h18 => ?_) (fun h18 => ?_)
  ·have h18' : R * e + f * f ≤ n - R * R := by omega
   refine aE (aA (aP rfl rfl (aP rfl rfl (aP rfl rfl (wq (bZ (.int _ _) rfl rfl rfl) rfl (aK 22 (.int .u64 ((R * e + f * f : Nat) : Int)) (iE (by rw [gB]; omega)) ?_))))))
   refine wq (bZ (.int _ _) rfl rfl rfl) rfl (aK 23 (.int .u64 ((n - (R + f) * (R + f) : Nat) : Int)) (iE (by rw [gB]; omega)) (bI rfl rfl (aB (aC (aA (aP rfl rfl (wq (jQ rfl rfl (by decide)) rfl ?_)))))))
   refine aK 25 (.int .u64 ((R * f : Nat) : Int)) (iE ((bAp (R * e)).trans (congrArg _ hf5))) (aP rfl rfl (wq (bZ (.int _ _) rfl rfl rfl) rfl (aK 27 (.int .u64 (((R + f) * f : Nat) : Int)) (iE (by rw [gB]; omega)) (bI rfl rfl (aB ?_)))))
   refine cV (aC (aA (wq (aY rfl rfl (by omega) (by omega)) rfl (aP rfl rfl (aB ?_)))))
   refine cG (i + 1, R + f, f) (bA rfl (bA rfl (bA rfl eB))) (cN rfl gV) ?_ ?_
   ·exact ⟨hfy h18', hM1⟩
   ·(show 32 - (i + 1) < 32 - i; omega)
  ·have h18' : ¬ (R * e + f * f ≤ n - R * R) := by omega
   refine aA (aP rfl rfl (wq (jQ rfl rfl (by decide)) rfl (aK 29 (.int .u64 ((R * f : Nat) : Int)) (iE ((bAp (R * e)).trans (congrArg _ hf5))) (bI rfl rfl (aB ?_)))))
   refine cV (aC (aA (wq (aY rfl rfl (by omega) (by omega)) rfl (aP rfl rfl (aB ?_)))))
   refine cG (i + 1, R, f) (bA rfl (bA rfl (bA rfl eB))) (cN rfl gV) ?_ ?_
   ·exact ⟨hfn h18', hM1⟩
   ·(show 32 - (i + 1) < 32 - i; omega)
 ·obtain rfl : i = 32 := by omega
  refine cX (dF (dK (eS (aC (aE (aA (aP rfl rfl ?_)))))))
  refine bI rfl rfl (aB (aC (aO (cD (.int _ _) rfl ?_))))
  exact ⟨iE (by rw [bHd I]), hM1.below⟩
set_option maxHeartbeats 4000000 in
theorem sU (w : World) (a b : Int × Int) (ha : I32 a) (hb : I32 b) :
  Calls Tryz.prog 239 #[(.agg (cI a).toArray), (.agg (cI b).toArray)] w (fun ex w' => ∃ v, ex = .returned v ∧ (fun v w' => v = .tuple #[.int .i64 (b.1 - a.1), .int .i64 (b.2 - a.2)] ∧ Below w.heap.size w w') v w') := by
 have hax := ha.x
 have hay := ha.y
 have hbx := hb.x
 have hby := hb.y
 refine aI #[.tmp 4, .tmp 5] 20 Tryz.func239 rfl Tryz.results239 Tryz.ntmps239 rfl ?_
 have M0 := Mem.refl w
 refine aE (aA (bK (.agg (List.toArray _)) M0 rfl rfl rfl (fun b1 w1 M1 => (bK (.agg (List.toArray _)) M1 rfl rfl rfl (fun b2 w2 M2 => (bI rfl rfl (bI rfl rfl (aB (aC (aE ?_))))))))))
 refine bQ [(0, 0), (1, 1), (2, 0), (3, 0), (4, 1), (5, 0), (6, 0), (7, 0), (8, 1), (9, 0), (10, 0), (11, 1), (12, 0), (13, 0), (14, 0), (15, 0)] mixed rfl (by kernel_rfl) (fun w3 hb3 hh3 => ?_)
 have M3 := M2.drew hb3 hh3
 refine aV rfl rfl rfl (fun _ => aD 0 cR rfl) (bS rfl rfl rfl (aM 1 (.int _ _) aT M3 rfl rfl rfl) (aV rfl rfl rfl (fun _ => aZ dQ Tryz.underlying2 rfl (fH _ (by omega) (by omega))) (aV rfl rfl rfl (fun _ => aD 0 cR rfl) (bS rfl rfl rfl (aM 0 (.int _ _) aT M3 rfl rfl rfl) ?_))))
 refine aV rfl rfl rfl (fun _ => aZ dQ Tryz.underlying2 rfl (fH _ (by omega) (by omega))) (aV rfl rfl rfl (fun _ => fU rfl rfl (by omega) (by omega)) (aV rfl rfl rfl (fun _ => aD 1 cO rfl) (bS rfl rfl rfl (aM 1 (.int _ _) aT M3 rfl rfl rfl) (aV rfl rfl rfl (fun _ => aZ dQ Tryz.underlying2 rfl (fH _ (by omega) (by omega))) ?_))))
 refine aV rfl rfl rfl (fun _ => aD 1 cO rfl) (bS rfl rfl rfl (aM 0 (.int _ _) aT M3 rfl rfl rfl) (aV rfl rfl rfl (fun _ => aZ dQ Tryz.underlying2 rfl (fH _ (by omega) (by omega))) (aV rfl rfl rfl (fun _ => fU rfl rfl (by omega) (by omega)) (mA rfl rfl rfl (mA rfl rfl rfl ?_)))))
 refine bX (aC (aO (gA (.int _ _) (.int _ _) rfl rfl ?_)))
 exact ⟨rfl, M3.below⟩
set_option maxHeartbeats 4000000 in
theorem aDi (w : World) (n : Int) (hn : vI n) :
  Calls Tryz.prog 240 #[.int .i64 n] w (fun ex w' => ∃ v, ex = .returned v ∧ (fun v w' => v = .int .u64 ((n.natAbs * n.natAbs : Nat) : Int) ∧ Below w.heap.size w w') v w') := by
 have hlt := (rL hn hn).2.1
 unfold vI at hn
 refine aI #[.tmp 2] 12 Tryz.func240 rfl Tryz.results240 Tryz.ntmps240 rfl ?_
 have M0 := Mem.refl w
 refine aE (aA (bI rfl rfl (aB (aC (aE (aE (aA (aP rfl rfl (cZ rfl rfl rfl rfl (aB (aC ?_)))))))))))
 refine aW rfl (fun h4 => ?_) (fun h4 => ?_)
 ·refine aA (aP rfl rfl (wq (qQ rfl) rfl (aK 6 (.int .i64 (-n)) (iE (fH _ (by omega) (by omega))) (bI rfl rfl (aB (aC (aE (aA ?_))))))))
  refine aP rfl rfl (wq (dA lW Tryz.underlying237 rfl) rfl (aK 8 (.int .u64 ((n.natAbs : Nat) : Int)) (iE (by rw [gB]; omega)) (aP rfl rfl (wq (dA lW Tryz.underlying237 rfl) rfl (aK 10 (.int .u64 ((n.natAbs : Nat) : Int)) (iE (by rw [gB]; omega)) ?_)))))
  refine wq (bZ (.int _ _) rfl rfl rfl) rfl (aK 11 (.int .u64 ((n.natAbs * n.natAbs : Nat) : Int)) (iE (lA _ _ (by omega))) (bI rfl rfl (aB (aC (aO (cD (.int _ _) rfl ?_))))))
  exact ⟨rfl, M0.below⟩
 ·refine aL (aC (aE (aA (aP rfl rfl (wq (dA lW Tryz.underlying237 rfl) rfl (aK 8 (.int .u64 ((n.natAbs : Nat) : Int)) (iE (by rw [gB]; omega)) (aP rfl rfl (wq (dA lW Tryz.underlying237 rfl) rfl ?_))))))))
  refine aK 10 (.int .u64 ((n.natAbs : Nat) : Int)) (iE (by rw [gB]; omega)) (wq (bZ (.int _ _) rfl rfl rfl) rfl (aK 11 (.int .u64 ((n.natAbs * n.natAbs : Nat) : Int)) (iE (lA _ _ (by omega))) (bI rfl rfl (aB (aC (aO (cD (.int _ _) rfl ?_)))))))
  exact ⟨rfl, M0.below⟩
set_option maxHeartbeats 4000000 in
theorem rO (w : World) (dx dy : Int) (hx : vI dx) (hy : vI dy) :
  Calls Tryz.prog 216 #[.int .i64 dx, .int .i64 dy] w (fun ex w' => ∃ v, ex = .returned v ∧ (fun v w' => v = .int .u64 ((pP dx dy : Nat) : Int) ∧ Below w.heap.size w w') v w') := by
 have hl := rL hx hy
 refine aI #[.tmp 4] 10 Tryz.func216 rfl Tryz.results216 Tryz.ntmps216 rfl ?_
 have M0 := Mem.refl w
 refine aE (aA (bI rfl rfl (aB (aC (aE (aA (aP rfl rfl (bY bBq rfl rfl (aDi _ dx hx) ?_))))))))
 rintro v1 w1 ⟨rfl, hb1⟩
 have M1 := M0.callB hb1
 refine aP rfl rfl (bY bBq rfl rfl (aDi _ dy hy) ?_)
 rintro v2 w2 ⟨rfl, hb2⟩
 have M2 := M1.callB hb2
 refine wq (bZ (.int _ _) rfl rfl rfl) rfl (aK 9 (.int .u64 ((pP dx dy : Nat) : Int)) (iE (by rw [gB]; unfold pP at *; omega)) (bI rfl rfl (aB (aC (aO (cD (.int _ _) rfl ?_))))))
 exact ⟨rfl, M2.below⟩
set_option maxHeartbeats 4000000 in
theorem aDm (w : World) (dx dy : Int) (hx : vI dx) (hy : vI dy) :
  Calls Tryz.prog 218 #[.int .i64 dx, .int .i64 dy] w (fun ex w' => ∃ v, ex = .returned v ∧ (fun v w' => v = .int .i64 (len dx dy) ∧ Below w.heap.size w w') v w') := by
 have hl := vV hx hy
 refine aI #[.tmp 4] 10 Tryz.func218 rfl Tryz.results218 Tryz.ntmps218 rfl ?_
 have M0 := Mem.refl w
 refine aE (aA (bI rfl rfl (aB (aC (aE (aA (aP rfl rfl (aP rfl rfl (bY aOz rfl rfl (rO _ dx dy hx hy) ?_)))))))))
 rintro v1 w1 ⟨rfl, hb1⟩
 have M1 := M0.callB hb1
 refine bY bPe rfl rfl (bRc _ (pP dx dy) (rL hx hy).1) ?_
 rintro v2 w2 ⟨rfl, hb2⟩
 have M2 := M1.callB hb2
 refine wq (dA vF Tryz.underlying2 rfl) rfl (aK 9 (.int .i64 (len dx dy)) (iE (fH (len dx dy) (by omega) (by omega))) (bI rfl rfl (aB (aC (aO (cD (.int _ _) rfl ?_))))))
 exact ⟨rfl, M2.below⟩
set_option maxHeartbeats 4000000 in
theorem aHr (w : World) (a b : Int) (hb : 0 < b) (h0 : -1000000000000000000 ≤ a) (h1 : a ≤ 1000000000000000000) :
  Calls Tryz.prog 241 #[.int .i64 a, .int .i64 b] w (fun ex w' => ∃ v, ex = .returned v ∧ (fun v w' => v = .int .i64 (a / b) ∧ Below w.heap.size w w') v w') := by
 have hf := aAm (a := a) hb
 have hb1 := aEx a b
 refine aI #[.tmp 4] 16 Tryz.func241 rfl Tryz.results241 Tryz.ntmps241 rfl ?_
 have M0 := Mem.refl w
 refine aE (aA (bI rfl rfl (aB (aC (aE (aA (aP rfl rfl (aP rfl rfl (wq (fZ rfl rfl (by omega)) rfl ?_)))))))))
 refine aK 8 (.int .i64 (a.tdiv b)) (iE (fH _ (by omega) (by omega))) (bI rfl rfl (aB (aC (aE (aE (aA (aP rfl rfl (aP rfl rfl (wq (iT rfl rfl (by omega)) rfl ?_)))))))))
 refine cZ rfl rfl rfl rfl (aB (aC ?_))
 refine aW rfl (fun h12 => ?_) (fun h12 => ?_)
 ·refine aA (aP rfl rfl (wq (fU rfl rfl (by omega) (by omega)) rfl (bI rfl rfl (aB (aC (aE (aA (aP rfl rfl ?_))))))))
  refine bI rfl rfl (aB (aC (aO (cD (.int _ _) rfl ?_))))
  exact ⟨iE (by first | exact hf.1 (by omega) | exact hf.2 (by omega)), M0.below⟩
 ·refine aL (aC (aE (aA (aP rfl rfl (bI rfl rfl (aB (aC (aO (cD (.int _ _) rfl ?_)))))))))
  exact ⟨iE (by first | exact hf.1 (by omega) | exact hf.2 (by omega)), M0.below⟩
set_option maxHeartbeats 4000000 in
theorem aYw (w : World) (dx dy : Int) (hx : vI dx) (hy : vI dy) :
  Calls Tryz.prog 217 #[.int .i64 dx, .int .i64 dy] w (fun ex w' => ∃ v, ex = .returned v ∧ (fun v w' => v = (.agg (cI (mI dx dy)).toArray) ∧ Below w.heap.size w w') v w') := by
 have hl := vV hx hy
 have hxx := hx
 have hyy := hy
 unfold vI at hxx hyy
 refine aI #[.cell 4 37] 23 Tryz.func217 rfl Tryz.results217 Tryz.ntmps217 rfl ?_
 have M0 := Mem.refl w
 refine aE (aA (aS iD M0 rfl rfl (fun b1 w1 M1 => (aB (aC (aE (aA (aP rfl rfl (aP rfl rfl (bY bCr rfl rfl (aDm _ dx dy hx hy) ?_))))))))))
 rintro v2 w2 ⟨rfl, hb2⟩
 have M2 := M1.callB hb2
 refine bI rfl rfl (aB (aC (aE (aE (aA (aP rfl rfl (cZ rfl rfl rfl rfl (aB (aC ?_)))))))))
 refine aW rfl (fun h10 => ?_) (fun h10 => ?_)
 ·refine aE (aA (wq (cC [(0, .int _ _)] _ eK rfl rfl) rfl (bG 0 _ bL M2 rfl rfl rfl rfl rfl (aR rfl) rfl (fun w3 M3 => (aB (aC (aO (cM (eL 0 bL M3 rfl rfl rfl ?_)))))))))
  exact ⟨by unfold mI; first | (rw [if_pos (by omega)]; rfl) | (rw [if_neg (by omega)]; rfl), M3.below⟩
 ·refine aL (aC (aE (aA (aP rfl rfl (wq (xJ rfl rfl (by decide)) rfl (aK 13 (.int .i64 (dx * 65536)) (iE (aIl dx hx)) (aP rfl rfl (bY bEn rfl rfl (aHr _ (dx * 65536) (len dx dy) (by omega) (by omega) (by omega)) ?_))))))))
  rintro v4 w4 ⟨rfl, hb4⟩
  have M4 := M2.callB hb4
  refine wq (dA lW Tryz.underlying21 rfl) rfl (aP rfl rfl (wq (xJ rfl rfl (by decide)) rfl (aK 18 (.int .i64 (dy * 65536)) (iE (aIl dy hy)) (aP rfl rfl (bY bEn rfl rfl (aHr _ (dy * 65536) (len dx dy) (by omega) (by omega) (by omega)) ?_)))))
  rintro v5 w5 ⟨rfl, hb5⟩
  have M5 := M4.callB hb5
  refine wq (dA lW Tryz.underlying21 rfl) rfl (wq (cC [(0, .int _ _), (1, .int _ _)] _ eK rfl rfl) rfl (bG 0 _ bL M5 rfl rfl rfl rfl rfl (aR rfl) rfl (fun w6 M6 => (aB (aC (aO (eL 0 bL M6 rfl rfl rfl ?_)))))))
  exact ⟨by unfold mI; first | (rw [if_pos (by omega)]; rfl) | (rw [if_neg (by omega)]; rfl), M6.below⟩
set_option maxHeartbeats 4000000 in
theorem fA (w : World) (a b : Int) (hb : 0 < b) (h0 : -1000000000000000000 ≤ a) (h1 : a ≤ 1000000000000000000) :
  Calls Tryz.prog 152 #[.int .i64 a, .int .i64 b] w (fun ex w' => ∃ v, ex = .returned v ∧ (fun v w' => v = .int .i64 (a / b) ∧ Below w.heap.size w w') v w') := by
 have hf := aAm (a := a) hb
 have hb1 := aEx a b
 refine aI #[.tmp 4] 16 Tryz.func152 rfl Tryz.results152 Tryz.ntmps152 rfl ?_
 have M0 := Mem.refl w
 refine aE (aA (bI rfl rfl (aB (aC (aE (aA (aP rfl rfl (aP rfl rfl (wq (fZ rfl rfl (by omega)) rfl ?_)))))))))
 refine aK 8 (.int .i64 (a.tdiv b)) (iE (fH _ (by omega) (by omega))) (bI rfl rfl (aB (aC (aE (aE (aA (aP rfl rfl (aP rfl rfl (wq (iT rfl rfl (by omega)) rfl ?_)))))))))
 refine cZ rfl rfl rfl rfl (aB (aC ?_))
 refine aW rfl (fun h12 => ?_) (fun h12 => ?_)
 ·refine aE (aA (aP rfl rfl (wq (fU rfl rfl (by omega) (by omega)) rfl (bI rfl rfl (aB (aC (aO (cM (cD (.int _ _) rfl ?_)))))))))
  exact ⟨iE (by first | exact hf.1 (by omega) | exact hf.2 (by omega)), M0.below⟩
 ·refine aL (aC (aE (aA (aP rfl rfl (bI rfl rfl (aB (aC (aO (cD (.int _ _) rfl ?_)))))))))
  exact ⟨iE (by first | exact hf.1 (by omega) | exact hf.2 (by omega)), M0.below⟩
set_option maxHeartbeats 8000000 in
theorem aMl (w : World) (n : Nat) (hn : n < 18446744073709551616) :
  Calls Tryz.prog 200 #[.int .u64 (n : Int)] w (fun ex w' => ∃ v, ex = .returned v ∧ (fun v w' => v = .int .u64 ((vA n : Nat) : Int) ∧ Below w.heap.size w w') v w') := by
 have hin := bCn hn
 refine aI #[.tmp 2] 23 Tryz.func200 rfl Tryz.results200 Tryz.ntmps200 rfl ?_
 have M0 := Mem.refl w
 refine aE (aA (bI rfl rfl (aB (aC (aE (aA (bI rfl rfl (aB (aC (aE (aA (bI rfl rfl ?_))))))))))))
 refine aB (aC (aE (aQ (dS (σ := Nat × Nat) [0, 2] (fun (lo, hi) => [(3, .int .u64 (lo : Int)), (4, .int .u64 (hi : Int))]) (fun (lo, hi) w' => (lo ≤ vA n ∧ vA n ≤ hi ∧ hi ≤ 4294967295) ∧ Mem w [] [] w') (fun (lo, hi) => hi - lo) (0, 4294967295) (bA rfl (bA rfl eB)) (⟨⟨by omega, by omega, by omega⟩, M0⟩) ?_))))
 rintro ⟨lo, hi⟩ ρ1 w1 ⟨⟨hlo, hhi, hh⟩, hM1⟩
 refine aE (aE (aA (aP rfl rfl (aP rfl rfl (cZ rfl rfl rfl rfl (aB (aC ?_)))))))
 refine aW rfl (fun h8 => ?_) (fun h8 => ?_)
 ·obtain ⟨m, hm⟩ : ∃ m, m = (lo + hi + 1) / 2 := ⟨_, rfl⟩
  have hmm := bHa (n := n) (m := m)
  have hm2 : m * m ≤ 4294967295 * 4294967295 := Nat.mul_le_mul (by omega) (by omega)
  refine aL (aC (aQ (aE (aA (aP rfl rfl (aP rfl rfl (wq (bZ (.int _ _) rfl rfl rfl) rfl (aK 11 (.int .u64 ((lo + hi : Nat) : Int)) (iE (by rw [gB]; omega)) (wq (bZ (.int _ _) rfl rfl rfl) rfl ?_)))))))))
  refine aK 12 (.int .u64 ((lo + hi + 1 : Nat) : Int)) (iE (by rw [gB]; omega)) (wq (fZ rfl rfl (by decide)) rfl (aK 13 (.int .u64 (m : Int)) (iE ((iO (lo + hi + 1) 2 (by omega)).trans (congrArg _ hm.symm))) (bI rfl rfl (aB (aC (aE (aA (aP rfl rfl ?_))))))))
  refine aP rfl rfl (wq (bZ (.int _ _) rfl rfl rfl) rfl (aK 16 (.int .u64 ((m * m : Nat) : Int)) (iE (lA m m (by omega))) (aP rfl rfl (cZ rfl rfl rfl rfl (aB (aC ?_))))))
  refine aW rfl (fun h18 => ?_) (fun h18 => ?_)
  ·refine aA (aP rfl rfl (bI rfl rfl (aB (cV ?_))))
   refine cG (m, hi) (bA rfl (bA rfl eB)) (cN rfl (cN rfl gV)) ?_ ?_
   ·exact ⟨⟨hmm.1 (by omega), by omega, by omega⟩, hM1⟩
   ·(show hi - m < hi - lo; omega)
  ·refine aA (aP rfl rfl (wq (bZ (.int _ _) rfl rfl rfl) rfl (aK 21 (.int .u64 ((m - 1 : Nat) : Int)) (iE (by rw [gB]; omega)) (bI rfl rfl (aB ?_)))))
   refine cV ?_
   refine cG (lo, m - 1) (bA rfl (bA rfl eB)) (cN rfl (cN rfl gV)) ?_ ?_
   ·exact ⟨⟨by omega, by have := hmm.2 (by omega); omega, by omega⟩, hM1⟩
   ·(show m - 1 - lo < hi - lo; omega)
 ·refine cX (dF (dK (eS (aC (aE (aA (aP rfl rfl ?_)))))))
  refine bI rfl rfl (aB (aC (aO (cD (.int _ _) rfl ?_))))
  exact ⟨iE (by omega), hM1.below⟩
set_option maxHeartbeats 4000000 in
theorem sX (w : World) (dx dy : Int) (hx : vI dx) (hy : vI dy) :
  Calls Tryz.prog 199 #[.int .i64 dx, .int .i64 dy] w (fun ex w' => ∃ v, ex = .returned v ∧ (fun v w' => v = .int .u64 ((pP dx dy : Nat) : Int) ∧ Below w.heap.size w w') v w') := by
 have hl := rL hx hy
 unfold vI at hx hy
 refine aI #[.tmp 4] 24 Tryz.func199 rfl Tryz.results199 Tryz.ntmps199 rfl ?_
 have M0 := Mem.refl w
 refine aE (aA (bI rfl rfl (aB (aC (aE (aE (aA (aP rfl rfl (cZ rfl rfl rfl rfl (aB (aC ?_)))))))))))
 refine aW rfl (fun h6 => ?_) (fun h6 => ?_)
 ·refine aA (aP rfl rfl (wq (qQ rfl) rfl (aK 8 (.int .i64 (-dx)) (iE (fH _ (by omega) (by omega))) (bI rfl rfl (aB (aC (aE (aE (aA ?_)))))))))
  refine aP rfl rfl (cZ rfl rfl rfl rfl (aB (aC ?_)))
  refine aW rfl (fun h10 => ?_) (fun h10 => ?_)
  ·refine aA (aP rfl rfl (wq (qQ rfl) rfl (aK 12 (.int .i64 (-dy)) (iE (fH _ (by omega) (by omega))) (bI rfl rfl (aB (aC (aE (aA ?_))))))))
   refine aP rfl rfl (wq (dA lW Tryz.underlying237 rfl) rfl (aK 14 (.int .u64 ((dx.natAbs : Nat) : Int)) (iE (by rw [gB]; omega)) (aP rfl rfl (wq (dA lW Tryz.underlying237 rfl) rfl (aK 16 (.int .u64 ((dx.natAbs : Nat) : Int)) (iE (by rw [gB]; omega)) ?_)))))
   refine wq (bZ (.int _ _) rfl rfl rfl) rfl (aK 17 (.int .u64 ((dx.natAbs * dx.natAbs : Nat) : Int)) (iE (lA _ _ (by omega))) (aP rfl rfl (wq (dA lW Tryz.underlying237 rfl) rfl (aK 19 (.int .u64 ((dy.natAbs : Nat) : Int)) (iE (by rw [gB]; omega)) (aP rfl rfl ?_)))))
   refine wq (dA lW Tryz.underlying237 rfl) rfl (aK 21 (.int .u64 ((dy.natAbs : Nat) : Int)) (iE (by rw [gB]; omega)) (wq (bZ (.int _ _) rfl rfl rfl) rfl (aK 22 (.int .u64 ((dy.natAbs * dy.natAbs : Nat) : Int)) (iE (lA _ _ (by omega))) (wq (bZ (.int _ _) rfl rfl rfl) rfl (aK 23 (.int .u64 ((pP dx dy : Nat) : Int)) (iE (by rw [gB]; unfold pP at *; omega)) ?_)))))
   refine bI rfl rfl (aB (aC (aO (cD (.int _ _) rfl ?_))))
   exact ⟨rfl, M0.below⟩
  ·refine aL (aC (aE (aA (aP rfl rfl (wq (dA lW Tryz.underlying237 rfl) rfl (aK 14 (.int .u64 ((dx.natAbs : Nat) : Int)) (iE (by rw [gB]; omega)) (aP rfl rfl (wq (dA lW Tryz.underlying237 rfl) rfl ?_))))))))
   refine aK 16 (.int .u64 ((dx.natAbs : Nat) : Int)) (iE (by rw [gB]; omega)) (wq (bZ (.int _ _) rfl rfl rfl) rfl (aK 17 (.int .u64 ((dx.natAbs * dx.natAbs : Nat) : Int)) (iE (lA _ _ (by omega))) (aP rfl rfl (wq (dA lW Tryz.underlying237 rfl) rfl (aK 19 (.int .u64 ((dy.natAbs : Nat) : Int)) (iE (by rw [gB]; omega)) ?_)))))
   refine aP rfl rfl (wq (dA lW Tryz.underlying237 rfl) rfl (aK 21 (.int .u64 ((dy.natAbs : Nat) : Int)) (iE (by rw [gB]; omega)) (wq (bZ (.int _ _) rfl rfl rfl) rfl (aK 22 (.int .u64 ((dy.natAbs * dy.natAbs : Nat) : Int)) (iE (lA _ _ (by omega))) (wq (bZ (.int _ _) rfl rfl rfl) rfl ?_)))))
   refine aK 23 (.int .u64 ((pP dx dy : Nat) : Int)) (iE (by rw [gB]; unfold pP at *; omega)) (bI rfl rfl (aB (aC (aO (cD (.int _ _) rfl ?_)))))
   exact ⟨rfl, M0.below⟩
 ·refine aL (aC (aE (aE (aA (aP rfl rfl (cZ rfl rfl rfl rfl (aB (aC ?_))))))))
  refine aW rfl (fun h10 => ?_) (fun h10 => ?_)
  ·refine aA (aP rfl rfl (wq (qQ rfl) rfl (aK 12 (.int .i64 (-dy)) (iE (fH _ (by omega) (by omega))) (bI rfl rfl (aB (aC (aE (aA ?_))))))))
   refine aP rfl rfl (wq (dA lW Tryz.underlying237 rfl) rfl (aK 14 (.int .u64 ((dx.natAbs : Nat) : Int)) (iE (by rw [gB]; omega)) (aP rfl rfl (wq (dA lW Tryz.underlying237 rfl) rfl (aK 16 (.int .u64 ((dx.natAbs : Nat) : Int)) (iE (by rw [gB]; omega)) ?_)))))
   refine wq (bZ (.int _ _) rfl rfl rfl) rfl (aK 17 (.int .u64 ((dx.natAbs * dx.natAbs : Nat) : Int)) (iE (lA _ _ (by omega))) (aP rfl rfl (wq (dA lW Tryz.underlying237 rfl) rfl (aK 19 (.int .u64 ((dy.natAbs : Nat) : Int)) (iE (by rw [gB]; omega)) (aP rfl rfl ?_)))))
   refine wq (dA lW Tryz.underlying237 rfl) rfl (aK 21 (.int .u64 ((dy.natAbs : Nat) : Int)) (iE (by rw [gB]; omega)) (wq (bZ (.int _ _) rfl rfl rfl) rfl (aK 22 (.int .u64 ((dy.natAbs * dy.natAbs : Nat) : Int)) (iE (lA _ _ (by omega))) (wq (bZ (.int _ _) rfl rfl rfl) rfl (aK 23 (.int .u64 ((pP dx dy : Nat) : Int)) (iE (by rw [gB]; unfold pP at *; omega)) ?_)))))
   refine bI rfl rfl (aB (aC (aO (cD (.int _ _) rfl ?_))))
   exact ⟨rfl, M0.below⟩
  ·refine aL (aC (aE (aA (aP rfl rfl (wq (dA lW Tryz.underlying237 rfl) rfl (aK 14 (.int .u64 ((dx.natAbs : Nat) : Int)) (iE (by rw [gB]; omega)) (aP rfl rfl (wq (dA lW Tryz.underlying237 rfl) rfl ?_))))))))
   refine aK 16 (.int .u64 ((dx.natAbs : Nat) : Int)) (iE (by rw [gB]; omega)) (wq (bZ (.int _ _) rfl rfl rfl) rfl (aK 17 (.int .u64 ((dx.natAbs * dx.natAbs : Nat) : Int)) (iE (lA _ _ (by omega))) (aP rfl rfl (wq (dA lW Tryz.underlying237 rfl) rfl (aK 19 (.int .u64 ((dy.natAbs : Nat) : Int)) (iE (by rw [gB]; omega)) ?_)))))
   refine aP rfl rfl (wq (dA lW Tryz.underlying237 rfl) rfl (aK 21 (.int .u64 ((dy.natAbs : Nat) : Int)) (iE (by rw [gB]; omega)) (wq (bZ (.int _ _) rfl rfl rfl) rfl (aK 22 (.int .u64 ((dy.natAbs * dy.natAbs : Nat) : Int)) (iE (lA _ _ (by omega))) (wq (bZ (.int _ _) rfl rfl rfl) rfl ?_)))))
   refine aK 23 (.int .u64 ((pP dx dy : Nat) : Int)) (iE (by rw [gB]; unfold pP at *; omega)) (bI rfl rfl (aB (aC (aO (cD (.int _ _) rfl ?_)))))
   exact ⟨rfl, M0.below⟩
set_option maxHeartbeats 4000000 in
theorem rP (w : World) (dx dy : Int) (hx : vI dx) (hy : vI dy) :
  Calls Tryz.prog 177 #[.int .i64 dx, .int .i64 dy] w (fun ex w' => ∃ v, ex = .returned v ∧ (fun v w' => v = .int .i64 (len dx dy) ∧ Below w.heap.size w w') v w') := by
 have hl := vV hx hy
 refine aI #[.tmp 4] 10 Tryz.func177 rfl Tryz.results177 Tryz.ntmps177 rfl ?_
 have M0 := Mem.refl w
 refine aE (aA (bI rfl rfl (aB (aC (aE (aA (aP rfl rfl (aP rfl rfl (bY aZu rfl rfl (sX _ dx dy hx hy) ?_)))))))))
 rintro v1 w1 ⟨rfl, hb1⟩
 have M1 := M0.callB hb1
 refine bY bNb rfl rfl (aMl _ (pP dx dy) (rL hx hy).1) ?_
 rintro v2 w2 ⟨rfl, hb2⟩
 have M2 := M1.callB hb2
 refine wq (dA vF Tryz.underlying2 rfl) rfl (aK 9 (.int .i64 (len dx dy)) (iE (fH (len dx dy) (by omega) (by omega))) (bI rfl rfl (aB (aC (aO (cD (.int _ _) rfl ?_))))))
 exact ⟨rfl, M2.below⟩
set_option maxHeartbeats 4000000 in
theorem aOx (w : World) (dx dy : Int) (hx : vI dx) (hy : vI dy) :
  Calls Tryz.prog 176 #[.int .i64 dx, .int .i64 dy] w (fun ex w' => ∃ v, ex = .returned v ∧ (fun v w' => v = (.agg (cI (mI dx dy)).toArray) ∧ Below w.heap.size w w') v w') := by
 have hl := vV hx hy
 have hxx := hx
 have hyy := hy
 unfold vI at hxx hyy
 have hl0 := aYx dx dy
 refine aI #[.cell 4 37] 27 Tryz.func176 rfl Tryz.results176 Tryz.ntmps176 rfl ?_
 have M0 := Mem.refl w
 refine aE (aA (aS iD M0 rfl rfl (fun b1 w1 M1 => (aB (aC (aE (aE (aA (aP rfl rfl (cZ rfl rfl rfl rfl (wq (aH (.bool (decide _)) rfl) rfl ?_)))))))))))
 refine dM 8 rfl (fun g8 => ?_) (fun g8 => ?_)
 ·refine aP rfl rfl (cZ rfl rfl rfl rfl (wq (bR true (.bool (decide _)) rfl rfl) rfl (aB (aC ?_))))
  refine aW rfl (fun h11 => ?_) (fun h11 => ?_)
  ·refine aE (aA (wq (cC [(0, .int _ _)] _ eK rfl rfl) rfl (bG 0 _ bL M1 rfl rfl rfl rfl rfl (aR rfl) rfl (fun w2 M2 => (aB (aC (aO (cM (eL 0 bL M2 rfl rfl rfl ?_)))))))))
   exact ⟨by unfold mI; first | (rw [if_pos (by omega)]; rfl) | (rw [if_neg (by omega)]; rfl), M2.below⟩
  ·refine aL (aC (aE (aA (aP rfl rfl (aP rfl rfl (bY aPm rfl rfl (rP _ dx dy hx hy) ?_))))))
   rintro v3 w3 ⟨rfl, hb3⟩
   have M3 := M1.callB hb3
   refine bI rfl rfl (aB (aC (aE (aA (aP rfl rfl (wq (fB rfl rfl (by omega) (by omega)) rfl (aP rfl rfl (bY kW rfl rfl (fA _ (dx * 65536) (len dx dy) (by omega) (by omega) (by omega)) ?_))))))))
   rintro v4 w4 ⟨rfl, hb4⟩
   have M4 := M3.callB hb4
   refine wq (dA lW Tryz.underlying21 rfl) rfl (aP rfl rfl (wq (fB rfl rfl (by omega) (by omega)) rfl (aP rfl rfl (bY kW rfl rfl (fA _ (dy * 65536) (len dx dy) (by omega) (by omega) (by omega)) ?_))))
   rintro v5 w5 ⟨rfl, hb5⟩
   have M5 := M4.callB hb5
   refine wq (dA lW Tryz.underlying21 rfl) rfl (wq (cC [(0, .int _ _), (1, .int _ _)] _ eK rfl rfl) rfl (bG 0 _ bL M5 rfl rfl rfl rfl rfl (aR rfl) rfl (fun w6 M6 => (aB (aC (aO (eL 0 bL M6 rfl rfl rfl ?_)))))))
   exact ⟨by unfold mI; first | (rw [if_pos (by omega)]; rfl) | (rw [if_neg (by omega)]; rfl), M6.below⟩
 ·refine aN rfl rfl (aN rfl rfl (wq (bR false (.bool false) rfl rfl) rfl (aB (aC (cJ rfl (aL (aC (aE (aA ?_)))))))))
  refine aP rfl rfl (aP rfl rfl (bY aPm rfl rfl (rP _ dx dy hx hy) ?_))
  rintro v7 w7 ⟨rfl, hb7⟩
  have M7 := M1.callB hb7
  refine bI rfl rfl (aB (aC (aE (aA (aP rfl rfl (wq (fB rfl rfl (by omega) (by omega)) rfl (aP rfl rfl (bY kW rfl rfl (fA _ (dx * 65536) (len dx dy) (by omega) (by omega) (by omega)) ?_))))))))
  rintro v8 w8 ⟨rfl, hb8⟩
  have M8 := M7.callB hb8
  refine wq (dA lW Tryz.underlying21 rfl) rfl (aP rfl rfl (wq (fB rfl rfl (by omega) (by omega)) rfl (aP rfl rfl (bY kW rfl rfl (fA _ (dy * 65536) (len dx dy) (by omega) (by omega) (by omega)) ?_))))
  rintro v9 w9 ⟨rfl, hb9⟩
  have M9 := M8.callB hb9
  refine wq (dA lW Tryz.underlying21 rfl) rfl (wq (cC [(0, .int _ _), (1, .int _ _)] _ eK rfl rfl) rfl (bG 0 _ bL M9 rfl rfl rfl rfl rfl (aR rfl) rfl (fun w10 M10 => (aB (aC (aO (eL 0 bL M10 rfl rfl rfl ?_)))))))
  exact ⟨by unfold mI; first | (rw [if_pos (by omega)]; rfl) | (rw [if_neg (by omega)]; rfl), M10.below⟩
set_option maxHeartbeats 4000000 in
theorem zY (w : World) (b : Body) (hb : Okb b) :
  Calls Tryz.prog 197 #[(.agg (aF b).toArray)] w (fun ex w' => ∃ v, ex = .returned v ∧ (fun v w' => v = (.agg (cI (yY b)).toArray) ∧ Below w.heap.size w w') v w') := by
 have ha := hb.a
 have hp := hb.p
 refine aI #[.cell 2 37] 18 Tryz.func197 rfl Tryz.results197 Tryz.ntmps197 rfl ?_
 have M0 := Mem.refl w
 refine aE (aA (bK (.agg (List.toArray _)) M0 rfl rfl rfl (fun b1 w1 M1 => (aS iD M1 rfl rfl (fun b2 w2 M2 => (aB (aC (aE (aA (wq (aD 6 fI rfl) rfl (wq (aD 0 cR rfl) rfl ?_)))))))))))
 refine wq (aM 0 (.int _ _) aT M2 rfl rfl rfl) rfl (wq (aD 2 iP rfl) rfl (wq (aD 0 cR rfl) rfl (wq (aM 0 (.int _ _) aT M2 rfl rfl rfl) rfl (wq (mV rfl rfl (iW _ (by omega) (by omega))) rfl (wq (aD 6 fI rfl) rfl ?_)))))
 refine wq (aD 1 cO rfl) rfl (wq (aM 0 (.int _ _) aT M2 rfl rfl rfl) rfl (wq (aD 2 iP rfl) rfl (wq (aD 1 cO rfl) rfl (wq (aM 0 (.int _ _) aT M2 rfl rfl rfl) rfl (wq (mV rfl rfl (iW _ (by omega) (by omega))) rfl ?_)))))
 refine wq (cC [(0, .int _ _), (1, .int _ _)] _ eK rfl rfl) rfl (bG 1 _ bL M2 rfl rfl rfl rfl rfl (aR rfl) rfl (fun w3 M3 => (aB (aC (aO (eL 1 bL M3 rfl rfl rfl ?_))))))
 exact ⟨rfl, M3.below⟩
set_option maxHeartbeats 4000000 in
theorem yC (w : World) (b : Body) (hb : Okb b) :
  Calls Tryz.prog 198 #[(.agg (aF b).toArray)] w (fun ex w' => ∃ v, ex = .returned v ∧ (fun v w' => v = (.agg (cI (yV b)).toArray) ∧ Below w.heap.size w w') v w') := by
 have ha := hb.a
 have hp := hb.p
 refine aI #[.cell 2 37] 18 Tryz.func198 rfl Tryz.results198 Tryz.ntmps198 rfl ?_
 have M0 := Mem.refl w
 refine aE (aA (bK (.agg (List.toArray _)) M0 rfl rfl rfl (fun b1 w1 M1 => (aS iD M1 rfl rfl (fun b2 w2 M2 => (aB (aC (aE (aA (wq (aD 6 fI rfl) rfl (wq (aD 0 cR rfl) rfl ?_)))))))))))
 refine wq (aM 0 (.int _ _) aT M2 rfl rfl rfl) rfl (wq (aD 2 iP rfl) rfl (wq (aD 0 cR rfl) rfl (wq (aM 0 (.int _ _) aT M2 rfl rfl rfl) rfl (wq (iU rfl rfl (iW _ (by omega) (by omega))) rfl (wq (aD 6 fI rfl) rfl ?_)))))
 refine wq (aD 1 cO rfl) rfl (wq (aM 0 (.int _ _) aT M2 rfl rfl rfl) rfl (wq (aD 2 iP rfl) rfl (wq (aD 1 cO rfl) rfl (wq (aM 0 (.int _ _) aT M2 rfl rfl rfl) rfl (wq (iU rfl rfl (iW _ (by omega) (by omega))) rfl ?_)))))
 refine wq (cC [(0, .int _ _), (1, .int _ _)] _ eK rfl rfl) rfl (bG 1 _ bL M2 rfl rfl rfl rfl rfl (aR rfl) rfl (fun w3 M3 => (aB (aC (aO (eL 1 bL M3 rfl rfl rfl ?_))))))
 exact ⟨rfl, M3.below⟩
set_option maxHeartbeats 4000000 in
theorem aXw (w : World) (b : Body) (hb : Okb b) :
  Calls Tryz.prog 258 #[(.agg (aF b).toArray)] w (fun ex w' => ∃ v, ex = .returned v ∧ (fun v w' => v = .tuple #[(.agg (cI (yY b)).toArray), (.agg (cI (yV b)).toArray)] ∧ Below w.heap.size w w') v w') := by
 have ha := hb.a
 have hp := hb.p
 refine aI #[.cell 2 37, .cell 3 37] 36 Tryz.func258 rfl Tryz.results258 Tryz.ntmps258 rfl ?_
 have M0 := Mem.refl w
 refine aE (aA (bK (.agg (List.toArray _)) M0 rfl rfl rfl (fun b1 w1 M1 => (aS iD M1 rfl rfl (fun b2 w2 M2 => (aS iD M2 rfl rfl (fun b3 w3 M3 => (aB (aC (aE (aA (wq (aD 6 fI rfl) rfl ?_))))))))))))
 refine wq (aD 0 cR rfl) rfl (wq (aM 0 (.int _ _) aT M3 rfl rfl rfl) rfl (wq (aD 2 iP rfl) rfl (wq (aD 0 cR rfl) rfl (wq (aM 0 (.int _ _) aT M3 rfl rfl rfl) rfl (wq (mV rfl rfl (iW _ (by omega) (by omega))) rfl ?_)))))
 refine wq (aD 6 fI rfl) rfl (wq (aD 1 cO rfl) rfl (wq (aM 0 (.int _ _) aT M3 rfl rfl rfl) rfl (wq (aD 2 iP rfl) rfl (wq (aD 1 cO rfl) rfl (wq (aM 0 (.int _ _) aT M3 rfl rfl rfl) rfl ?_)))))
 refine wq (mV rfl rfl (iW _ (by omega) (by omega))) rfl (wq (cC [(0, .int _ _), (1, .int _ _)] _ eK rfl rfl) rfl (bG 1 _ bL M3 rfl rfl rfl rfl rfl (aR rfl) rfl (fun w4 M4 => (aB (aC (aE (aA (wq (aD 6 fI rfl) rfl (wq (aD 0 cR rfl) rfl ?_)))))))))
 refine wq (aM 0 (.int _ _) aT M4 rfl rfl rfl) rfl (wq (aD 2 iP rfl) rfl (wq (aD 0 cR rfl) rfl (wq (aM 0 (.int _ _) aT M4 rfl rfl rfl) rfl (wq (iU rfl rfl (iW _ (by omega) (by omega))) rfl (wq (aD 6 fI rfl) rfl ?_)))))
 refine wq (aD 1 cO rfl) rfl (wq (aM 0 (.int _ _) aT M4 rfl rfl rfl) rfl (wq (aD 2 iP rfl) rfl (wq (aD 1 cO rfl) rfl (wq (aM 0 (.int _ _) aT M4 rfl rfl rfl) rfl (wq (iU rfl rfl (iW _ (by omega) (by omega))) rfl ?_)))))
 refine wq (cC [(0, .int _ _), (1, .int _ _)] _ eK rfl rfl) rfl (bG 2 _ bL M4 rfl rfl rfl rfl rfl (aR rfl) rfl (fun w5 M5 => (aB (aC (aE (bQ [(0, 1), (1, 1), (2, 2), (3, 2)] mixed rfl (by kernel_rfl) (fun w6 hb6 hh6 => ?_)))))))
 have M6 := M5.drew hb6 hh6
 refine bS rfl rfl rfl (aX 1 bL M6 rfl rfl rfl) (bS rfl rfl rfl (aX 2 bL M6 rfl rfl rfl) (dT [false, true] rfl (by kernel_rfl) (bG 1 _ bL M6 rfl rfl rfl rfl rfl (aR rfl) rfl (fun w7 M7 => ?_))))
 refine aB (aC ⟨(dZ (bM rfl (aX 2 bL M7 rfl rfl rfl)) dU), ?_⟩)
 refine dT [true] rfl (by kernel_rfl) (bG 2 _ bL M7 rfl rfl rfl rfl rfl (aR rfl) rfl (fun w8 M8 => ?_))
 refine aB (aC ⟨dU, ?_⟩)
 refine bX (aC (aO (aTx 1 2 bL M8 rfl rfl rfl rfl rfl rfl ?_)))
 exact ⟨rfl, M8.below⟩
set_option maxHeartbeats 4000000 in
theorem aLp (w : World) (p q c : Pt) (h : SgI p q) (hc : PtI c) :
  Calls Tryz.prog 282 #[(.agg (cI p).toArray), (.agg (cI q).toArray), (.agg (cI c).toArray)] w (fun ex w' => ∃ v, ex = .returned v ∧ (fun v w' => v = .tuple #[.int .i64 (pA p q c), .int .i64 (mF p q)] ∧ Below w.heap.size w w') v w') := by
 have hD := nK h
 have hx := aHj h hc
 refine aI #[.tmp 6, .tmp 7] 42 Tryz.func282 rfl Tryz.results282 Tryz.ntmps282 rfl ?_
 have M0 := Mem.refl w
 refine aE (aA (bK (.agg (List.toArray _)) M0 rfl rfl rfl (fun b1 w1 M1 => (bK (.agg (List.toArray _)) M1 rfl rfl rfl (fun b2 w2 M2 => (bK (.agg (List.toArray _)) M2 rfl rfl rfl (fun b3 w3 M3 => (bI rfl rfl (bI rfl rfl ?_)))))))))
 refine aB (aC (aE (aA (wq (aX 0 bL M3 rfl rfl rfl) rfl (wq (aX 1 bL M3 rfl rfl rfl) rfl (bY aFh rfl rfl (sU _ p q h.hp.i32 h.hq.i32) ?_))))))
 rintro v4 w4 ⟨rfl, hb4⟩
 have M4 := M3.callB hb4
 refine wq (aH (.tuple (List.toArray _)) rfl) rfl (wq (bN (.int _ _) rfl rfl) rfl (wq (bN (.int _ _) rfl rfl) rfl (bI rfl rfl (bI rfl rfl (aB (aC (aE (aA ?_))))))))
 refine wq (aX 0 bL M4 rfl rfl rfl) rfl (wq (aX 2 bL M4 rfl rfl rfl) rfl (bY aFh rfl rfl (sU _ p c h.hp.i32 hc.i32) ?_))
 rintro v5 w5 ⟨rfl, hb5⟩
 have M5 := M4.callB hb5
 refine wq (aH (.tuple (List.toArray _)) rfl) rfl (wq (bN (.int _ _) rfl rfl) rfl (wq (bN (.int _ _) rfl rfl) rfl (bI rfl rfl (bI rfl rfl (aB (aC (aE (aA ?_))))))))
 refine aP rfl rfl (aP rfl rfl (wq (fB rfl rfl (by omega) (by omega)) rfl (aP rfl rfl (aP rfl rfl (wq (fB rfl rfl (by omega) (by omega)) rfl ?_)))))
 refine wq (aY rfl rfl (by omega) (by omega)) rfl (aK 30 (.int .i64 (mF p q)) rfl (bI rfl rfl (aB (aC (aE (aA (aP rfl rfl (aP rfl rfl ?_))))))))
 refine wq (fB rfl rfl (by omega) (by omega)) rfl (aP rfl rfl (aP rfl rfl (wq (fB rfl rfl (by omega) (by omega)) rfl (wq (aY rfl rfl (by omega) (by omega)) rfl (aP rfl rfl ?_)))))
 refine wq (aDv rfl rfl ) rfl (wq (qB rfl rfl ) rfl (aP rfl rfl (bI rfl rfl (bI rfl rfl (aB (aC (aO ?_)))))))
 refine gA (.int _ _) (.int _ _) rfl rfl ?_
 exact ⟨rfl, M5.below⟩
set_option maxHeartbeats 4000000 in
theorem aHd (w : World) (f a n d : Int) (bn bd : Nat) (ha : -16777216 ≤ a ∧ a ≤ 16777216) (hn : 0 ≤ n) (hnd : n ≤ d) (hd0 : 0 < d) (hd : d ≤ 562949953421312) (h1 : -16777216 ≤ a * n / d ∧ a * n / d ≤ 16777216) (h2 : -1082130432 ≤ f + a * n / d ∧ f + a * n / d ≤ 1082130432) (K1 : Rd w 1 (some ⟨bn, 0, none⟩) 1 [[.int .i64 n]]) (K2 : Rd w 1 (some ⟨bd, 0, none⟩) 1 [[.int .i64 d]]) :
  Calls Tryz.prog 283 #[.int .i32 f, .int .i64 a, .pointer (some ⟨bn, 0, none⟩), .pointer (some ⟨bd, 0, none⟩)] w (fun ex w' => ∃ v, ex = .returned v ∧ (fun v w' => v = .int .i32 (f + a * n / d) ∧ Below w.heap.size w w') v w') := by
 rw [← gM bn, ← gM bd]
 refine aI #[.tmp 6] 20 Tryz.func283 rfl Tryz.results283 Tryz.ntmps283 rfl ?_
 have M0 := Mem.refl w
 refine aE (aA (bI rfl rfl (aB (aC (aE (aA (aP rfl rfl (wq (dY (o := 0) (.int _ _) iX (K1.mem M0) (show ([[.int .i64 n]] : List (List Value))[0]? = some [.int .i64 n] from rfl) rfl rfl) rfl (wq (dY (o := 0) (.int _ _) iX (K2.mem M0) (show ([[.int .i64 d]] : List (List Value))[0]? = some [.int .i64 d] from rfl) rfl rfl) rfl ?_)))))))))
 refine bY aJo rfl rfl (bPa _ a n d (by omega) hn hnd hd0 (by omega)) ?_
 rintro v1 w1 ⟨rfl, hb1⟩
 have M1 := M0.callB hb1
 refine wq (aH (.tuple (List.toArray _)) rfl) rfl (wq (bN (.int _ _) rfl rfl) rfl (wq (bN (.int _ _) rfl rfl) rfl (bI rfl rfl (bI rfl rfl (aB (aC (aE (aA ?_))))))))
 refine aP rfl rfl (aP rfl rfl (wq (aZ lW Tryz.underlying21 rfl (iW _ (by omega) (by omega))) rfl (wq (iU rfl rfl (iW _ (by omega) (by omega))) rfl (bI rfl rfl (aB (aC (aO ?_)))))))
 refine cD (.int _ _) rfl ?_
 exact ⟨rfl, M1.below⟩
set_option maxHeartbeats 4000000 in
theorem nE (w : World) (p q c : Pt) (h : SgI p q) (hc : PtI c) :
  Calls Tryz.prog 277 #[(.agg (cI p).toArray), (.agg (cI q).toArray), (.agg (cI c).toArray)] w (fun ex w' => ∃ v, ex = .returned v ∧ (fun v w' => v = (.agg (cI (cB p q c)).toArray) ∧ Below w.heap.size w w') v w') := by
 have hD := nK h
 have hn := xA (c := c) h
 have hx := h.x
 have hy := h.y
 refine aI #[.cell 6 37] 40 Tryz.func277 rfl Tryz.results277 Tryz.ntmps277 rfl ?_
 have M0 := Mem.refl w
 refine aE (aA (bK (.agg (List.toArray _)) M0 rfl rfl rfl (fun b1 w1 M1 => (bK (.agg (List.toArray _)) M1 rfl rfl rfl (fun b2 w2 M2 => (bK (.agg (List.toArray _)) M2 rfl rfl rfl (fun b3 w3 M3 => (aS iD M3 rfl rfl (fun b4 w4 M4 => (aB (aC (aE (aA ?_)))))))))))))
 refine wq (aX 0 bL M4 rfl rfl rfl) rfl (wq (aX 1 bL M4 rfl rfl rfl) rfl (wq (aX 2 bL M4 rfl rfl rfl) rfl (bY bMh rfl rfl (aLp _ p q c h hc) ?_)))
 rintro v5 w5 ⟨rfl, hb5⟩
 have M5 := M4.callB hb5
 refine wq (aH (.tuple (List.toArray _)) rfl) rfl (wq (bN (.int _ _) rfl rfl) rfl (wq (bN (.int _ _) rfl rfl) rfl (aS aDl M5 rfl rfl (fun b6 w6 M6 => (aS aDl M6 rfl rfl (fun b7 w7 M7 => (dD 4 (.int _ _) iX M7 rfl rfl rfl rfl rfl rfl (fun w8 M8 => ?_))))))))
 refine dD 5 (.int _ _) iX M8 rfl rfl rfl rfl rfl rfl (fun w9 M9 => (aB (aC (aE (aE (aA (wq (aM 5 (.int _ _) iX M9 rfl rfl rfl) rfl (cZ rfl rfl rfl rfl (aB (aC ?_))))))))))
 refine aW rfl (fun h20 => ?_) (fun h20 => ?_)
 ·refine aE (aA (wq (aX 0 bL M9 rfl rfl rfl) rfl (bG 3 _ bL M9 rfl rfl rfl rfl rfl (aR rfl) rfl (fun w10 M10 => (aB (aC (aO (cM (eL 3 bL M10 rfl rfl rfl ?_)))))))))
  exact ⟨by unfold cB; first | (rw [if_pos h20]; rfl) | (rw [if_neg h20]; rfl), M10.below⟩
 ·have hnr := aEg (c := c) h h20
  refine aL (aC (aE (aA (wq (dR [] [.pointer _, .pointer _] rfl rfl) rfl (wq (aJ (.func _ _ _) rfl) rfl (aB (aC (aE (aA (wq (aX 0 bL M9 rfl rfl rfl) rfl (wq (aX 1 bL M9 rfl rfl rfl) rfl ?_)))))))))))
  refine bY aFh rfl rfl (sU _ p q h.hp.i32 h.hq.i32) ?_
  rintro v11 w11 ⟨rfl, hb11⟩
  have M11 := M9.callB hb11
  refine wq (aH (.tuple (List.toArray _)) rfl) rfl (wq (bN (.int _ _) rfl rfl) rfl (wq (bN (.int _ _) rfl rfl) rfl (bI rfl rfl (bI rfl rfl (aB (aC (aE ?_)))))))
  refine bQ [(0, 0), (1, 0), (2, 1), (3, 0), (5, 0), (6, 0), (7, 1), (8, 0), (4, 2), (9, 2), (10, 0), (11, 2)] mixed rfl (by kernel_rfl) (fun w12 hb12 hh12 => ?_)
  have M12 := M11.drew hb12 hh12
  refine aV rfl rfl rfl (fun _ => aH (.func _ _ _) rfl) (aV rfl rfl rfl (fun _ => aD 0 cR rfl) (bS rfl rfl rfl (aM 0 (.int _ _) aT M12 rfl rfl rfl) (eF rfl rfl rfl (aV rfl rfl rfl (fun _ => aH (.func _ _ _) rfl) (aV rfl rfl rfl (fun _ => aD 1 cO rfl) ?_)))))
  refine bS rfl rfl rfl (aM 0 (.int _ _) aT M12 rfl rfl rfl) (eF rfl rfl rfl (dT [false, true] rfl (by kernel_rfl) (bY aZg rfl rfl (aHd _ p.1 (q.1 - p.1) (pA p q c) (mF p q) b6 b7 (by omega) hn.1 hn.2 (by omega) (by omega) hnr.1.1 hnr.1.2 (pF 4 M12 rfl rfl) (pF 5 M12 rfl rfl)) ?_)))
  rintro v13 w13 ⟨rfl, hb13⟩
  have M13 := M12.callB hb13
  refine aB (aC ⟨(dZ (bM rfl (aM 0 (.int _ _) aT M13 rfl rfl rfl)) dU), ?_⟩)
  refine dT [true] rfl (by kernel_rfl) (bY aZg rfl rfl (aHd _ p.2 (q.2 - p.2) (pA p q c) (mF p q) b6 b7 (by omega) hn.1 hn.2 (by omega) (by omega) hnr.2.1 hnr.2.2 (pF 4 M13 rfl rfl) (pF 5 M13 rfl rfl)) ?_)
  rintro v14 w14 ⟨rfl, hb14⟩
  have M14 := M13.callB hb14
  refine aB (aC ⟨dU, ?_⟩)
  refine aV rfl rfl rfl (fun _ => cC [(0, .int _ _), (1, .int _ _)] _ eK rfl rfl) (dT [] rfl (by kernel_rfl) (bG 3 _ bL M14 rfl rfl rfl rfl rfl (aR rfl) rfl (fun w15 M15 => ?_)))
  refine aB (aC ⟨dU, ?_⟩)
  refine bX (aC (aO (eL 3 bL M15 rfl rfl rfl ?_)))
  exact ⟨by unfold cB; first | (rw [if_pos h20]; rfl) | (rw [if_neg h20]; rfl), M15.below⟩
set_option maxHeartbeats 4000000 in
theorem yD (w : World) (p q : Pt) (h : SgI p q) :
  Calls Tryz.prog 247 #[(.agg (cI p).toArray), (.agg (cI q).toArray)] w (fun ex w' => ∃ v, ex = .returned v ∧ (fun v w' => v = .int .i64 (mF p q) ∧ Below w.heap.size w w') v w') := by
 have hD := nK h
 have hp := h.hp.i32
 have hq := h.hq.i32
 have hpx := hp.x
 have hpy := hp.y
 have hqx := hq.x
 have hqy := hq.y
 refine aI #[.tmp 4] 28 Tryz.func247 rfl Tryz.results247 Tryz.ntmps247 rfl ?_
 have M0 := Mem.refl w
 refine aE (aA (bK (.agg (List.toArray _)) M0 rfl rfl rfl (fun b1 w1 M1 => (bK (.agg (List.toArray _)) M1 rfl rfl rfl (fun b2 w2 M2 => (bI rfl rfl (aB (aC (aE (aA (wq (aD 0 cR rfl) rfl ?_)))))))))))
 refine wq (aM 1 (.int _ _) aT M2 rfl rfl rfl) rfl (wq (aZ dQ Tryz.underlying2 rfl (fH _ (by omega) (by omega))) rfl (wq (aD 0 cR rfl) rfl (wq (aM 0 (.int _ _) aT M2 rfl rfl rfl) rfl (wq (aZ dQ Tryz.underlying2 rfl (fH _ (by omega) (by omega))) rfl (wq (fU rfl rfl (by omega) (by omega)) rfl ?_)))))
 refine bI rfl rfl (aB (aC (aE (aA (wq (aD 1 cO rfl) rfl (wq (aM 1 (.int _ _) aT M2 rfl rfl rfl) rfl (wq (aZ dQ Tryz.underlying2 rfl (fH _ (by omega) (by omega))) rfl (wq (aD 1 cO rfl) rfl ?_))))))))
 refine wq (aM 0 (.int _ _) aT M2 rfl rfl rfl) rfl (wq (aZ dQ Tryz.underlying2 rfl (fH _ (by omega) (by omega))) rfl (wq (fU rfl rfl (by omega) (by omega)) rfl (bI rfl rfl (aB (aC (aE (aA (aP rfl rfl ?_))))))))
 refine aP rfl rfl (wq (fB rfl rfl (by omega) (by omega)) rfl (aP rfl rfl (aP rfl rfl (wq (fB rfl rfl (by omega) (by omega)) rfl (wq (aY rfl rfl (by omega) (by omega)) rfl ?_)))))
 refine bI rfl rfl (aB (aC (aO (cD (.int _ _) rfl ?_))))
 exact ⟨rfl, M2.below⟩
set_option maxHeartbeats 4000000 in
theorem aNs (w : World) (n lo hi : Int) (h : lo ≤ hi) :
  Calls Tryz.prog 264 #[.int .i64 n, .int .i64 lo, .int .i64 hi] w (fun ex w' => ∃ v, ex = .returned v ∧ (fun v w' => v = .int .i64 (max lo (min n hi)) ∧ Below w.heap.size w w') v w') := by
 refine aI #[.tmp 6] 16 Tryz.func264 rfl Tryz.results264 Tryz.ntmps264 rfl ?_
 have M0 := Mem.refl w
 refine aE (aA (bI rfl rfl (aB (aC (aE (aE (aA (aP rfl rfl (aP rfl rfl (cZ rfl rfl rfl rfl ?_))))))))))
 refine aB (aC ?_)
 refine aW rfl (fun h9 => ?_) (fun h9 => ?_)
 ·refine aE (aA (aP rfl rfl (bI rfl rfl (aB (aC (aO (cM (cD (.int _ _) rfl ?_))))))))
  exact ⟨iE (by omega), M0.below⟩
 ·refine aL (aC (aE (aE (aA (aP rfl rfl (aP rfl rfl (cZ rfl rfl rfl rfl (aB (aC ?_)))))))))
  refine aW rfl (fun h13 => ?_) (fun h13 => ?_)
  ·refine aE (aA (aP rfl rfl (bI rfl rfl (aB (aC (aO (cM (cD (.int _ _) rfl ?_))))))))
   exact ⟨iE (by omega), M0.below⟩
  ·refine aL (aC (aE (aA (aP rfl rfl (bI rfl rfl (aB (aC (aO (cD (.int _ _) rfl ?_)))))))))
   exact ⟨iE (by omega), M0.below⟩
set_option maxHeartbeats 4000000 in
theorem aLn (w : World) (p q c : Pt) (h : SgI p q) (hc : PtI c) :
  Calls Tryz.prog 248 #[(.agg (cI p).toArray), (.agg (cI q).toArray), (.agg (cI c).toArray)] w (fun ex w' => ∃ v, ex = .returned v ∧ (fun v w' => v = .int .i64 (pA p q c) ∧ Below w.heap.size w w') v w') := by
 have hD := nK h
 have hx := aHj h hc
 have hp := h.hp.i32
 have hq := h.hq.i32
 have hci := hc.i32
 have hpx := hp.x
 have hpy := hp.y
 have hqx := hq.x
 have hqy := hq.y
 have hcx := hci.x
 have hcy := hci.y
 refine aI #[.tmp 6] 48 Tryz.func248 rfl Tryz.results248 Tryz.ntmps248 rfl ?_
 have M0 := Mem.refl w
 refine aE (aA (bK (.agg (List.toArray _)) M0 rfl rfl rfl (fun b1 w1 M1 => (bK (.agg (List.toArray _)) M1 rfl rfl rfl (fun b2 w2 M2 => (bK (.agg (List.toArray _)) M2 rfl rfl rfl (fun b3 w3 M3 => (bI rfl rfl (aB (aC (aE (aA ?_))))))))))))
 refine wq (aD 0 cR rfl) rfl (wq (aM 1 (.int _ _) aT M3 rfl rfl rfl) rfl (wq (aZ dQ Tryz.underlying2 rfl (fH _ (by omega) (by omega))) rfl (wq (aD 0 cR rfl) rfl (wq (aM 0 (.int _ _) aT M3 rfl rfl rfl) rfl (wq (aZ dQ Tryz.underlying2 rfl (fH _ (by omega) (by omega))) rfl ?_)))))
 refine wq (fU rfl rfl (by omega) (by omega)) rfl (bI rfl rfl (aB (aC (aE (aA (wq (aD 1 cO rfl) rfl (wq (aM 1 (.int _ _) aT M3 rfl rfl rfl) rfl (wq (aZ dQ Tryz.underlying2 rfl (fH _ (by omega) (by omega))) rfl ?_))))))))
 refine wq (aD 1 cO rfl) rfl (wq (aM 0 (.int _ _) aT M3 rfl rfl rfl) rfl (wq (aZ dQ Tryz.underlying2 rfl (fH _ (by omega) (by omega))) rfl (wq (fU rfl rfl (by omega) (by omega)) rfl (bI rfl rfl (aB (aC (aE (aA ?_))))))))
 refine wq (aD 0 cR rfl) rfl (wq (aM 2 (.int _ _) aT M3 rfl rfl rfl) rfl (wq (aZ dQ Tryz.underlying2 rfl (fH _ (by omega) (by omega))) rfl (wq (aD 0 cR rfl) rfl (wq (aM 0 (.int _ _) aT M3 rfl rfl rfl) rfl (wq (aZ dQ Tryz.underlying2 rfl (fH _ (by omega) (by omega))) rfl ?_)))))
 refine wq (fU rfl rfl (by omega) (by omega)) rfl (aP rfl rfl (wq (fB rfl rfl (by omega) (by omega)) rfl (wq (aD 1 cO rfl) rfl (wq (aM 2 (.int _ _) aT M3 rfl rfl rfl) rfl (wq (aZ dQ Tryz.underlying2 rfl (fH _ (by omega) (by omega))) rfl ?_)))))
 refine wq (aD 1 cO rfl) rfl (wq (aM 0 (.int _ _) aT M3 rfl rfl rfl) rfl (wq (aZ dQ Tryz.underlying2 rfl (fH _ (by omega) (by omega))) rfl (wq (fU rfl rfl (by omega) (by omega)) rfl (aP rfl rfl (wq (fB rfl rfl (by omega) (by omega)) rfl ?_)))))
 refine wq (aY rfl rfl (by omega) (by omega)) rfl (bI rfl rfl (aB (aC (aE (aA (aP rfl rfl (wq (aX 0 bL M3 rfl rfl rfl) rfl (wq (aX 1 bL M3 rfl rfl rfl) rfl ?_))))))))
 refine bY bCq rfl rfl (yD _ p q h) ?_
 rintro v4 w4 ⟨rfl, hb4⟩
 have M4 := M3.callB hb4
 refine bY bOp rfl rfl (aNs _ ((c.1 - p.1) * (q.1 - p.1) + (c.2 - p.2) * (q.2 - p.2)) 0 (mF p q) (by omega)) ?_
 rintro v5 w5 ⟨rfl, hb5⟩
 have M5 := M4.callB hb5
 refine bI rfl rfl (aB (aC (aO (cD (.int _ _) rfl ?_))))
 exact ⟨rfl, M5.below⟩
set_option maxHeartbeats 4000000 in
theorem nB (w : World) (p q c : Pt) (h : SgI p q) (hc : PtI c) :
  Calls Tryz.prog 226 #[(.agg (cI p).toArray), (.agg (cI q).toArray), (.agg (cI c).toArray)] w (fun ex w' => ∃ v, ex = .returned v ∧ (fun v w' => v = (.agg (cI (cB p q c)).toArray) ∧ Below w.heap.size w w') v w') := by
 have hD := nK h
 have hn := xA (c := c) h
 have hx := h.x
 have hy := h.y
 have hp := h.hp.i32
 have hq := h.hq.i32
 have hpx := hp.x
 have hpy := hp.y
 have hqx := hq.x
 have hqy := hq.y
 refine aI #[.cell 6 37] 60 Tryz.func226 rfl Tryz.results226 Tryz.ntmps226 rfl ?_
 have M0 := Mem.refl w
 refine aE (aA (bK (.agg (List.toArray _)) M0 rfl rfl rfl (fun b1 w1 M1 => (bK (.agg (List.toArray _)) M1 rfl rfl rfl (fun b2 w2 M2 => (bK (.agg (List.toArray _)) M2 rfl rfl rfl (fun b3 w3 M3 => (aS iD M3 rfl rfl (fun b4 w4 M4 => (aB (aC (aE (aA ?_)))))))))))))
 refine wq (aX 0 bL M4 rfl rfl rfl) rfl (wq (aX 1 bL M4 rfl rfl rfl) rfl (bY bCq rfl rfl (yD _ p q h) ?_))
 rintro v5 w5 ⟨rfl, hb5⟩
 have M5 := M4.callB hb5
 refine bI rfl rfl (aB (aC (aE (aE (aA (aP rfl rfl (cZ rfl rfl rfl rfl (aB (aC ?_)))))))))
 refine aW rfl (fun h17 => ?_) (fun h17 => ?_)
 ·refine aE (aA (wq (aX 0 bL M5 rfl rfl rfl) rfl (bG 3 _ bL M5 rfl rfl rfl rfl rfl (aR rfl) rfl (fun w6 M6 => (aB (aC (aO (cM (eL 3 bL M6 rfl rfl rfl ?_)))))))))
  exact ⟨by unfold cB; first | (rw [if_pos h17]; rfl) | (rw [if_neg h17]; rfl), M6.below⟩
 ·have hnr := aEg (c := c) h h17
  refine aL (aC (aE (aA (wq (aX 0 bL M5 rfl rfl rfl) rfl (wq (aX 1 bL M5 rfl rfl rfl) rfl (wq (aX 2 bL M5 rfl rfl rfl) rfl (bY bLx rfl rfl (aLn _ p q c h hc) ?_)))))))
  rintro v7 w7 ⟨rfl, hb7⟩
  have M7 := M5.callB hb7
  refine bI rfl rfl (aB (aC (aE (aA (wq (aD 0 cR rfl) rfl (wq (aM 1 (.int _ _) aT M7 rfl rfl rfl) rfl (wq (aZ dQ Tryz.underlying2 rfl (fH _ (by omega) (by omega))) rfl (wq (aD 0 cR rfl) rfl ?_))))))))
  refine wq (aM 0 (.int _ _) aT M7 rfl rfl rfl) rfl (wq (aZ dQ Tryz.underlying2 rfl (fH _ (by omega) (by omega))) rfl (wq (fU rfl rfl (by omega) (by omega)) rfl (aP rfl rfl (aP rfl rfl (bY bBj rfl rfl (wX _ (q.1 - p.1) (pA p q c) (mF p q) (by omega) hn.1 hn.2 (by omega) (by omega)) ?_)))))
  rintro v8 w8 ⟨rfl, hb8⟩
  have M8 := M7.callB hb8
  refine wq (aH (.tuple (List.toArray _)) rfl) rfl (wq (bN (.int _ _) rfl rfl) rfl (wq (bN (.int _ _) rfl rfl) rfl (bI rfl rfl (bI rfl rfl (aB (aC (aE (aA ?_))))))))
  refine wq (aD 1 cO rfl) rfl (wq (aM 1 (.int _ _) aT M8 rfl rfl rfl) rfl (wq (aZ dQ Tryz.underlying2 rfl (fH _ (by omega) (by omega))) rfl (wq (aD 1 cO rfl) rfl (wq (aM 0 (.int _ _) aT M8 rfl rfl rfl) rfl (wq (aZ dQ Tryz.underlying2 rfl (fH _ (by omega) (by omega))) rfl ?_)))))
  refine wq (fU rfl rfl (by omega) (by omega)) rfl (aP rfl rfl (aP rfl rfl (bY bBj rfl rfl (wX _ (q.2 - p.2) (pA p q c) (mF p q) (by omega) hn.1 hn.2 (by omega) (by omega)) ?_)))
  rintro v9 w9 ⟨rfl, hb9⟩
  have M9 := M8.callB hb9
  refine wq (aH (.tuple (List.toArray _)) rfl) rfl (wq (bN (.int _ _) rfl rfl) rfl (wq (bN (.int _ _) rfl rfl) rfl (bI rfl rfl (bI rfl rfl (aB (aC (aE (aA ?_))))))))
  refine wq (aD 0 cR rfl) rfl (wq (aM 0 (.int _ _) aT M9 rfl rfl rfl) rfl (aP rfl rfl (wq (aZ lW Tryz.underlying21 rfl (iW _ (by omega) (by omega))) rfl (wq (iU rfl rfl (iW _ (by omega) (by omega))) rfl (wq (aD 1 cO rfl) rfl ?_)))))
  refine wq (aM 0 (.int _ _) aT M9 rfl rfl rfl) rfl (aP rfl rfl (wq (aZ lW Tryz.underlying21 rfl (iW _ (by omega) (by omega))) rfl (wq (iU rfl rfl (iW _ (by omega) (by omega))) rfl (wq (cC [(0, .int _ _), (1, .int _ _)] _ eK rfl rfl) rfl (bG 3 _ bL M9 rfl rfl rfl rfl rfl (aR rfl) rfl (fun w10 M10 => ?_))))))
  refine aB (aC (aO (eL 3 bL M10 rfl rfl rfl ?_)))
  exact ⟨by unfold cB; first | (rw [if_pos h17]; rfl) | (rw [if_neg h17]; rfl), M10.below⟩
set_option maxHeartbeats 4000000 in
theorem sB (w : World) (a b : Pt) (ha : PtI a) (hb : PtI b) :
  Calls Tryz.prog 175 #[(.agg (cI a ++ cI b).toArray)] w (fun ex w' => ∃ v, ex = .returned v ∧ (fun v w' => v = .int .u64 ((pP (b.1 - a.1) (b.2 - a.2) : Nat) : Int) ∧ Below w.heap.size w w') v w') := by
 have hai := ha.i32
 have hbi := hb.i32
 have hax := hai.x
 have hay := hai.y
 have hbx := hbi.x
 have hby := hbi.y
 refine aI #[.tmp 2] 22 Tryz.func175 rfl Tryz.results175 Tryz.ntmps175 rfl ?_
 have M0 := Mem.refl w
 refine aE (aA (bK (.agg (List.toArray _)) M0 rfl rfl rfl (fun b1 w1 M1 => (bI rfl rfl (aB (aC (aE (aA (wq (aD 2 wJ rfl) rfl (wq (aD 0 cR rfl) rfl ?_))))))))))
 refine wq (aM 0 (.int _ _) aT M1 rfl rfl rfl) rfl (wq (aZ dQ Tryz.underlying2 rfl (fH _ (by omega) (by omega))) rfl (wq (aD 0 xC rfl) rfl (wq (aD 0 cR rfl) rfl (wq (aM 0 (.int _ _) aT M1 rfl rfl rfl) rfl (wq (aZ dQ Tryz.underlying2 rfl (fH _ (by omega) (by omega))) rfl ?_)))))
 refine wq (fU rfl rfl (by omega) (by omega)) rfl (wq (aD 2 wJ rfl) rfl (wq (aD 1 cO rfl) rfl (wq (aM 0 (.int _ _) aT M1 rfl rfl rfl) rfl (wq (aZ dQ Tryz.underlying2 rfl (fH _ (by omega) (by omega))) rfl (wq (aD 0 xC rfl) rfl ?_)))))
 refine wq (aD 1 cO rfl) rfl (wq (aM 0 (.int _ _) aT M1 rfl rfl rfl) rfl (wq (aZ dQ Tryz.underlying2 rfl (fH _ (by omega) (by omega))) rfl (wq (fU rfl rfl (by omega) (by omega)) rfl (bY aZu rfl rfl (sX _ (b.1 - a.1) (b.2 - a.2) (ha.inX hb) (ha.inY hb)) ?_))))
 rintro v2 w2 ⟨rfl, hb2⟩
 have M2 := M1.callB hb2
 refine bI rfl rfl (aB (aC (aO (cD (.int _ _) rfl ?_))))
 exact ⟨rfl, M2.below⟩
set_option maxHeartbeats 16000000 in
theorem aIw (w : World) (ap aq bp bq : Pt) (h1 : SgI ap aq) (h2 : SgI bp bq) :
  Calls Tryz.prog 196 #[(.agg (cI ap).toArray), (.agg (cI aq).toArray), (.agg (cI bp).toArray), (.agg (cI bq).toArray)] w (fun ex w' => ∃ v, ex = .returned v ∧ (fun v w' => v = (.agg (fV ((mS ap aq bp bq).1, (mS ap aq bp bq).2.1)).toArray) ∧ Below w.heap.size w w') v w') := by
 have hlen4 : ([(ap, cB bp bq ap), (aq, cB bp bq aq), (cB ap aq bp, bp), (cB ap aq bq, bq)] : List (Pt × Pt)).length = 4 := rfl
 have hins : ∀ z ∈ ([(ap, cB bp bq ap), (aq, cB bp bq aq), (cB ap aq bp, bp), (cB ap aq bq, bq)] : List (Pt × Pt)), PtI z.1 ∧ PtI z.2 := aPl h1 h2
 refine aI #[.cell 8 239] 59 Tryz.func196 rfl Tryz.results196 Tryz.ntmps196 rfl ?_
 have M0 := Mem.refl w
 refine aE (aA (bK (.agg (List.toArray _)) M0 rfl rfl rfl (fun b1 w1 M1 => (bK (.agg (List.toArray _)) M1 rfl rfl rfl (fun b2 w2 M2 => (bK (.agg (List.toArray _)) M2 rfl rfl rfl (fun b3 w3 M3 => (bK (.agg (List.toArray _)) M3 rfl rfl rfl (fun b4 w4 M4 => (aS aBr M4 rfl rfl (fun b5 w5 M5 => ?_)))))))))))
 refine aB (aC (aE (bQ [(0, 1), (1, 1), (2, 1), (3, 1), (6, 1), (7, 1), (8, 1), (9, 1), (12, 1), (13, 1), (14, 1), (16, 1), (18, 1), (19, 1), (20, 1), (22, 1), (4, 2), (5, 0), (10, 2), (11, 0), (15, 2), (17, 0), (21, 2), (23, 0), (24, 2), (25, 0)] mixed rfl (by kernel_rfl) (fun w6 hb6 hh6 => ?_))))
 have M6 := M5.drew hb6 hh6
 refine bS rfl rfl rfl (aX 0 bL M6 rfl rfl rfl) (bS rfl rfl rfl (aX 2 bL M6 rfl rfl rfl) (bS rfl rfl rfl (aX 3 bL M6 rfl rfl rfl) (bS rfl rfl rfl (aX 0 bL M6 rfl rfl rfl) (bS rfl rfl rfl (aX 1 bL M6 rfl rfl rfl) (bS rfl rfl rfl (aX 2 bL M6 rfl rfl rfl) ?_)))))
 refine bS rfl rfl rfl (aX 3 bL M6 rfl rfl rfl) (bS rfl rfl rfl (aX 1 bL M6 rfl rfl rfl) (bS rfl rfl rfl (aX 0 bL M6 rfl rfl rfl) (bS rfl rfl rfl (aX 1 bL M6 rfl rfl rfl) (bS rfl rfl rfl (aX 2 bL M6 rfl rfl rfl) (bS rfl rfl rfl (aX 2 bL M6 rfl rfl rfl) ?_)))))
 refine bS rfl rfl rfl (aX 0 bL M6 rfl rfl rfl) (bS rfl rfl rfl (aX 1 bL M6 rfl rfl rfl) (bS rfl rfl rfl (aX 3 bL M6 rfl rfl rfl) (bS rfl rfl rfl (aX 3 bL M6 rfl rfl rfl) (dT [false, false, false, false, false, false, false, false, false, false, false, false, true, true, true, false] rfl (by kernel_rfl) ?_))))
 refine bY aKt rfl rfl (nB _ bp bq ap h2 h1.hp) ?_
 rintro v7 w7 ⟨rfl, hb7⟩
 have M7 := M6.callB hb7
 refine aB (aC ⟨(dZ (bM rfl (aX 3 bL M7 rfl rfl rfl)) (dZ (bM rfl (aX 3 bL M7 rfl rfl rfl)) (dZ (bM rfl (aX 1 bL M7 rfl rfl rfl)) (dZ (bM rfl (aX 0 bL M7 rfl rfl rfl)) (dZ (bM rfl (aX 2 bL M7 rfl rfl rfl)) (dZ (bM rfl (aX 2 bL M7 rfl rfl rfl)) (dZ (bM rfl (aX 1 bL M7 rfl rfl rfl)) (dZ (bM rfl (aX 0 bL M7 rfl rfl rfl)) (dZ (bM rfl (aX 1 bL M7 rfl rfl rfl)) (dZ (bM rfl (aX 3 bL M7 rfl rfl rfl)) (dZ (bM rfl (aX 2 bL M7 rfl rfl rfl)) (dZ (bM rfl (aX 1 bL M7 rfl rfl rfl)) (dZ (bM rfl (aX 0 bL M7 rfl rfl rfl)) dU))))))))))))), ?_⟩)
 refine aV rfl rfl rfl (fun _ => cC [(0, .agg (List.toArray _)), (1, .agg (List.toArray _))] _ uT rfl rfl) (dT [false, false, false, false, false, false, false, false, true, true, true, false, false] rfl (by kernel_rfl) (bY aKt rfl rfl (nB _ bp bq aq h2 h1.hq) ?_))
 rintro v8 w8 ⟨rfl, hb8⟩
 have M8 := M7.callB hb8
 refine aB (aC ⟨(dZ (bM rfl (aX 3 bL M8 rfl rfl rfl)) (dZ (bM rfl (aX 3 bL M8 rfl rfl rfl)) (dZ (bM rfl (aX 1 bL M8 rfl rfl rfl)) (dZ (bM rfl (aX 0 bL M8 rfl rfl rfl)) (dZ (bM rfl (aX 2 bL M8 rfl rfl rfl)) (dZ (bM rfl (aX 2 bL M8 rfl rfl rfl)) (dZ (bM rfl (aX 1 bL M8 rfl rfl rfl)) (dZ (bM rfl (aX 0 bL M8 rfl rfl rfl)) (dZ (bM rfl (aX 1 bL M8 rfl rfl rfl)) (dZ (bM rfl (aX 0 bL M8 rfl rfl rfl)) dU)))))))))), ?_⟩)
 refine aV rfl rfl rfl (fun _ => cC [(0, .agg (List.toArray _)), (1, .agg (List.toArray _))] _ uT rfl rfl) (dT [false, false, false, false, false, true, true, true, false, false] rfl (by kernel_rfl) (bY aKt rfl rfl (nB _ ap aq bp h1 h2.hp) ?_))
 rintro v9 w9 ⟨rfl, hb9⟩
 have M9 := M8.callB hb9
 refine aB (aC ⟨(dZ (bM rfl (aX 3 bL M9 rfl rfl rfl)) (dZ (bM rfl (aX 3 bL M9 rfl rfl rfl)) (dZ (bM rfl (aX 1 bL M9 rfl rfl rfl)) (dZ (bM rfl (aX 0 bL M9 rfl rfl rfl)) (dZ (bM rfl (aX 2 bL M9 rfl rfl rfl)) (dZ (bM rfl (aX 1 bL M9 rfl rfl rfl)) (dZ (bM rfl (aX 0 bL M9 rfl rfl rfl)) dU))))))), ?_⟩)
 refine aV rfl rfl rfl (fun _ => cC [(0, .agg (List.toArray _)), (1, .agg (List.toArray _))] _ uT rfl rfl) (dT [false, true, true, true, false, false, false] rfl (by kernel_rfl) (bY aKt rfl rfl (nB _ ap aq bq h1 h2.hq) ?_))
 rintro v10 w10 ⟨rfl, hb10⟩
 have M10 := M9.callB hb10
 refine aB (aC ⟨(dZ (bM rfl (aX 3 bL M10 rfl rfl rfl)) (dZ (bM rfl (aX 2 bL M10 rfl rfl rfl)) (dZ (bM rfl (aX 1 bL M10 rfl rfl rfl)) (dZ (bM rfl (aX 0 bL M10 rfl rfl rfl)) dU)))), ?_⟩)
 refine aV rfl rfl rfl (fun _ => cC [(0, .agg (List.toArray _)), (1, .agg (List.toArray _))] _ uT rfl rfl) (dT [true, true, true, true] rfl (by kernel_rfl) (cT [.agg (List.toArray _), .agg (List.toArray _), .agg (List.toArray _), .agg (List.toArray _)] [fV (ap, cB bp bq ap), fV (aq, cB bp bq aq), fV (cB ap aq bp, bp), fV (cB ap aq bq, bq)] rfl aTf M10 rfl rfl rfl rfl (dG rfl) (by decide) (fun b11 w11 M11 => ?_)))
 refine aB (aC ⟨dU, ?_⟩)
 have hlit36 := kH (T := 239) (b := b11) (nn := 4) (([(ap, cB bp bq ap), (aq, cB bp bq aq), (cB ap aq bp, bp), (cB ap aq bq, bq)] : List (Pt × Pt)).map fV) (bIm _) rfl (by decide)
 refine aV rfl rfl rfl (fun _ => aJ (.slice _ _ _) rfl) (bX (aC (aE (aA (dO rfl rfl (wq (bP (0) aTf rfl rfl rfl ((hlit36.rd M11 (bH (i := 5) rfl)).below_len (aG fV (show ([(ap, cB bp bq ap), (aq, cB bp bq aq), (cB ap aq bp, bp), (cB ap aq bq, bq)] : List (Pt × Pt))[0]? = some (ap, cB bp bq ap) from rfl))) ((hlit36.rd M11 (bH (i := 5) rfl)).someK (aG fV (show ([(ap, cB bp bq ap), (aq, cB bp bq aq), (cB ap aq bp, bp), (cB ap aq bq, bq)] : List (Pt × Pt))[0]? = some (ap, cB bp bq ap) from rfl)))) rfl ?_))))))
 refine wq (dN _ lX (hlit36.rd M11 (bH (i := 5) rfl)) (aG fV (show ([(ap, cB bp bq ap), (aq, cB bp bq aq), (cB ap aq bp, bp), (cB ap aq bq, bq)] : List (Pt × Pt))[0]? = some (ap, cB bp bq ap) from rfl)) rfl) rfl (aS aBr M11 rfl rfl (fun b12 w12 M12 => ?_))
 refine bG 6 _ lX M12 rfl rfl rfl rfl rfl (aR rfl) rfl (fun w13 M13 => (aB (aC (aE (aE (aA (bI rfl rfl (aB (aC (aQ (dS (σ := Nat × Ch) [8, 9, 10] (fun (i, s) => [(11, .int .i64 (i : Int))]) (fun (i, s) w' => (1 ≤ i ∧ i ≤ 4 ∧ s = tC (([(ap, cB bp bq ap), (aq, cB bp bq aq), (cB ap aq bp, bp), (cB ap aq bq, bq)] : List (Pt × Pt)).take i) ∧ ChL s) ∧ Mem w [] [(some b1, bc (cI ap) 37), (some b2, bc (cI aq) 37), (some b3, bc (cI bp) 37), (some b4, bc (cI bq) 37), (some b5, bc [.int .i32 0, .int .i32 0, .int .i32 0, .int .i32 0] 239), (some b11, bc ((([(ap, cB bp bq ap), (aq, cB bp bq aq), (cB ap aq bp, bp), (cB ap aq bq, bq)] : List (Pt × Pt)).map fV).flatten) 239), (some b12, bc (fV (s.1, s.2.1)) 239)] w') (fun (i, s) => 4 - i) (1, tC [(ap, cB bp bq ap)]) (bA rfl eB) (⟨⟨by omega, by omega, rfl, (aHy h1.hp (eV h2)).2⟩, by rw [(aHy h1.hp (eV h2)).1]; exact M13⟩) ?_)))))))))))
 rintro ⟨i, s⟩ ρ14 w14 ⟨⟨hi1, hi4, hs, hL⟩, hM14⟩
 refine aE (aE (aA (aP rfl rfl (dO rfl rfl (wq (dC Tryz.underlying315 rfl) rfl (aK 42 (.int .i64 4) rfl (cZ rfl rfl rfl rfl ?_)))))))
 refine aB (aC ?_)
 refine aW rfl (fun h43 => ?_) (fun h43 => ?_)
 ·obtain ⟨z, hz⟩ := cS (xs := ([(ap, cB bp bq ap), (aq, cB bp bq aq), (cB ap aq bp, bp), (cB ap aq bq, bq)] : List (Pt × Pt))) (k := i) hlen4 (by omega)
  have hzi := hins z (List.mem_of_getElem? hz)
  refine aL (aC (aE (aQ (aE (bQ [(0, 0), (1, 0), (2, 1), (3, 1), (5, 1), (4, 2), (6, 2), (7, 0)] mixed rfl (by kernel_rfl) (fun w15 hb15 hh15 => ?_))))))
  have M15 := hM14.drew hb15 hh15
  refine jP rfl rfl rfl (eF rfl rfl rfl (bS rfl rfl rfl (bP (i) aTf rfl rfl rfl ((hlit36.rd M15 (bH (i := 5) rfl)).below_len (aG fV hz)) ((hlit36.rd M15 (bH (i := 5) rfl)).someK (aG fV hz))) (bS rfl rfl rfl (dN _ lX (hlit36.rd M15 (bH (i := 5) rfl)) (aG fV hz) rfl) ?_)))
  refine bS rfl rfl rfl (aX 6 lX M15 rfl rfl rfl) (dT [false, true, true] rfl (by kernel_rfl) (bY aRn rfl rfl (sB _ z.1 z.2 hzi.1 hzi.2) ?_))
  rintro v16 w16 ⟨rfl, hb16⟩
  have M16 := M15.callB hb16
  refine aB (aC ⟨(dZ (bM rfl (aX 6 lX M16 rfl rfl rfl)) dU), ?_⟩)
  refine dT [true] rfl (by kernel_rfl) (bY aRn rfl rfl (sB _ s.1 s.2.1 hL.i.a hL.i.b) ?_)
  rintro v17 w17 ⟨rfl, hb17⟩
  have M17 := M16.callB hb17
  refine aB (aC ⟨dU, ?_⟩)
  refine aV rfl rfl rfl (fun _ => bZ (.bool (decide _)) rfl rfl rfl) (bX (aC ?_))
  refine aW rfl (fun h53 => ?_) (fun h53 => ?_)
  ·refine aA (dO rfl rfl (aP rfl rfl (wq (bP (i) aTf rfl rfl rfl ((hlit36.rd M17 (bH (i := 5) rfl)).below_len (aG fV hz)) ((hlit36.rd M17 (bH (i := 5) rfl)).someK (aG fV hz))) rfl (wq (dN _ lX (hlit36.rd M17 (bH (i := 5) rfl)) (aG fV hz) rfl) rfl ?_))))
   refine bG 6 _ lX M17 rfl rfl rfl rfl rfl (aR rfl) rfl (fun w18 M18 => (aB (cV (aC (aA (aP rfl rfl (wq (aY rfl rfl (by omega) (by omega)) rfl ?_)))))))
   refine bI rfl rfl (aB ?_)
   refine cG (i + 1, fS s z.1 z.2) (bA rfl eB) (cN rfl (cN rfl (cN rfl gV))) ?_ ?_
   ·exact ⟨⟨by omega, by omega, by rw [zW hz, hs], hL.step hzi.1 hzi.2⟩, by unfold fS; rw [if_pos (by rw [hL.l]; omega)]; exact M18⟩
   ·(show 4 - (i + 1) < 4 - i; omega)
  ·refine aL (cV (aC (aA (aP rfl rfl (wq (aY rfl rfl (by omega) (by omega)) rfl (bI rfl rfl ?_))))))
   refine aB ?_
   refine cG (i + 1, fS s z.1 z.2) (bA rfl eB) (cN rfl (cN rfl (cN rfl gV))) ?_ ?_
   ·exact ⟨⟨by omega, by omega, by rw [zW hz, hs], hL.step hzi.1 hzi.2⟩, by unfold fS; rw [if_neg (by rw [hL.l]; omega)]; exact M17⟩
   ·(show 4 - (i + 1) < 4 - i; omega)
 ·obtain rfl : i = 4 := by omega
  refine cX (dF (dK (eS (aC (aE (aA (wq (aX 6 lX hM14 rfl rfl rfl) rfl ?_)))))))
  refine bG 4 _ lX hM14 rfl rfl rfl rfl rfl (aR rfl) rfl (fun w19 M19 => (aB (aC (aO (eL 4 lX M19 rfl rfl rfl ?_)))))
  exact ⟨by rw [hs]; rfl, M19.below⟩
set_option maxHeartbeats 4000000 in
theorem aIx (w : World) (a b : Body) (ha : Okb a) (hb : Okb b) :
  Calls Tryz.prog 174 #[(.agg (aF a).toArray), (.agg (aF b).toArray)] w (fun ex w' => ∃ v, ex = .returned v ∧ (fun v w' => v = (.agg (fV ((oC a b).1, (oC a b).2.1)).toArray) ∧ Below w.heap.size w w') v w') := by
 refine aI #[.cell 4 239] 14 Tryz.func174 rfl Tryz.results174 Tryz.ntmps174 rfl ?_
 have M0 := Mem.refl w
 refine aE (aA (bK (.agg (List.toArray _)) M0 rfl rfl rfl (fun b1 w1 M1 => (bK (.agg (List.toArray _)) M1 rfl rfl rfl (fun b2 w2 M2 => (aS aBr M2 rfl rfl (fun b3 w3 M3 => (aB (aC (aE (bQ [(0, 1), (2, 1), (4, 1), (6, 1), (1, 2), (3, 2), (5, 2), (7, 2), (8, 2), (9, 2)] mixed rfl (by kernel_rfl) (fun w4 hb4 hh4 => ?_))))))))))))
 have M4 := M3.drew hb4 hh4
 refine bS rfl rfl rfl (aX 0 bO M4 rfl rfl rfl) (bS rfl rfl rfl (aX 0 bO M4 rfl rfl rfl) (bS rfl rfl rfl (aX 1 bO M4 rfl rfl rfl) (bS rfl rfl rfl (aX 1 bO M4 rfl rfl rfl) (dT [false, false, false, true] rfl (by kernel_rfl) (bY aZc rfl rfl (zY _ a ha) ?_)))))
 rintro v5 w5 ⟨rfl, hb5⟩
 have M5 := M4.callB hb5
 refine aB (aC ⟨(dZ (bM rfl (aX 1 bO M5 rfl rfl rfl)) (dZ (bM rfl (aX 1 bO M5 rfl rfl rfl)) (dZ (bM rfl (aX 0 bO M5 rfl rfl rfl)) dU))), ?_⟩)
 refine dT [false, false, true] rfl (by kernel_rfl) (bY bDg rfl rfl (yC _ a ha) ?_)
 rintro v6 w6 ⟨rfl, hb6⟩
 have M6 := M5.callB hb6
 refine aB (aC ⟨(dZ (bM rfl (aX 1 bO M6 rfl rfl rfl)) (dZ (bM rfl (aX 1 bO M6 rfl rfl rfl)) dU)), ?_⟩)
 refine dT [false, true] rfl (by kernel_rfl) (bY aZc rfl rfl (zY _ b hb) ?_)
 rintro v7 w7 ⟨rfl, hb7⟩
 have M7 := M6.callB hb7
 refine aB (aC ⟨(dZ (bM rfl (aX 1 bO M7 rfl rfl rfl)) dU), ?_⟩)
 refine dT [true] rfl (by kernel_rfl) (bY bDg rfl rfl (yC _ b hb) ?_)
 rintro v8 w8 ⟨rfl, hb8⟩
 have M8 := M7.callB hb8
 refine aB (aC ⟨dU, ?_⟩)
 refine dT [] rfl (by kernel_rfl) (bY bNp rfl rfl (aIw _ (yY a) (yV a) (yY b) (yV b) (pM ha) (pM hb)) ?_)
 rintro v9 w9 ⟨rfl, hb9⟩
 have M9 := M8.callB hb9
 refine aB (aC ⟨dU, ?_⟩)
 refine dT [] rfl (by kernel_rfl) (bG 2 _ lX M9 rfl rfl rfl rfl rfl (aR rfl) rfl (fun w10 M10 => ?_))
 refine aB (aC ⟨dU, ?_⟩)
 refine bX (aC (aO (eL 2 lX M10 rfl rfl rfl ?_)))
 exact ⟨rfl, M10.below⟩
set_option maxHeartbeats 8000000 in
theorem aHa (w : World) (a b : Body) (ha : Okb a) (hb : Okb b) (hk : ¬ b.key < a.key) :
  Calls Tryz.prog 154 #[(.agg (aF a).toArray), (.agg (aF b).toArray)] w (fun ex w' => ∃ v, ex = .returned v ∧ (fun v w' => v = .tuple #[.agg (aNb (jI a b)).toArray, .bool (jI a b).isSome] ∧ Below w.heap.size w w') v w') := by
 have hch := zC ha hb
 have hd := bEf ha hb
 have hl := vV hd.1 hd.2
 have hra := ha.r
 have hrb := hb.r
 have hsn : (a.radius + b.radius).natAbs * (a.radius + b.radius).natAbs ≤ 70368744177664 := by have := bBt ha hb; rw [← Int.natAbs_mul_self] at this; omega
 have hax := hch.a.i32.x
 have hay := hch.a.i32.y
 have hbx := hch.b.i32.x
 have hby := hch.b.i32.y
 refine aI #[.cell 4 211, .tmp 5] 72 Tryz.func154 rfl Tryz.results154 Tryz.ntmps154 rfl ?_
 have M0 := Mem.refl w
 refine aE (aA (bK (.agg (List.toArray _)) M0 rfl rfl rfl (fun b1 w1 M1 => (bK (.agg (List.toArray _)) M1 rfl rfl rfl (fun b2 w2 M2 => (aS lZ M2 rfl rfl (fun b3 w3 M3 => (wq (aJ (.bool false) rfl) rfl (aB (aC (aE (aE (aA ?_)))))))))))))
 refine wq (aD 0 dL rfl) rfl (wq (aM 1 (.int _ _) bW M3 rfl rfl rfl) rfl (wq (aD 0 dL rfl) rfl (wq (aM 0 (.int _ _) bW M3 rfl rfl rfl) rfl (cZ rfl rfl rfl rfl (pE 14 rfl (by omega) ?_)))))
 refine aB (aC (cJ rfl (aL (aC (aE (aA (wq (aX 0 bO M3 rfl rfl rfl) rfl (wq (aX 1 bO M3 rfl rfl rfl) rfl (bY bMb rfl rfl (aIx _ a b ha hb) ?_)))))))))
 rintro v4 w4 ⟨rfl, hb4⟩
 have M4 := M3.callB hb4
 refine aK 22 (.agg (cI (oC a b).1 ++ cI (oC a b).2.1).toArray) rfl (aS aBr M4 rfl rfl (fun b5 w5 M5 => (bG 3 _ lX M5 rfl rfl rfl rfl rfl (aR rfl) rfl (fun w6 M6 => (aB (aC (aE (aA (wq (aD 1 lH rfl) rfl (wq (aM 0 (.int _ _) aT M6 rfl rfl rfl) rfl ?_))))))))))
 refine wq (aZ dQ Tryz.underlying2 rfl (fH _ (by omega) (by omega))) rfl (wq (aD 1 lH rfl) rfl (wq (aM 1 (.int _ _) aT M6 rfl rfl rfl) rfl (wq (aZ dQ Tryz.underlying2 rfl (fH _ (by omega) (by omega))) rfl (wq (aY rfl rfl (by omega) (by omega)) rfl (bI rfl rfl ?_)))))
 refine aB (aC (aE (aE (aA (wq (aX 3 lX M6 rfl rfl rfl) rfl (bY aRn rfl rfl (sB _ (oC a b).1 (oC a b).2.1 hch.a hch.b) ?_))))))
 rintro v7 w7 ⟨rfl, hb7⟩
 have M7 := M6.callB hb7
 refine aK 31 (.int .u64 ((pP (pZ (oC a b)) (rE (oC a b)) : Nat) : Int)) rfl (aP rfl rfl (wq (dA lW Tryz.underlying237 rfl) rfl (aK 33 (.int .u64 (((a.radius + b.radius).natAbs : Nat) : Int)) (iE (by rw [gB]; omega)) (aP rfl rfl (wq (dA lW Tryz.underlying237 rfl) rfl ?_)))))
 refine aK 35 (.int .u64 (((a.radius + b.radius).natAbs : Nat) : Int)) (iE (by rw [gB]; omega)) (wq (bZ (.int _ _) rfl rfl rfl) rfl (aK 36 (.int .u64 (((a.radius + b.radius).natAbs * (a.radius + b.radius).natAbs : Nat) : Int)) (iE (lA _ _ (by omega))) (cZ rfl rfl rfl rfl (aB (aC ?_)))))
 refine aW rfl (fun h37 => ?_) (fun h37 => ?_)
 ·refine aE (aA (wq (cC [] _ uG rfl rfl) rfl (bG 2 _ eQ M7 rfl rfl rfl rfl rfl (aR rfl) rfl (fun w8 M8 => (wq (aJ (.bool false) rfl) rfl (aB (aC (aO (cM (tR (v2 := .bool false) 2 eQ M8 rfl rfl rfl rfl ?_))))))))))
  exact ⟨by unfold jI; first | (rw [if_pos (by omega)]; rfl) | (rw [if_neg (by omega)]; rfl), M8.below⟩
 ·refine aL (aC (aE (aA (wq (aD 2 wJ rfl) rfl (wq (aD 0 cR rfl) rfl (wq (aM 3 (.int _ _) aT M7 rfl rfl rfl) rfl (wq (aZ dQ Tryz.underlying2 rfl (fH _ (by omega) (by omega))) rfl (wq (aD 0 xC rfl) rfl ?_))))))))
  refine wq (aD 0 cR rfl) rfl (wq (aM 3 (.int _ _) aT M7 rfl rfl rfl) rfl (wq (aZ dQ Tryz.underlying2 rfl (fH _ (by omega) (by omega))) rfl (wq (fU rfl rfl (by omega) (by omega)) rfl (aK 47 (.int .i64 (pZ (oC a b))) rfl (bI rfl rfl ?_)))))
  refine aB (aC (aE (aA (wq (aD 2 wJ rfl) rfl (wq (aD 1 cO rfl) rfl (wq (aM 3 (.int _ _) aT M7 rfl rfl rfl) rfl (wq (aZ dQ Tryz.underlying2 rfl (fH _ (by omega) (by omega))) rfl (wq (aD 0 xC rfl) rfl ?_))))))))
  refine wq (aD 1 cO rfl) rfl (wq (aM 3 (.int _ _) aT M7 rfl rfl rfl) rfl (wq (aZ dQ Tryz.underlying2 rfl (fH _ (by omega) (by omega))) rfl (wq (fU rfl rfl (by omega) (by omega)) rfl (aK 56 (.int .i64 (rE (oC a b))) rfl (bI rfl rfl ?_)))))
  refine aB (aC (aE (bQ [(0, 0), (1, 1), (2, 0), (3, 1), (4, 0), (5, 0), (6, 0), (8, 0), (9, 0), (10, 0), (7, 2), (11, 2), (12, 0), (13, 0), (14, 0), (15, 2), (16, 0)] mixed rfl (by kernel_rfl) (fun w9 hb9 hh9 => ?_))))
  have M9 := M7.drew hb9 hh9
  refine aV rfl rfl rfl (fun _ => aD 0 dL rfl) (bS rfl rfl rfl (aM 0 (.int _ _) bW M9 rfl rfl rfl) (aV rfl rfl rfl (fun _ => aD 0 dL rfl) (bS rfl rfl rfl (aM 1 (.int _ _) bW M9 rfl rfl rfl) (aV rfl rfl rfl (fun _ => cC [(0, .int _ _), (1, .int _ _)] _ yU rfl rfl) ?_))))
  refine eF rfl rfl rfl (eF rfl rfl rfl (eF rfl rfl rfl (eF rfl rfl rfl (eF rfl rfl rfl (dT [false, false] rfl (by kernel_rfl) ?_)))))
  refine bY bNo rfl rfl (aOx _ (pZ (oC a b)) (rE (oC a b)) hd.1 hd.2) ?_
  rintro v10 w10 ⟨rfl, hb10⟩
  have M10 := M9.callB hb10
  refine aB (aC ⟨(dZ (bM rfl (aM 1 (.int _ _) bW M10 rfl rfl rfl)) (dZ (bM rfl (aM 0 (.int _ _) bW M10 rfl rfl rfl)) dU)), ?_⟩)
  refine dT [false, false] rfl (by kernel_rfl) (bY aPm rfl rfl (rP _ (pZ (oC a b)) (rE (oC a b)) hd.1 hd.2) ?_)
  rintro v11 w11 ⟨rfl, hb11⟩
  have M11 := M10.callB hb11
  refine aB (aC ⟨(dZ (bM rfl (aM 1 (.int _ _) bW M11 rfl rfl rfl)) (dZ (bM rfl (aM 0 (.int _ _) bW M11 rfl rfl rfl)) dU)), ?_⟩)
  refine aV rfl rfl rfl (fun _ => fU rfl rfl (by omega) (by omega)) (aV rfl rfl rfl (fun _ => dA lW Tryz.underlying21 rfl) (aV rfl rfl rfl (fun _ => cC [(0, .agg (List.toArray _)), (1, .agg (List.toArray _)), (2, .int _ _)] _ uG rfl rfl) (dT [true, true] rfl (by kernel_rfl) (bG 2 _ eQ M11 rfl rfl rfl rfl rfl (aR rfl) rfl (fun w12 M12 => ?_)))))
  refine aB (aC ⟨dU, ?_⟩)
  refine aV rfl rfl rfl (fun _ => aJ (.bool true) rfl) (bX (aC (aO (tR (v2 := .bool true) 2 eQ M12 rfl rfl rfl rfl ?_))))
  exact ⟨by unfold jI; first | (rw [if_pos (by omega)]; rfl) | (rw [if_neg (by omega)]; rfl), M12.below⟩
set_option maxHeartbeats 4000000 in
theorem aVe (w : World) (a b : Body) (ha : Okb a) (hb : Okb b) (hk : b.key < a.key) :
  Calls Tryz.prog 154 #[(.agg (aF a).toArray), (.agg (aF b).toArray)] w (fun ex w' => ∃ v, ex = .returned v ∧ (fun v w' => v = .tuple #[.agg (aNb (jI b a)).toArray, .bool (jI b a).isSome] ∧ Below w.heap.size w w') v w') := by
 refine aI #[.cell 4 211, .tmp 5] 72 Tryz.func154 rfl Tryz.results154 Tryz.ntmps154 rfl ?_
 have M0 := Mem.refl w
 refine aE (aA (bK (.agg (List.toArray _)) M0 rfl rfl rfl (fun b1 w1 M1 => (bK (.agg (List.toArray _)) M1 rfl rfl rfl (fun b2 w2 M2 => (aS lZ M2 rfl rfl (fun b3 w3 M3 => (wq (aJ (.bool false) rfl) rfl (aB (aC (aE (aE (aA ?_)))))))))))))
 refine wq (aD 0 dL rfl) rfl (wq (aM 1 (.int _ _) bW M3 rfl rfl rfl) rfl (wq (aD 0 dL rfl) rfl (wq (aM 0 (.int _ _) bW M3 rfl rfl rfl) rfl (cZ rfl rfl rfl rfl (kZ 14 rfl (by omega) ?_)))))
 refine aB (aC (cF rfl (aE (aA (wq (aX 1 bO M3 rfl rfl rfl) rfl (wq (aX 0 bO M3 rfl rfl rfl) rfl (bY aRy rfl rfl (aHa _ b a hb ha (by omega)) ?_)))))))
 rintro v4 w4 ⟨rfl, hb4⟩
 have M4 := M3.callB hb4
 refine wq (bN (.agg (List.toArray _)) rfl rfl) rfl (wq (bN (.bool _) rfl rfl) rfl (bG 2 _ eQ M4 rfl rfl rfl rfl rfl (aR rfl) rfl (fun w5 M5 => (wq (aJ (.bool _) rfl) rfl (aB (aC (aO (cM (tR (v2 := .bool _) 2 eQ M5 rfl rfl rfl rfl ?_)))))))))
 exact ⟨rfl, M5.below⟩
theorem aNx (w : World) (a b : Body) (ha : Okb a) (hb : Okb b) : Calls Tryz.prog 154 #[(.agg (aF a).toArray), (.agg (aF b).toArray)] w (fun ex w' => ∃ v, ex = .returned v ∧ (fun v w' => v = .tuple #[.agg (aNb (jY a b)).toArray, .bool (jY a b).isSome] ∧ Below w.heap.size w w') v w') := by
 unfold jY
 by_cases hk : b.key < a.key
 ·rw [if_pos hk]; exact aVe w a b ha hb hk
 ·rw [if_neg hk]; exact aHa w a b ha hb hk
set_option maxHeartbeats 4000000 in
theorem aBu (w : World) (s : Ch) (x y : Pt) (ba bb bl : Nat) (hx : PtI x) (hy : PtI y) (hO : Own [(some ba, bc (cI s.1) 37), (some bb, bc (cI s.2.1) 37), (some bl, bc [.int .u64 (s.2.2 : Int)] 237)] w) :
  Calls Tryz.prog 276 #[(.agg (cI x).toArray), (.agg (cI y).toArray), .pointer (some ⟨bl, 0, none⟩), .pointer (some ⟨ba, 0, none⟩), .pointer (some ⟨bb, 0, none⟩)] w (fun ex w' => ∃ v, ex = .returned v ∧ (fun v w' => v = .tuple #[] ∧ Mem w (cE [(some ba, bc (cI s.1) 37), (some bb, bc (cI s.2.1) 37), (some bl, bc [.int .u64 (s.2.2 : Int)] 237)]) [(some ba, bc (cI (fS s x y).1) 37), (some bb, bc (cI (fS s x y).2.1) 37), (some bl, bc [.int .u64 ((fS s x y).2.2 : Int)] 237)] w') v w') := by
 refine aI #[] 20 Tryz.func276 rfl Tryz.results276 Tryz.ntmps276 rfl ?_
 have M0 := hO.mem
 refine aE (aA (bK (.agg (List.toArray _)) M0 rfl rfl rfl (fun b1 w1 M1 => (bK (.agg (List.toArray _)) M1 rfl rfl rfl (fun b2 w2 M2 => (aB (aC (aE (aA (wq (aX 3 bL M2 rfl rfl rfl) rfl (wq (aX 4 bL M2 rfl rfl rfl) rfl ?_)))))))))))
 refine bY aFh rfl rfl (sU _ x y hx.i32 hy.i32) ?_
 rintro v3 w3 ⟨rfl, hb3⟩
 have M3 := M2.callB hb3
 refine wq (bN (.int _ _) rfl rfl) rfl (wq (bN (.int _ _) rfl rfl) rfl (bY aOz rfl rfl (rO _ (y.1 - x.1) (y.2 - x.2) (hx.inX hy) (hx.inY hy)) ?_))
 rintro v4 w4 ⟨rfl, hb4⟩
 have M4 := M3.callB hb4
 refine bI rfl rfl (aB (aC (aE (aA (aP rfl rfl (wq (aM 2 (.int _ _) cQ M4 rfl rfl rfl) rfl (cZ rfl rfl rfl rfl (aB (aC ?_)))))))))
 refine aW rfl (fun h16 => ?_) (fun h16 => ?_)
 ·refine bQ [(0, 1), (1, 1), (2, 0), (3, 2), (4, 2), (5, 2)] mixed rfl (by kernel_rfl) (fun w5 hb5 hh5 => ?_)
  have M5 := M4.drew hb5 hh5
  refine bS rfl rfl rfl (aX 3 bL M5 rfl rfl rfl) (bS rfl rfl rfl (aX 4 bL M5 rfl rfl rfl) (eF rfl rfl rfl (dT [false, true] rfl (by kernel_rfl) (bG 0 _ bL M5 rfl rfl rfl rfl rfl (aR rfl) rfl (fun w6 M6 => ?_)))))
  refine aB (aC ⟨(dZ (bM rfl (aX 4 bL M6 rfl rfl rfl)) dU), ?_⟩)
  refine dT [true] rfl (by kernel_rfl) (bG 1 _ bL M6 rfl rfl rfl rfl rfl (aR rfl) rfl (fun w7 M7 => ?_))
  refine aB (aC ⟨dU, ?_⟩)
  refine dT [] rfl (by kernel_rfl) (dD 2 (.int _ _) cQ M7 rfl rfl rfl rfl rfl rfl (fun w8 M8 => ?_))
  refine aB (aC ⟨dU, ?_⟩)
  refine bX (lD ?_)
  exact ⟨rfl, by unfold fS; first | (rw [if_pos (by omega)]; exact M8.keep [true, true, true, false, false]) | (rw [if_neg (by omega)]; exact M8.keep [true, true, true, false, false])⟩
 ·refine aL (lD ?_)
  exact ⟨rfl, by unfold fS; first | (rw [if_pos (by omega)]; exact M4.keep [true, true, true, false, false]) | (rw [if_neg (by omega)]; exact M4.keep [true, true, true, false, false])⟩
set_option maxHeartbeats 8000000 in
theorem aPp (w : World) (ap aq bp bq : Pt) (h1 : SgI ap aq) (h2 : SgI bp bq) :
  Calls Tryz.prog 259 #[(.agg (cI ap).toArray), (.agg (cI aq).toArray), (.agg (cI bp).toArray), (.agg (cI bq).toArray)] w (fun ex w' => ∃ v, ex = .returned v ∧ (fun v w' => v = .tuple #[(.agg (cI (mS ap aq bp bq).1).toArray), (.agg (cI (mS ap aq bp bq).2.1).toArray), .int .u64 ((mS ap aq bp bq).2.2 : Int)] ∧ Below w.heap.size w w') v w') := by
 refine aI #[.cell 8 37, .cell 9 37, .cell 10 237] 48 Tryz.func259 rfl Tryz.results259 Tryz.ntmps259 rfl ?_
 have M0 := Mem.refl w
 refine aE (aA (bK (.agg (List.toArray _)) M0 rfl rfl rfl (fun b1 w1 M1 => (bK (.agg (List.toArray _)) M1 rfl rfl rfl (fun b2 w2 M2 => (bK (.agg (List.toArray _)) M2 rfl rfl rfl (fun b3 w3 M3 => (bK (.agg (List.toArray _)) M3 rfl rfl rfl (fun b4 w4 M4 => (aS iD M4 rfl rfl (fun b5 w5 M5 => ?_)))))))))))
 refine aS iD M5 rfl rfl (fun b6 w6 M6 => (aS bFv M6 rfl rfl (fun b7 w7 M7 => (aB (aC (aE (aA (dD 6 (.int _ _) cQ M7 rfl rfl rfl rfl rfl rfl (fun w8 M8 => (aB (aC (aE (aA ?_)))))))))))))
 obtain ⟨s, hS⟩ : ∃ z, z = ch0 := ⟨_, rfl⟩
 have hC : ChI s := by rw [hS]; exact bFc
 have M9 : Mem _ _ [_, _, _, _, (some b5, bc (cI ch0.1) 37), (some b6, bc (cI ch0.2.1) 37), (some b7, bc [.int .u64 (ch0.2.2 : Int)] 237)] _ := M8
 rw [← hS] at M9
 refine wq (dR [] [.pointer _, .pointer _, .pointer _] rfl rfl) rfl (wq (aJ (.func _ _ _) rfl) rfl (aB (aC (aE (aE (aA (wq (aX 0 bL M9 rfl rfl rfl) rfl (wq (aX 1 bL M9 rfl rfl rfl) rfl (wq (tA [.agg (List.toArray _), .agg (List.toArray _)] yW aTy rfl rfl (dG rfl)) rfl ?_)))))))))
 refine aP rfl rfl (aB (aC (aQ (iR 3 (fK (aE (aA (cZ rfl rfl rfl rfl (kZ 21 rfl (by first | decide | omega) ?_)))))))))
 refine aB (aC (aE (cF rfl (aL (aC (aE (aQ (aE (aA (wq (qF 0 _ yW bL rfl rfl (by decide) (by decide) rfl rfl) rfl (aS iD M9 rfl rfl (fun b10 w10 M10 => (bG 7 _ bL M10 rfl rfl rfl rfl rfl (aR rfl) rfl (fun w11 M11 => ?_))))))))))))))
 refine aB (aC (bQ [(0, 0), (1, 1), (2, 1), (3, 1), (4, 1), (5, 2), (6, 2)] mixed rfl (by kernel_rfl) (fun w12 hb12 hh12 => ?_)))
 have M12 := M11.drew hb12 hh12
 refine aV rfl rfl rfl (fun _ => aH (.func _ _ _) rfl) (bS rfl rfl rfl (aX 7 bL M12 rfl rfl rfl) (bS rfl rfl rfl (aX 2 bL M12 rfl rfl rfl) (bS rfl rfl rfl (aX 3 bL M12 rfl rfl rfl) (bS rfl rfl rfl (aX 7 bL M12 rfl rfl rfl) (dT [true, true, true, false] rfl (by kernel_rfl) ?_)))))
 refine bY aJc rfl rfl (nE _ bp bq ap h2 h1.hp) ?_
 rintro v13 w13 ⟨rfl, hb13⟩
 have M13 := M12.callB hb13
 refine aB (aC ⟨(dZ (bM rfl (aX 7 bL M13 rfl rfl rfl)) dU), ?_⟩)
 refine dT [true] rfl (by kernel_rfl) (bY aKn rfl rfl (aBu _ s ap (cB bp bq ap) _ _ _ h1.hp (eV h2) (M13.ownSeg 4 3)) ?_)
 rintro v14 w14 ⟨rfl, hM14⟩
 have M14 : Mem _ _ [_, _, _, _, _, _, _, _] _ := M13.seg 4 3 hM14
 obtain ⟨s, hs⟩ : ∃ z, z = fS s ap (cB bp bq ap) := ⟨_, rfl⟩
 rw [← hs] at M14
 replace hC := hC.step (x := ap) (y := (cB bp bq ap)) h1.hp (eV h2)
 rw [← hs] at hC
 replace hS := hs.trans (congrArg (fun z => fS z ap (cB bp bq ap)) hS)
 refine aB (aC ⟨dU, ?_⟩)
 refine bX (cV (aC (aA (wq (aY rfl rfl (by first | decide | omega) (by first | decide | omega)) rfl (aK 30 (.int .i64 1) (iE (by first | decide | omega)) (aP rfl rfl ?_))))))
 refine aB (aC (fK (aE (aA (cZ rfl rfl rfl rfl (kZ 21 rfl (by first | decide | omega) (aB (aC (aE ?_)))))))))
 refine cF rfl (aL (aC (aE (aQ (aE (aA (wq (qF 1 _ yW bL rfl rfl (by decide) (by decide) rfl rfl) rfl (aS iD M14 rfl rfl (fun b15 w15 M15 => (bG 8 _ bL M15 rfl rfl rfl rfl rfl (aR rfl) rfl (fun w16 M16 => (aB (aC ?_)))))))))))))
 refine bQ [(0, 0), (1, 1), (2, 1), (3, 1), (4, 1), (5, 2), (6, 2)] mixed rfl (by kernel_rfl) (fun w17 hb17 hh17 => ?_)
 have M17 := M16.drew hb17 hh17
 refine aV rfl rfl rfl (fun _ => aH (.func _ _ _) rfl) (bS rfl rfl rfl (aX 8 bL M17 rfl rfl rfl) (bS rfl rfl rfl (aX 2 bL M17 rfl rfl rfl) (bS rfl rfl rfl (aX 3 bL M17 rfl rfl rfl) (bS rfl rfl rfl (aX 8 bL M17 rfl rfl rfl) (dT [true, true, true, false] rfl (by kernel_rfl) ?_)))))
 refine bY aJc rfl rfl (nE _ bp bq aq h2 h1.hq) ?_
 rintro v18 w18 ⟨rfl, hb18⟩
 have M18 := M17.callB hb18
 refine aB (aC ⟨(dZ (bM rfl (aX 8 bL M18 rfl rfl rfl)) dU), ?_⟩)
 refine dT [true] rfl (by kernel_rfl) (bY aKn rfl rfl (aBu _ s aq (cB bp bq aq) _ _ _ h1.hq (eV h2) (M18.ownSeg 4 3)) ?_)
 rintro v19 w19 ⟨rfl, hM19⟩
 have M19 : Mem _ _ [_, _, _, _, _, _, _, _, _] _ := M18.seg 4 3 hM19
 obtain ⟨s, hs⟩ : ∃ z, z = fS s aq (cB bp bq aq) := ⟨_, rfl⟩
 rw [← hs] at M19
 replace hC := hC.step (x := aq) (y := (cB bp bq aq)) h1.hq (eV h2)
 rw [← hs] at hC
 replace hS := hs.trans (congrArg (fun z => fS z aq (cB bp bq aq)) hS)
 refine aB (aC ⟨dU, ?_⟩)
 refine bX (cV (aC (aA (wq (aY rfl rfl (by first | decide | omega) (by first | decide | omega)) rfl (aK 30 (.int .i64 2) (iE (by first | decide | omega)) (aP rfl rfl ?_))))))
 refine aB (aC (fK (aE (aA (cZ rfl rfl rfl rfl (pE 21 rfl (by first | decide | omega) (aB (aC (aE ?_)))))))))
 refine cJ rfl (cX (dF (dF (eS (aC (aE (aE (aA (wq (aX 2 bL M19 rfl rfl rfl) rfl ?_)))))))))
 refine wq (aX 3 bL M19 rfl rfl rfl) rfl (wq (tA [.agg (List.toArray _), .agg (List.toArray _)] yW aTy rfl rfl (dG rfl)) rfl (aP rfl rfl (aB (aC (aQ (iR 3 (fK (aE (aA ?_)))))))))
 refine cZ rfl rfl rfl rfl (kZ 35 rfl (by first | decide | omega) (aB (aC (aE (cF rfl (aL (aC (aE (aQ (aE (aA (wq (qF 0 _ yW bL rfl rfl (by decide) (by decide) rfl rfl) rfl ?_))))))))))))
 refine aS iD M19 rfl rfl (fun b20 w20 M20 => (bG 9 _ bL M20 rfl rfl rfl rfl rfl (aR rfl) rfl (fun w21 M21 => (aB (aC (bQ [(0, 0), (1, 1), (2, 1), (3, 1), (5, 1), (4, 2), (6, 2)] mixed rfl (by kernel_rfl) (fun w22 hb22 hh22 => ?_)))))))
 have M22 := M21.drew hb22 hh22
 refine aV rfl rfl rfl (fun _ => aH (.func _ _ _) rfl) (bS rfl rfl rfl (aX 0 bL M22 rfl rfl rfl) (bS rfl rfl rfl (aX 1 bL M22 rfl rfl rfl) (bS rfl rfl rfl (aX 9 bL M22 rfl rfl rfl) (bS rfl rfl rfl (aX 9 bL M22 rfl rfl rfl) (dT [false, true, true, true] rfl (by kernel_rfl) ?_)))))
 refine bY aJc rfl rfl (nE _ ap aq bp h1 h2.hp) ?_
 rintro v23 w23 ⟨rfl, hb23⟩
 have M23 := M22.callB hb23
 refine aB (aC ⟨(dZ (bM rfl (aX 9 bL M23 rfl rfl rfl)) dU), ?_⟩)
 refine dT [true] rfl (by kernel_rfl) (bY aKn rfl rfl (aBu _ s (cB ap aq bp) bp _ _ _ (eV h1) h2.hp (M23.ownSeg 4 3)) ?_)
 rintro v24 w24 ⟨rfl, hM24⟩
 have M24 : Mem _ _ [_, _, _, _, _, _, _, _, _, _] _ := M23.seg 4 3 hM24
 obtain ⟨s, hs⟩ : ∃ z, z = fS s (cB ap aq bp) bp := ⟨_, rfl⟩
 rw [← hs] at M24
 replace hC := hC.step (x := (cB ap aq bp)) (y := bp) (eV h1) h2.hp
 rw [← hs] at hC
 replace hS := hs.trans (congrArg (fun z => fS z (cB ap aq bp) bp) hS)
 refine aB (aC ⟨dU, ?_⟩)
 refine bX (cV (aC (aA (wq (aY rfl rfl (by first | decide | omega) (by first | decide | omega)) rfl (aK 44 (.int .i64 1) (iE (by first | decide | omega)) (aP rfl rfl ?_))))))
 refine aB (aC (fK (aE (aA (cZ rfl rfl rfl rfl (kZ 35 rfl (by first | decide | omega) (aB (aC (aE ?_)))))))))
 refine cF rfl (aL (aC (aE (aQ (aE (aA (wq (qF 1 _ yW bL rfl rfl (by decide) (by decide) rfl rfl) rfl (aS iD M24 rfl rfl (fun b25 w25 M25 => (bG 10 _ bL M25 rfl rfl rfl rfl rfl (aR rfl) rfl (fun w26 M26 => (aB (aC ?_)))))))))))))
 refine bQ [(0, 0), (1, 1), (2, 1), (3, 1), (5, 1), (4, 2), (6, 2)] mixed rfl (by kernel_rfl) (fun w27 hb27 hh27 => ?_)
 have M27 := M26.drew hb27 hh27
 refine aV rfl rfl rfl (fun _ => aH (.func _ _ _) rfl) (bS rfl rfl rfl (aX 0 bL M27 rfl rfl rfl) (bS rfl rfl rfl (aX 1 bL M27 rfl rfl rfl) (bS rfl rfl rfl (aX 10 bL M27 rfl rfl rfl) (bS rfl rfl rfl (aX 10 bL M27 rfl rfl rfl) (dT [false, true, true, true] rfl (by kernel_rfl) ?_)))))
 refine bY aJc rfl rfl (nE _ ap aq bq h1 h2.hq) ?_
 rintro v28 w28 ⟨rfl, hb28⟩
 have M28 := M27.callB hb28
 refine aB (aC ⟨(dZ (bM rfl (aX 10 bL M28 rfl rfl rfl)) dU), ?_⟩)
 refine dT [true] rfl (by kernel_rfl) (bY aKn rfl rfl (aBu _ s (cB ap aq bq) bq _ _ _ (eV h1) h2.hq (M28.ownSeg 4 3)) ?_)
 rintro v29 w29 ⟨rfl, hM29⟩
 have M29 : Mem _ _ [_, _, _, _, _, _, _, _, _, _, _] _ := M28.seg 4 3 hM29
 obtain ⟨s, hs⟩ : ∃ z, z = fS s (cB ap aq bq) bq := ⟨_, rfl⟩
 rw [← hs] at M29
 replace hC := hC.step (x := (cB ap aq bq)) (y := bq) (eV h1) h2.hq
 rw [← hs] at hC
 replace hS := hs.trans (congrArg (fun z => fS z (cB ap aq bq) bq) hS)
 refine aB (aC ⟨dU, ?_⟩)
 refine bX (cV (aC (aA (wq (aY rfl rfl (by first | decide | omega) (by first | decide | omega)) rfl (aK 44 (.int .i64 2) (iE (by first | decide | omega)) (aP rfl rfl ?_))))))
 refine aB (aC (fK (aE (aA (cZ rfl rfl rfl rfl (pE 35 rfl (by first | decide | omega) (aB (aC (aE ?_)))))))))
 refine cJ rfl (cX (dF (dF (eS (aC (aE (bQ [(0, 1), (1, 1), (2, 1), (3, 2), (4, 2), (5, 2)] mixed rfl (by kernel_rfl) (fun w30 hb30 hh30 => ?_))))))))
 have M30 := M29.drew hb30 hh30
 refine bS rfl rfl rfl (aX 4 bL M30 rfl rfl rfl) (bS rfl rfl rfl (aX 5 bL M30 rfl rfl rfl) (bS rfl rfl rfl (aM 6 (.int _ _) cQ M30 rfl rfl rfl) (dT [false, false, true] rfl (by kernel_rfl) (bG 4 _ bL M30 rfl rfl rfl rfl rfl (aR rfl) rfl (fun w31 M31 => ?_)))))
 refine aB (aC ⟨(dZ (bM rfl (aM 6 (.int _ _) cQ M31 rfl rfl rfl)) (dZ (bM rfl (aX 5 bL M31 rfl rfl rfl)) dU)), ?_⟩)
 refine dT [false, true] rfl (by kernel_rfl) (bG 5 _ bL M31 rfl rfl rfl rfl rfl (aR rfl) rfl (fun w32 M32 => ?_))
 refine aB (aC ⟨(dZ (bM rfl (aM 6 (.int _ _) cQ M32 rfl rfl rfl)) dU), ?_⟩)
 refine dT [true] rfl (by kernel_rfl) (dD 6 (.int _ _) cQ M32 rfl rfl rfl rfl rfl rfl (fun w33 M33 => ?_))
 refine aB (aC ⟨dU, ?_⟩)
 refine bX (aC (aO (bNr 4 5 6 bL cQ M33 rfl rfl rfl rfl rfl rfl rfl rfl ?_)))
 exact ⟨by rw [show s = mS ap aq bp bq from hS], M33.below⟩
set_option maxHeartbeats 4000000 in
theorem aRh (w : World) (ap aq bp bq : Pt) (h1 : SgI ap aq) (h2 : SgI bp bq) :
  Calls Tryz.prog 238 #[(.agg (cI ap).toArray), (.agg (cI aq).toArray), (.agg (cI bp).toArray), (.agg (cI bq).toArray)] w (fun ex w' => ∃ v, ex = .returned v ∧ (fun v w' => v = .tuple #[(.agg (cI (mS ap aq bp bq).1).toArray), (.agg (cI (mS ap aq bp bq).2.1).toArray)] ∧ Below w.heap.size w w') v w') := by
 refine aI #[.cell 8 37, .cell 9 37] 21 Tryz.func238 rfl Tryz.results238 Tryz.ntmps238 rfl ?_
 have M0 := Mem.refl w
 refine aE (aA (bK (.agg (List.toArray _)) M0 rfl rfl rfl (fun b1 w1 M1 => (bK (.agg (List.toArray _)) M1 rfl rfl rfl (fun b2 w2 M2 => (bK (.agg (List.toArray _)) M2 rfl rfl rfl (fun b3 w3 M3 => (bK (.agg (List.toArray _)) M3 rfl rfl rfl (fun b4 w4 M4 => (aS iD M4 rfl rfl (fun b5 w5 M5 => ?_)))))))))))
 refine aS iD M5 rfl rfl (fun b6 w6 M6 => (aB (aC (aE (aA (wq (aX 0 bL M6 rfl rfl rfl) rfl (wq (aX 1 bL M6 rfl rfl rfl) rfl (wq (aX 2 bL M6 rfl rfl rfl) rfl (wq (aX 3 bL M6 rfl rfl rfl) rfl ?_)))))))))
 refine bY bOb rfl rfl (aPp _ ap aq bp bq h1 h2) ?_
 rintro v7 w7 ⟨rfl, hb7⟩
 have M7 := M6.callB hb7
 refine wq (aH (.tuple (List.toArray _)) rfl) rfl (wq (bN (.agg (List.toArray _)) rfl rfl) rfl (wq (bN (.agg (List.toArray _)) rfl rfl) rfl (wq (bN (.int _ _) rfl rfl) rfl (bG 4 _ bL M7 rfl rfl rfl rfl rfl (aR rfl) rfl (fun w8 M8 => (bG 5 _ bL M8 rfl rfl rfl rfl rfl (aR rfl) rfl (fun w9 M9 => ?_)))))))
 refine aB (aC (aE (bQ [(0, 1), (1, 1), (2, 2), (3, 2)] mixed rfl (by kernel_rfl) (fun w10 hb10 hh10 => ?_))))
 have M10 := M9.drew hb10 hh10
 refine bS rfl rfl rfl (aX 4 bL M10 rfl rfl rfl) (bS rfl rfl rfl (aX 5 bL M10 rfl rfl rfl) (dT [false, true] rfl (by kernel_rfl) (bG 4 _ bL M10 rfl rfl rfl rfl rfl (aR rfl) rfl (fun w11 M11 => ?_))))
 refine aB (aC ⟨(dZ (bM rfl (aX 5 bL M11 rfl rfl rfl)) dU), ?_⟩)
 refine dT [true] rfl (by kernel_rfl) (bG 5 _ bL M11 rfl rfl rfl rfl rfl (aR rfl) rfl (fun w12 M12 => ?_))
 refine aB (aC ⟨dU, ?_⟩)
 refine bX (aC (aO (aTx 4 5 bL M12 rfl rfl rfl rfl rfl rfl ?_)))
 exact ⟨rfl, M12.below⟩
end Go.Proofs.YtaoaknafiegfoaaGreatDoor
