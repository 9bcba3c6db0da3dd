/- Part of the proof of the laws of this seat: Z1, Z1b, Z1c, Z1d, W3, Z2, W4, Z3, Z4, W5. No conditions. -/
import Derived.Test.YtaoaknafiegfoaaGreatDoorK2
import Derived.Test.YtaoaknafiegfoaaGreatDoorK5
import Derived.Test.YtaoaknafiegfoaaGreatDoorK12
import Derived.Test.YtaoaknafiegfoaaGreatDoorK18
import Derived.Test.YtaoaknafiegfoaaGreatDoorK11
import Derived.Test.YtaoaknafiegfoaaGreatDoorK17
set_option linter.unusedVariables false
set_option linter.unusedSimpArgs false
set_option linter.unnecessarySimpa false
namespace Go.Proofs.YtaoaknafiegfoaaGreatDoor
open Go.Bil
open Go.RowKit (Below)
open Go.Proofs
set_option maxHeartbeats 8000000 in
theorem xH (w : World) (a : Int) (h0 : -9223372036854775808 ≤ a) (h1 : a ≤ 9223372036854775807) :
  Calls Tryz.prog 266 #[.int .i64 a] w (fun ex w' => ∃ v, ex = .returned v ∧ (fun v w' => v = (.agg ((bPl a.natAbs).map lG).toArray) ∧ Below w.heap.size w w') v w') := by
 obtain ⟨m, hm⟩ : ∃ m, m = a.natAbs := ⟨_, rfl⟩
 refine aI #[.cell 2 344] 24 Tryz.func266 rfl Tryz.results266 Tryz.ntmps266 rfl ?_
 have M0 := Mem.refl w
 refine aE (aA (aT uL M0 rfl rfl (fun b1 w1 M1 => (aB (aC (aE (aA (aT uL M1 rfl rfl (fun b2 w2 M2 => (aB (aC (aE (aA (aP rfl rfl ?_))))))))))))))
 refine wq (dA lW Tryz.underlying237 rfl) rfl (bH rfl rfl (aB (aC (aE (aE (aA (aP rfl rfl (cY rfl rfl rfl rfl (aB (aC ?_))))))))))
 refine aW rfl (fun h9 => ?_) (fun h9 => ?_)
 ·refine aA (aP rfl rfl (wq (qZ rfl) rfl (aK 11 (.int .u64 ((m : Nat) : Int)) (iE (by rw [gD, gD]; omega)) (bH rfl rfl (aB (aC (aE (aE (aA ?_)))))))))
  refine bH rfl rfl (aB (aC (aQ (iU 5 (fI (aE (aE (aA (aP rfl rfl (cY rfl rfl rfl rfl ?_))))))))))
  refine kH 13 rfl (by first | decide | omega) (aB (aC (cE rfl (aL (aC (aE (aQ (aE (aA (aP rfl rfl (aP rfl rfl ?_)))))))))))
  refine aK 17 (.int .u64 ((m : Nat) : Int)) (iE (by first | rfl | (rw [gD]; omega) | (rw [gD, gD]; omega))) (wq (iK rfl rfl (by decide)) rfl (aK 18 (.int .u64 ((m % 65536 : Nat) : Int)) (iE (jH (m) 65536)) (wq (aD 0 bU rfl) rfl (wq (bZ (0) cX rfl rfl rfl (by decide)) rfl ?_))))
  refine dB 1 (.int _ _) cQ M2 rfl rfl rfl rfl rfl rfl (fun w3 M3 => (aB (aC (aA (aP rfl rfl (aK 21 (.int .u64 ((m : Nat) : Int)) (iE (by first | rfl | (rw [gD]; omega) | (rw [gD, gD]; omega))) (wq (fZ rfl rfl (by decide)) rfl (aK 22 (.int .u64 ((m / 65536 : Nat) : Int)) (iE (iQ (m) 65536 (by omega))) ?_))))))))
  refine bH rfl rfl (aB (cT (aC (aA (aP rfl rfl (wq (aY rfl rfl (by first | decide | omega) (by first | decide | omega)) rfl ?_))))))
  refine aK 15 (.int .i64 1) (iE (by first | decide | omega)) (bH rfl rfl (aB (aC (fI (eC (fr := [(2, .pointer _), (3, .pointer _), (4, .int _ _), (5, .int .i64 1)]) (bB rfl (bB rfl (bB rfl (bB rfl dZ)))) (fun ρ4 => (aE (aE (aA ?_)))))))))
  refine aP rfl rfl (cY rfl rfl rfl rfl (kH 13 rfl (by first | decide | omega) (aB (aC (cE rfl (aL (aC (aE (aQ (aE (aA ?_)))))))))))
  refine aP rfl rfl (aP rfl rfl (aK 17 (.int .u64 ((m / 65536 : Nat) : Int)) (iE (by first | rfl | (rw [gD]; omega) | (rw [gD, gD]; omega))) (wq (iK rfl rfl (by decide)) rfl (aK 18 (.int .u64 ((m / 65536 % 65536 : Nat) : Int)) (iE (jH (m / 65536) 65536)) (wq (aD 0 bU rfl) rfl ?_)))))
  refine wq (bZ (1) cX rfl rfl rfl (by decide)) rfl (dB 1 (.int _ _) cQ M3 rfl rfl rfl rfl rfl rfl (fun w5 M5 => (aB (aC (aA (aP rfl rfl (aK 21 (.int .u64 ((m / 65536 : Nat) : Int)) (iE (by first | rfl | (rw [gD]; omega) | (rw [gD, gD]; omega))) (wq (fZ rfl rfl (by decide)) rfl ?_))))))))
  refine aK 22 (.int .u64 ((m / 65536 / 65536 : Nat) : Int)) (iE (iQ (m / 65536) 65536 (by omega))) (bH rfl rfl (aB (cT (aC (aA (aP rfl rfl ?_))))))
  refine wq (aY rfl rfl (by first | decide | omega) (by first | decide | omega)) rfl (aK 15 (.int .i64 2) (iE (by first | decide | omega)) (bH rfl rfl (aB (aC (fI (eC (fr := [(2, .pointer _), (3, .pointer _), (4, .int _ _), (5, .int .i64 2)]) (bB rfl (bB rfl (bB rfl (bB rfl dZ)))) (fun ρ6 => ?_)))))))
  refine aE (aE (aA (aP rfl rfl (cY rfl rfl rfl rfl (kH 13 rfl (by first | decide | omega) (aB (aC (cE rfl ?_))))))))
  refine aL (aC (aE (aQ (aE (aA (aP rfl rfl (aP rfl rfl (aK 17 (.int .u64 ((m / 65536 / 65536 : Nat) : Int)) (iE (by first | rfl | (rw [gD]; omega) | (rw [gD, gD]; omega))) (wq (iK rfl rfl (by decide)) rfl (aK 18 (.int .u64 ((m / 65536 / 65536 % 65536 : Nat) : Int)) (iE (jH (m / 65536 / 65536) 65536)) ?_))))))))))
  refine wq (aD 0 bU rfl) rfl (wq (bZ (2) cX rfl rfl rfl (by decide)) rfl (dB 1 (.int _ _) cQ M5 rfl rfl rfl rfl rfl rfl (fun w7 M7 => (aB (aC (aA (aP rfl rfl (aK 21 (.int .u64 ((m / 65536 / 65536 : Nat) : Int)) (iE (by first | rfl | (rw [gD]; omega) | (rw [gD, gD]; omega))) ?_))))))))
  refine wq (fZ rfl rfl (by decide)) rfl (aK 22 (.int .u64 ((m / 65536 / 65536 / 65536 : Nat) : Int)) (iE (iQ (m / 65536 / 65536) 65536 (by omega))) (bH rfl rfl (aB (cT (aC (aA ?_))))))
  refine aP rfl rfl (wq (aY rfl rfl (by first | decide | omega) (by first | decide | omega)) rfl (aK 15 (.int .i64 3) (iE (by first | decide | omega)) (bH rfl rfl (aB (aC (fI ?_))))))
  refine eC (fr := [(2, .pointer _), (3, .pointer _), (4, .int _ _), (5, .int .i64 3)]) (bB rfl (bB rfl (bB rfl (bB rfl dZ)))) (fun ρ8 => (aE (aE (aA (aP rfl rfl (cY rfl rfl rfl rfl (kH 13 rfl (by first | decide | omega) (aB (aC ?_)))))))))
  refine cE rfl (aL (aC (aE (aQ (aE (aA (aP rfl rfl (aP rfl rfl (aK 17 (.int .u64 ((m / 65536 / 65536 / 65536 : Nat) : Int)) (iE (by first | rfl | (rw [gD]; omega) | (rw [gD, gD]; omega))) (wq (iK rfl rfl (by decide)) rfl ?_))))))))))
  refine aK 18 (.int .u64 ((m / 65536 / 65536 / 65536 % 65536 : Nat) : Int)) (iE (jH (m / 65536 / 65536 / 65536) 65536)) (wq (aD 0 bU rfl) rfl (wq (bZ (3) cX rfl rfl rfl (by decide)) rfl (dB 1 (.int _ _) cQ M7 rfl rfl rfl rfl rfl rfl (fun w9 M9 => (aB (aC (aA ?_)))))))
  refine aP rfl rfl (aK 21 (.int .u64 ((m / 65536 / 65536 / 65536 : Nat) : Int)) (iE (by first | rfl | (rw [gD]; omega) | (rw [gD, gD]; omega))) (wq (fZ rfl rfl (by decide)) rfl (aK 22 (.int .u64 ((m / 65536 / 65536 / 65536 / 65536 : Nat) : Int)) (iE (iQ (m / 65536 / 65536 / 65536) 65536 (by omega))) ?_)))
  refine bH rfl rfl (aB (cT (aC (aA (aP rfl rfl (wq (aY rfl rfl (by first | decide | omega) (by first | decide | omega)) rfl ?_))))))
  refine aK 15 (.int .i64 4) (iE (by first | decide | omega)) (bH rfl rfl (aB (aC (fI (eC (fr := [(2, .pointer _), (3, .pointer _), (4, .int _ _), (5, .int .i64 4)]) (bB rfl (bB rfl (bB rfl (bB rfl dZ)))) (fun ρ10 => (aE (aE (aA ?_)))))))))
  refine aP rfl rfl (cY rfl rfl rfl rfl (oG 13 rfl (by first | decide | omega) (aB (aC (cJ rfl (cW ?_))))))
  refine dE (dE (eS (aC (aE (aA (wq (aX 1 nO M9 rfl rfl rfl) rfl (bI 0 _ nO M9 rfl rfl rfl rfl rfl (aR rfl) rfl (fun w11 M11 => (aB (aC (aO ?_)))))))))))
  refine eL 0 nO M11 rfl rfl rfl ?_
  exact ⟨by rw [← hm]; rfl, M11.below⟩
 ·refine aL (aC (aE (aE (aA (bH rfl rfl (aB (aC (aQ (iU 5 (fI (aE (aE (aA (aP rfl rfl ?_))))))))))))))
  refine cY rfl rfl rfl rfl (kH 13 rfl (by first | decide | omega) (aB (aC (cE rfl (aL (aC (aE (aQ (aE (aA (aP rfl rfl ?_)))))))))))
  refine aP rfl rfl (aK 17 (.int .u64 ((m : Nat) : Int)) (iE (by first | rfl | (rw [gD]; omega) | (rw [gD, gD]; omega))) (wq (iK rfl rfl (by decide)) rfl (aK 18 (.int .u64 ((m % 65536 : Nat) : Int)) (iE (jH (m) 65536)) (wq (aD 0 bU rfl) rfl (wq (bZ (0) cX rfl rfl rfl (by decide)) rfl ?_)))))
  refine dB 1 (.int _ _) cQ M2 rfl rfl rfl rfl rfl rfl (fun w12 M12 => (aB (aC (aA (aP rfl rfl (aK 21 (.int .u64 ((m : Nat) : Int)) (iE (by first | rfl | (rw [gD]; omega) | (rw [gD, gD]; omega))) (wq (fZ rfl rfl (by decide)) rfl (aK 22 (.int .u64 ((m / 65536 : Nat) : Int)) (iE (iQ (m) 65536 (by omega))) ?_))))))))
  refine bH rfl rfl (aB (cT (aC (aA (aP rfl rfl (wq (aY rfl rfl (by first | decide | omega) (by first | decide | omega)) rfl ?_))))))
  refine aK 15 (.int .i64 1) (iE (by first | decide | omega)) (bH rfl rfl (aB (aC (fI (eC (fr := [(2, .pointer _), (3, .pointer _), (4, .int _ _), (5, .int .i64 1)]) (bB rfl (bB rfl (bB rfl (bB rfl dZ)))) (fun ρ13 => (aE (aE (aA ?_)))))))))
  refine aP rfl rfl (cY rfl rfl rfl rfl (kH 13 rfl (by first | decide | omega) (aB (aC (cE rfl (aL (aC (aE (aQ (aE (aA ?_)))))))))))
  refine aP rfl rfl (aP rfl rfl (aK 17 (.int .u64 ((m / 65536 : Nat) : Int)) (iE (by first | rfl | (rw [gD]; omega) | (rw [gD, gD]; omega))) (wq (iK rfl rfl (by decide)) rfl (aK 18 (.int .u64 ((m / 65536 % 65536 : Nat) : Int)) (iE (jH (m / 65536) 65536)) (wq (aD 0 bU rfl) rfl ?_)))))
  refine wq (bZ (1) cX rfl rfl rfl (by decide)) rfl (dB 1 (.int _ _) cQ M12 rfl rfl rfl rfl rfl rfl (fun w14 M14 => (aB (aC (aA (aP rfl rfl (aK 21 (.int .u64 ((m / 65536 : Nat) : Int)) (iE (by first | rfl | (rw [gD]; omega) | (rw [gD, gD]; omega))) (wq (fZ rfl rfl (by decide)) rfl ?_))))))))
  refine aK 22 (.int .u64 ((m / 65536 / 65536 : Nat) : Int)) (iE (iQ (m / 65536) 65536 (by omega))) (bH rfl rfl (aB (cT (aC (aA (aP rfl rfl ?_))))))
  refine wq (aY rfl rfl (by first | decide | omega) (by first | decide | omega)) rfl (aK 15 (.int .i64 2) (iE (by first | decide | omega)) (bH rfl rfl (aB (aC (fI (eC (fr := [(2, .pointer _), (3, .pointer _), (4, .int _ _), (5, .int .i64 2)]) (bB rfl (bB rfl (bB rfl (bB rfl dZ)))) (fun ρ15 => ?_)))))))
  refine aE (aE (aA (aP rfl rfl (cY rfl rfl rfl rfl (kH 13 rfl (by first | decide | omega) (aB (aC (cE rfl ?_))))))))
  refine aL (aC (aE (aQ (aE (aA (aP rfl rfl (aP rfl rfl (aK 17 (.int .u64 ((m / 65536 / 65536 : Nat) : Int)) (iE (by first | rfl | (rw [gD]; omega) | (rw [gD, gD]; omega))) (wq (iK rfl rfl (by decide)) rfl (aK 18 (.int .u64 ((m / 65536 / 65536 % 65536 : Nat) : Int)) (iE (jH (m / 65536 / 65536) 65536)) ?_))))))))))
  refine wq (aD 0 bU rfl) rfl (wq (bZ (2) cX rfl rfl rfl (by decide)) rfl (dB 1 (.int _ _) cQ M14 rfl rfl rfl rfl rfl rfl (fun w16 M16 => (aB (aC (aA (aP rfl rfl (aK 21 (.int .u64 ((m / 65536 / 65536 : Nat) : Int)) (iE (by first | rfl | (rw [gD]; omega) | (rw [gD, gD]; omega))) ?_))))))))
  refine wq (fZ rfl rfl (by decide)) rfl (aK 22 (.int .u64 ((m / 65536 / 65536 / 65536 : Nat) : Int)) (iE (iQ (m / 65536 / 65536) 65536 (by omega))) (bH rfl rfl (aB (cT (aC (aA ?_))))))
  refine aP rfl rfl (wq (aY rfl rfl (by first | decide | omega) (by first | decide | omega)) rfl (aK 15 (.int .i64 3) (iE (by first | decide | omega)) (bH rfl rfl (aB (aC (fI ?_))))))
  refine eC (fr := [(2, .pointer _), (3, .pointer _), (4, .int _ _), (5, .int .i64 3)]) (bB rfl (bB rfl (bB rfl (bB rfl dZ)))) (fun ρ17 => (aE (aE (aA (aP rfl rfl (cY rfl rfl rfl rfl (kH 13 rfl (by first | decide | omega) (aB (aC ?_)))))))))
  refine cE rfl (aL (aC (aE (aQ (aE (aA (aP rfl rfl (aP rfl rfl (aK 17 (.int .u64 ((m / 65536 / 65536 / 65536 : Nat) : Int)) (iE (by first | rfl | (rw [gD]; omega) | (rw [gD, gD]; omega))) (wq (iK rfl rfl (by decide)) rfl ?_))))))))))
  refine aK 18 (.int .u64 ((m / 65536 / 65536 / 65536 % 65536 : Nat) : Int)) (iE (jH (m / 65536 / 65536 / 65536) 65536)) (wq (aD 0 bU rfl) rfl (wq (bZ (3) cX rfl rfl rfl (by decide)) rfl (dB 1 (.int _ _) cQ M16 rfl rfl rfl rfl rfl rfl (fun w18 M18 => (aB (aC (aA ?_)))))))
  refine aP rfl rfl (aK 21 (.int .u64 ((m / 65536 / 65536 / 65536 : Nat) : Int)) (iE (by first | rfl | (rw [gD]; omega) | (rw [gD, gD]; omega))) (wq (fZ rfl rfl (by decide)) rfl (aK 22 (.int .u64 ((m / 65536 / 65536 / 65536 / 65536 : Nat) : Int)) (iE (iQ (m / 65536 / 65536 / 65536) 65536 (by omega))) ?_)))
  refine bH rfl rfl (aB (cT (aC (aA (aP rfl rfl (wq (aY rfl rfl (by first | decide | omega) (by first | decide | omega)) rfl ?_))))))
  refine aK 15 (.int .i64 4) (iE (by first | decide | omega)) (bH rfl rfl (aB (aC (fI (eC (fr := [(2, .pointer _), (3, .pointer _), (4, .int _ _), (5, .int .i64 4)]) (bB rfl (bB rfl (bB rfl (bB rfl dZ)))) (fun ρ19 => (aE (aE (aA ?_)))))))))
  refine aP rfl rfl (cY rfl rfl rfl rfl (oG 13 rfl (by first | decide | omega) (aB (aC (cJ rfl (cW ?_))))))
  refine dE (dE (eS (aC (aE (aA (wq (aX 1 nO M18 rfl rfl rfl) rfl (bI 0 _ nO M18 rfl rfl rfl rfl rfl (aR rfl) rfl (fun w20 M20 => (aB (aC (aO ?_)))))))))))
  refine eL 0 nO M20 rfl rfl rfl ?_
  exact ⟨by rw [← hm]; rfl, M20.below⟩
set_option maxHeartbeats 64000000 in
set_option maxRecDepth 10000 in
theorem vI (w : World) (a b : Int) (ha0 : -9223372036854775808 ≤ a) (ha1 : a ≤ 9223372036854775807) (hb0 : -9223372036854775808 ≤ b) (hb1 : b ≤ 9223372036854775807) :
  Calls Tryz.prog 251 #[.int .i64 a, .int .i64 b] w (fun ex w' => ∃ v, ex = .returned v ∧ (fun v w' => ∃ D : List Nat, v = (.agg ((D).map lG).toArray) ∧ D.length = 8 ∧ (∀ x ∈ D, x < 65536) ∧ sT D = a.natAbs * b.natAbs ∧ Below w.heap.size w w') v w') := by
 obtain ⟨x0, x1, x2, x3, hx, hx0, hx1, hx2, hx3, hX⟩ := bJh (m := a.natAbs) (by omega)
 obtain ⟨y0, y1, y2, y3, hy, hy0, hy1, hy2, hy3, hY⟩ := bJh (m := b.natAbs) (by omega)
 refine aI #[.cell 4 344] 57 Tryz.func251 rfl Tryz.results251 Tryz.ntmps251 rfl ?_
 have M0 := Mem.refl w
 refine aE (aA (aT uL M0 rfl rfl (fun b1 w1 M1 => (aB (aC (aE (aA (aP rfl rfl (bY bCo rfl rfl (xH _ a ha0 ha1) ?_)))))))))
 rintro v2 w2 ⟨rfl, hb2⟩
 have M2 := M1.callB hb2
 refine aK 13 (.agg (List.map lG [x0, x1, x2, x3, 0, 0, 0, 0]).toArray) (congrArg (fun l => Value.agg (List.map lG l).toArray) hx) (aT uL M2 rfl rfl (fun b3 w3 M3 => (bI 1 _ nO M3 rfl rfl rfl rfl rfl (aR rfl) rfl (fun w4 M4 => (aB (aC (aE (aA (aP rfl rfl ?_)))))))))
 refine bY bCo rfl rfl (xH _ b hb0 hb1) ?_
 rintro v5 w5 ⟨rfl, hb5⟩
 have M5 := M4.callB hb5
 refine aK 15 (.agg (List.map lG [y0, y1, y2, y3, 0, 0, 0, 0]).toArray) (congrArg (fun l => Value.agg (List.map lG l).toArray) hy) (aT uL M5 rfl rfl (fun b6 w6 M6 => (bI 2 _ nO M6 rfl rfl rfl rfl rfl (aR rfl) rfl (fun w7 M7 => (aB (aC (aE (aA (aT uL M7 rfl rfl (fun b8 w8 M8 => ?_))))))))))
 refine aB (aC (aE (aE (aA (bH rfl rfl (aB (aC (aQ (iU 5 (fI (aE (aE (aA (aP rfl rfl ?_))))))))))))))
 refine cY rfl rfl rfl rfl (kH 17 rfl (by first | decide | omega) (aB (aC (cE rfl (aL (aC (aE (aQ (aE (aA (bH rfl rfl ?_)))))))))))
 refine aB (aC (aE (aE (aA (bH rfl rfl (aB (aC (aQ (iU 5 (fI (aE (aE (aA (aP rfl rfl ?_))))))))))))))
 refine cY rfl rfl rfl rfl (kH 21 rfl (by first | decide | omega) (aB (aC (cE rfl (aL (aC (aE (aQ (aE (bR [(0, 0), (1, 0), (2, 0), (3, 0), (4, 0), (5, 1), (6, 0), (7, 0), (8, 0), (9, 1), (10, 0), (11, 0), (12, 0), (13, 1), (14, 0), (15, 0), (16, 0), (17, 0), (18, 0)] mixed rfl (by kernel_rfl) (fun w9 hb9 hh9 => ?_)))))))))))
 have M9 := M8.drew hb9 hh9
 obtain ⟨t00, ht00, ba00, bb00, bc00, bd00, be00⟩ := fX (z := 0) (c := 0) (x := x0) (y := y0) (by decide) (by decide) hx0 hy0
 refine eB rfl rfl rfl (eB rfl rfl rfl (aU rfl rfl rfl (fun _ => aY rfl rfl (by first | decide | omega) (by first | decide | omega)) (aU rfl rfl rfl (fun _ => aD 0 bU rfl) (aU rfl rfl rfl (fun _ => bZ (0) cX rfl rfl rfl (by decide)) (bS rfl rfl rfl (aM 3 (.int _ _) cQ M9 rfl rfl rfl) ?_)))))
 refine eB rfl rfl rfl (aU rfl rfl rfl (fun _ => aD 0 bU rfl) (aU rfl rfl rfl (fun _ => bZ (0) cX rfl rfl rfl (by decide)) (bS rfl rfl rfl (aM 1 (.int _ _) cQ M9 rfl rfl rfl) (eB rfl rfl rfl (aU rfl rfl rfl (fun _ => aD 0 bU rfl) ?_)))))
 refine aU rfl rfl rfl (fun _ => bZ (0) cX rfl rfl rfl (by decide)) (bS rfl rfl rfl (aM 2 (.int _ _) cQ M9 rfl rfl rfl) (aU rfl rfl rfl (fun _ => cA (.int _ _) rfl rfl rfl) (dQ 38 (.int .u64 ((x0 * y0 : Nat) : Int)) (iE (lE x0 y0 ba00)) (aU rfl rfl rfl (fun _ => cA (.int _ _) rfl rfl rfl) ?_))))
 refine dQ 39 (.int .u64 ((0 + x0 * y0 : Nat) : Int)) (iE (kX (0) (x0 * y0) bb00)) (eB rfl rfl rfl (aU rfl rfl rfl (fun _ => cA (.int _ _) rfl rfl rfl) (dQ 41 (.int .u64 (t00 : Int)) (iE ((kX (0 + x0 * y0) (0) bc00).trans (congrArg _ ht00.symm))) (mG rfl rfl rfl (bX ?_)))))
 refine aC (aE (aA (aP rfl rfl (aP rfl rfl (wq (aY rfl rfl (by first | decide | omega) (by first | decide | omega)) rfl (aK 44 (.int .i64 0) (iE (by first | decide | omega)) (aP rfl rfl ?_)))))))
 refine wq (iK rfl rfl (by decide)) rfl (aK 46 (.int .u64 ((t00 % 65536 : Nat) : Int)) (iE (jH t00 65536)) (wq (aD 0 bU rfl) rfl (wq (bZ (0) cX rfl rfl rfl (by decide)) rfl (dB 3 (.int _ _) cQ M9 rfl rfl rfl rfl rfl rfl (fun w10 M10 => (aB (aC (aA ?_))))))))
 refine aP rfl rfl (wq (fZ rfl rfl (by decide)) rfl (aK 50 (.int .u64 ((t00 / 65536 : Nat) : Int)) (iE (iQ t00 65536 bd00)) (bH rfl rfl (aB (cT ?_)))))
 refine aC (aA (aP rfl rfl (wq (aY rfl rfl (by first | decide | omega) (by first | decide | omega)) rfl (aK 23 (.int .i64 1) (iE (by first | decide | omega)) (bH rfl rfl (aB ?_))))))
 refine aC (fI (eC (fr := [(4, .pointer _), (5, .pointer _), (6, .pointer _), (7, .pointer _), (8, .int .i64 0), (9, .int _ _), (10, .int .i64 1), (11, .int _ _), (16, .int .i64 0), (17, .bool true)]) (bB rfl (bB rfl (bB rfl (bB rfl (bB rfl (bB rfl (bB rfl (bB rfl (bB rfl (bB rfl dZ)))))))))) (fun ρ11 => ?_)))
 have M12 : Mem _ _ [_, _, _, (some _, bc [.int .u64 ((t00 % 65536 : Nat) : Int), .int .u64 0, .int .u64 0, .int .u64 0, .int .u64 0, .int .u64 0, .int .u64 0, .int .u64 0] 344)] _ := M10
 refine aE (aE (aA (aP rfl rfl (cY rfl rfl rfl rfl (kH 21 rfl (by first | decide | omega) (aB (aC (cE rfl ?_))))))))
 refine aL (aC (aE (aQ (aE (bR [(0, 0), (1, 0), (2, 0), (3, 0), (4, 0), (5, 1), (6, 0), (7, 0), (8, 0), (9, 1), (10, 0), (11, 0), (12, 0), (13, 1), (14, 0), (15, 0), (16, 0), (17, 0), (18, 0)] mixed rfl (by kernel_rfl) (fun w13 hb13 hh13 => ?_))))))
 have M13 := M12.drew hb13 hh13
 obtain ⟨t01, ht01, ba01, bb01, bc01, bd01, be01⟩ := fX (z := 0) (c := t00 / 65536) (x := x0) (y := y1) (by decide) be00 hx0 hy1
 refine eB rfl rfl rfl (eB rfl rfl rfl (aU rfl rfl rfl (fun _ => aY rfl rfl (by first | decide | omega) (by first | decide | omega)) (aU rfl rfl rfl (fun _ => aD 0 bU rfl) (aU rfl rfl rfl (fun _ => bZ (1) cX rfl rfl rfl (by decide)) (bS rfl rfl rfl (aM 3 (.int _ _) cQ M13 rfl rfl rfl) ?_)))))
 refine eB rfl rfl rfl (aU rfl rfl rfl (fun _ => aD 0 bU rfl) (aU rfl rfl rfl (fun _ => bZ (0) cX rfl rfl rfl (by decide)) (bS rfl rfl rfl (aM 1 (.int _ _) cQ M13 rfl rfl rfl) (eB rfl rfl rfl (aU rfl rfl rfl (fun _ => aD 0 bU rfl) ?_)))))
 refine aU rfl rfl rfl (fun _ => bZ (1) cX rfl rfl rfl (by decide)) (bS rfl rfl rfl (aM 2 (.int _ _) cQ M13 rfl rfl rfl) (aU rfl rfl rfl (fun _ => cA (.int _ _) rfl rfl rfl) (dQ 38 (.int .u64 ((x0 * y1 : Nat) : Int)) (iE (lE x0 y1 ba01)) (aU rfl rfl rfl (fun _ => cA (.int _ _) rfl rfl rfl) ?_))))
 refine dQ 39 (.int .u64 ((0 + x0 * y1 : Nat) : Int)) (iE (kX (0) (x0 * y1) bb01)) (eB rfl rfl rfl (aU rfl rfl rfl (fun _ => cA (.int _ _) rfl rfl rfl) (dQ 41 (.int .u64 (t01 : Int)) (iE ((kX (0 + x0 * y1) (t00 / 65536) bc01).trans (congrArg _ ht01.symm))) (mG rfl rfl rfl (bX ?_)))))
 refine aC (aE (aA (aP rfl rfl (aP rfl rfl (wq (aY rfl rfl (by first | decide | omega) (by first | decide | omega)) rfl (aK 44 (.int .i64 1) (iE (by first | decide | omega)) (aP rfl rfl ?_)))))))
 refine wq (iK rfl rfl (by decide)) rfl (aK 46 (.int .u64 ((t01 % 65536 : Nat) : Int)) (iE (jH t01 65536)) (wq (aD 0 bU rfl) rfl (wq (bZ (1) cX rfl rfl rfl (by decide)) rfl (dB 3 (.int _ _) cQ M13 rfl rfl rfl rfl rfl rfl (fun w14 M14 => (aB (aC (aA ?_))))))))
 refine aP rfl rfl (wq (fZ rfl rfl (by decide)) rfl (aK 50 (.int .u64 ((t01 / 65536 : Nat) : Int)) (iE (iQ t01 65536 bd01)) (bH rfl rfl (aB (cT ?_)))))
 refine aC (aA (aP rfl rfl (wq (aY rfl rfl (by first | decide | omega) (by first | decide | omega)) rfl (aK 23 (.int .i64 2) (iE (by first | decide | omega)) (bH rfl rfl (aB ?_))))))
 refine aC (fI (eC (fr := [(4, .pointer _), (5, .pointer _), (6, .pointer _), (7, .pointer _), (8, .int .i64 0), (9, .int _ _), (10, .int .i64 2), (11, .int _ _), (16, .int .i64 0), (17, .bool true)]) (bB rfl (bB rfl (bB rfl (bB rfl (bB rfl (bB rfl (bB rfl (bB rfl (bB rfl (bB rfl dZ)))))))))) (fun ρ15 => ?_)))
 have M16 : Mem _ _ [_, _, _, (some _, bc [.int .u64 ((t00 % 65536 : Nat) : Int), .int .u64 ((t01 % 65536 : Nat) : Int), .int .u64 0, .int .u64 0, .int .u64 0, .int .u64 0, .int .u64 0, .int .u64 0] 344)] _ := M14
 refine aE (aE (aA (aP rfl rfl (cY rfl rfl rfl rfl (kH 21 rfl (by first | decide | omega) (aB (aC (cE rfl ?_))))))))
 refine aL (aC (aE (aQ (aE (bR [(0, 0), (1, 0), (2, 0), (3, 0), (4, 0), (5, 1), (6, 0), (7, 0), (8, 0), (9, 1), (10, 0), (11, 0), (12, 0), (13, 1), (14, 0), (15, 0), (16, 0), (17, 0), (18, 0)] mixed rfl (by kernel_rfl) (fun w17 hb17 hh17 => ?_))))))
 have M17 := M16.drew hb17 hh17
 obtain ⟨t02, ht02, ba02, bb02, bc02, bd02, be02⟩ := fX (z := 0) (c := t01 / 65536) (x := x0) (y := y2) (by decide) be01 hx0 hy2
 refine eB rfl rfl rfl (eB rfl rfl rfl (aU rfl rfl rfl (fun _ => aY rfl rfl (by first | decide | omega) (by first | decide | omega)) (aU rfl rfl rfl (fun _ => aD 0 bU rfl) (aU rfl rfl rfl (fun _ => bZ (2) cX rfl rfl rfl (by decide)) (bS rfl rfl rfl (aM 3 (.int _ _) cQ M17 rfl rfl rfl) ?_)))))
 refine eB rfl rfl rfl (aU rfl rfl rfl (fun _ => aD 0 bU rfl) (aU rfl rfl rfl (fun _ => bZ (0) cX rfl rfl rfl (by decide)) (bS rfl rfl rfl (aM 1 (.int _ _) cQ M17 rfl rfl rfl) (eB rfl rfl rfl (aU rfl rfl rfl (fun _ => aD 0 bU rfl) ?_)))))
 refine aU rfl rfl rfl (fun _ => bZ (2) cX rfl rfl rfl (by decide)) (bS rfl rfl rfl (aM 2 (.int _ _) cQ M17 rfl rfl rfl) (aU rfl rfl rfl (fun _ => cA (.int _ _) rfl rfl rfl) (dQ 38 (.int .u64 ((x0 * y2 : Nat) : Int)) (iE (lE x0 y2 ba02)) (aU rfl rfl rfl (fun _ => cA (.int _ _) rfl rfl rfl) ?_))))
 refine dQ 39 (.int .u64 ((0 + x0 * y2 : Nat) : Int)) (iE (kX (0) (x0 * y2) bb02)) (eB rfl rfl rfl (aU rfl rfl rfl (fun _ => cA (.int _ _) rfl rfl rfl) (dQ 41 (.int .u64 (t02 : Int)) (iE ((kX (0 + x0 * y2) (t01 / 65536) bc02).trans (congrArg _ ht02.symm))) (mG rfl rfl rfl (bX ?_)))))
 refine aC (aE (aA (aP rfl rfl (aP rfl rfl (wq (aY rfl rfl (by first | decide | omega) (by first | decide | omega)) rfl (aK 44 (.int .i64 2) (iE (by first | decide | omega)) (aP rfl rfl ?_)))))))
 refine wq (iK rfl rfl (by decide)) rfl (aK 46 (.int .u64 ((t02 % 65536 : Nat) : Int)) (iE (jH t02 65536)) (wq (aD 0 bU rfl) rfl (wq (bZ (2) cX rfl rfl rfl (by decide)) rfl (dB 3 (.int _ _) cQ M17 rfl rfl rfl rfl rfl rfl (fun w18 M18 => (aB (aC (aA ?_))))))))
 refine aP rfl rfl (wq (fZ rfl rfl (by decide)) rfl (aK 50 (.int .u64 ((t02 / 65536 : Nat) : Int)) (iE (iQ t02 65536 bd02)) (bH rfl rfl (aB (cT ?_)))))
 refine aC (aA (aP rfl rfl (wq (aY rfl rfl (by first | decide | omega) (by first | decide | omega)) rfl (aK 23 (.int .i64 3) (iE (by first | decide | omega)) (bH rfl rfl (aB ?_))))))
 refine aC (fI (eC (fr := [(4, .pointer _), (5, .pointer _), (6, .pointer _), (7, .pointer _), (8, .int .i64 0), (9, .int _ _), (10, .int .i64 3), (11, .int _ _), (16, .int .i64 0), (17, .bool true)]) (bB rfl (bB rfl (bB rfl (bB rfl (bB rfl (bB rfl (bB rfl (bB rfl (bB rfl (bB rfl dZ)))))))))) (fun ρ19 => ?_)))
 have M20 : Mem _ _ [_, _, _, (some _, bc [.int .u64 ((t00 % 65536 : Nat) : Int), .int .u64 ((t01 % 65536 : Nat) : Int), .int .u64 ((t02 % 65536 : Nat) : Int), .int .u64 0, .int .u64 0, .int .u64 0, .int .u64 0, .int .u64 0] 344)] _ := M18
 refine aE (aE (aA (aP rfl rfl (cY rfl rfl rfl rfl (kH 21 rfl (by first | decide | omega) (aB (aC (cE rfl ?_))))))))
 refine aL (aC (aE (aQ (aE (bR [(0, 0), (1, 0), (2, 0), (3, 0), (4, 0), (5, 1), (6, 0), (7, 0), (8, 0), (9, 1), (10, 0), (11, 0), (12, 0), (13, 1), (14, 0), (15, 0), (16, 0), (17, 0), (18, 0)] mixed rfl (by kernel_rfl) (fun w21 hb21 hh21 => ?_))))))
 have M21 := M20.drew hb21 hh21
 obtain ⟨t03, ht03, ba03, bb03, bc03, bd03, be03⟩ := fX (z := 0) (c := t02 / 65536) (x := x0) (y := y3) (by decide) be02 hx0 hy3
 refine eB rfl rfl rfl (eB rfl rfl rfl (aU rfl rfl rfl (fun _ => aY rfl rfl (by first | decide | omega) (by first | decide | omega)) (aU rfl rfl rfl (fun _ => aD 0 bU rfl) (aU rfl rfl rfl (fun _ => bZ (3) cX rfl rfl rfl (by decide)) (bS rfl rfl rfl (aM 3 (.int _ _) cQ M21 rfl rfl rfl) ?_)))))
 refine eB rfl rfl rfl (aU rfl rfl rfl (fun _ => aD 0 bU rfl) (aU rfl rfl rfl (fun _ => bZ (0) cX rfl rfl rfl (by decide)) (bS rfl rfl rfl (aM 1 (.int _ _) cQ M21 rfl rfl rfl) (eB rfl rfl rfl (aU rfl rfl rfl (fun _ => aD 0 bU rfl) ?_)))))
 refine aU rfl rfl rfl (fun _ => bZ (3) cX rfl rfl rfl (by decide)) (bS rfl rfl rfl (aM 2 (.int _ _) cQ M21 rfl rfl rfl) (aU rfl rfl rfl (fun _ => cA (.int _ _) rfl rfl rfl) (dQ 38 (.int .u64 ((x0 * y3 : Nat) : Int)) (iE (lE x0 y3 ba03)) (aU rfl rfl rfl (fun _ => cA (.int _ _) rfl rfl rfl) ?_))))
 refine dQ 39 (.int .u64 ((0 + x0 * y3 : Nat) : Int)) (iE (kX (0) (x0 * y3) bb03)) (eB rfl rfl rfl (aU rfl rfl rfl (fun _ => cA (.int _ _) rfl rfl rfl) (dQ 41 (.int .u64 (t03 : Int)) (iE ((kX (0 + x0 * y3) (t02 / 65536) bc03).trans (congrArg _ ht03.symm))) (mG rfl rfl rfl (bX ?_)))))
 refine aC (aE (aA (aP rfl rfl (aP rfl rfl (wq (aY rfl rfl (by first | decide | omega) (by first | decide | omega)) rfl (aK 44 (.int .i64 3) (iE (by first | decide | omega)) (aP rfl rfl ?_)))))))
 refine wq (iK rfl rfl (by decide)) rfl (aK 46 (.int .u64 ((t03 % 65536 : Nat) : Int)) (iE (jH t03 65536)) (wq (aD 0 bU rfl) rfl (wq (bZ (3) cX rfl rfl rfl (by decide)) rfl (dB 3 (.int _ _) cQ M21 rfl rfl rfl rfl rfl rfl (fun w22 M22 => (aB (aC (aA ?_))))))))
 refine aP rfl rfl (wq (fZ rfl rfl (by decide)) rfl (aK 50 (.int .u64 ((t03 / 65536 : Nat) : Int)) (iE (iQ t03 65536 bd03)) (bH rfl rfl (aB (cT ?_)))))
 refine aC (aA (aP rfl rfl (wq (aY rfl rfl (by first | decide | omega) (by first | decide | omega)) rfl (aK 23 (.int .i64 4) (iE (by first | decide | omega)) (bH rfl rfl (aB ?_))))))
 refine aC (fI (eC (fr := [(4, .pointer _), (5, .pointer _), (6, .pointer _), (7, .pointer _), (8, .int .i64 0), (9, .int _ _), (10, .int .i64 4), (11, .int _ _), (16, .int .i64 0), (17, .bool true)]) (bB rfl (bB rfl (bB rfl (bB rfl (bB rfl (bB rfl (bB rfl (bB rfl (bB rfl (bB rfl dZ)))))))))) (fun ρ23 => ?_)))
 have M24 : Mem _ _ [_, _, _, (some _, bc [.int .u64 ((t00 % 65536 : Nat) : Int), .int .u64 ((t01 % 65536 : Nat) : Int), .int .u64 ((t02 % 65536 : Nat) : Int), .int .u64 ((t03 % 65536 : Nat) : Int), .int .u64 0, .int .u64 0, .int .u64 0, .int .u64 0] 344)] _ := M22
 refine aE (aE (aA (aP rfl rfl (cY rfl rfl rfl rfl (oG 21 rfl (by first | decide | omega) (aB (aC (cJ rfl ?_))))))))
 refine cW (dE (dE (eS (aC (aA (aP rfl rfl (wq (aY rfl rfl (by first | decide | omega) (by first | decide | omega)) rfl ?_)))))))
 refine aK 52 (.int .i64 4) (iE (by first | decide | omega)) (aP rfl rfl (wq (aD 0 bU rfl) rfl (wq (bZ (4) cX rfl rfl rfl (by decide)) rfl (dB 3 (.int _ _) cQ M24 rfl rfl rfl rfl rfl rfl (fun w25 M25 => (aB ?_))))))
 refine cT (aC (aA (aP rfl rfl (wq (aY rfl rfl (by first | decide | omega) (by first | decide | omega)) rfl (aK 19 (.int .i64 1) (iE (by first | decide | omega)) (bH rfl rfl ?_))))))
 refine aB (aC (fI (eC (fr := [(4, .pointer _), (5, .pointer _), (6, .pointer _), (7, .pointer _), (8, .int .i64 1), (9, .int _ _), (10, .int .i64 4), (11, .int _ _)]) (bB rfl (bB rfl (bB rfl (bB rfl (bB rfl (bB rfl (bB rfl (bB rfl dZ)))))))) (fun ρ26 => ?_))))
 have M27 : Mem _ _ [_, _, _, (some _, bc [.int .u64 ((t00 % 65536 : Nat) : Int), .int .u64 ((t01 % 65536 : Nat) : Int), .int .u64 ((t02 % 65536 : Nat) : Int), .int .u64 ((t03 % 65536 : Nat) : Int), .int .u64 ((t03 / 65536 : Nat) : Int), .int .u64 0, .int .u64 0, .int .u64 0] 344)] _ := M25
 refine aE (aE (aA (aP rfl rfl (cY rfl rfl rfl rfl (kH 17 rfl (by first | decide | omega) (aB (aC (cE rfl ?_))))))))
 refine aL (aC (aE (aQ (aE (aA (bH rfl rfl (aB (aC (aE (aE (aA (bH rfl rfl (aB (aC (aQ (iU 5 (fI ?_)))))))))))))))))
 refine aE (aE (aA (aP rfl rfl (cY rfl rfl rfl rfl (kH 21 rfl (by first | decide | omega) (aB (aC (cE rfl ?_))))))))
 refine aL (aC (aE (aQ (aE (bR [(0, 0), (1, 0), (2, 0), (3, 0), (4, 0), (5, 1), (6, 0), (7, 0), (8, 0), (9, 1), (10, 0), (11, 0), (12, 0), (13, 1), (14, 0), (15, 0), (16, 0), (17, 0), (18, 0)] mixed rfl (by kernel_rfl) (fun w28 hb28 hh28 => ?_))))))
 have M28 := M27.drew hb28 hh28
 obtain ⟨t10, ht10, ba10, bb10, bc10, bd10, be10⟩ := fX (z := t01 % 65536) (c := 0) (x := x1) (y := y0) (Nat.mod_lt _ (by decide)) (by decide) hx1 hy0
 refine eB rfl rfl rfl (eB rfl rfl rfl (aU rfl rfl rfl (fun _ => aY rfl rfl (by first | decide | omega) (by first | decide | omega)) (aU rfl rfl rfl (fun _ => aD 0 bU rfl) (aU rfl rfl rfl (fun _ => bZ (1) cX rfl rfl rfl (by decide)) (bS rfl rfl rfl (aM 3 (.int _ _) cQ M28 rfl rfl rfl) ?_)))))
 refine eB rfl rfl rfl (aU rfl rfl rfl (fun _ => aD 0 bU rfl) (aU rfl rfl rfl (fun _ => bZ (1) cX rfl rfl rfl (by decide)) (bS rfl rfl rfl (aM 1 (.int _ _) cQ M28 rfl rfl rfl) (eB rfl rfl rfl (aU rfl rfl rfl (fun _ => aD 0 bU rfl) ?_)))))
 refine aU rfl rfl rfl (fun _ => bZ (0) cX rfl rfl rfl (by decide)) (bS rfl rfl rfl (aM 2 (.int _ _) cQ M28 rfl rfl rfl) (aU rfl rfl rfl (fun _ => cA (.int _ _) rfl rfl rfl) (dQ 38 (.int .u64 ((x1 * y0 : Nat) : Int)) (iE (lE x1 y0 ba10)) (aU rfl rfl rfl (fun _ => cA (.int _ _) rfl rfl rfl) ?_))))
 refine dQ 39 (.int .u64 ((t01 % 65536 + x1 * y0 : Nat) : Int)) (iE (kX (t01 % 65536) (x1 * y0) bb10)) (eB rfl rfl rfl (aU rfl rfl rfl (fun _ => cA (.int _ _) rfl rfl rfl) (dQ 41 (.int .u64 (t10 : Int)) (iE ((kX (t01 % 65536 + x1 * y0) (0) bc10).trans (congrArg _ ht10.symm))) (mG rfl rfl rfl (bX ?_)))))
 refine aC (aE (aA (aP rfl rfl (aP rfl rfl (wq (aY rfl rfl (by first | decide | omega) (by first | decide | omega)) rfl (aK 44 (.int .i64 1) (iE (by first | decide | omega)) (aP rfl rfl ?_)))))))
 refine wq (iK rfl rfl (by decide)) rfl (aK 46 (.int .u64 ((t10 % 65536 : Nat) : Int)) (iE (jH t10 65536)) (wq (aD 0 bU rfl) rfl (wq (bZ (1) cX rfl rfl rfl (by decide)) rfl (dB 3 (.int _ _) cQ M28 rfl rfl rfl rfl rfl rfl (fun w29 M29 => (aB (aC (aA ?_))))))))
 refine aP rfl rfl (wq (fZ rfl rfl (by decide)) rfl (aK 50 (.int .u64 ((t10 / 65536 : Nat) : Int)) (iE (iQ t10 65536 bd10)) (bH rfl rfl (aB (cT ?_)))))
 refine aC (aA (aP rfl rfl (wq (aY rfl rfl (by first | decide | omega) (by first | decide | omega)) rfl (aK 23 (.int .i64 1) (iE (by first | decide | omega)) (bH rfl rfl (aB ?_))))))
 refine aC (fI (eC (fr := [(4, .pointer _), (5, .pointer _), (6, .pointer _), (7, .pointer _), (8, .int .i64 1), (9, .int _ _), (10, .int .i64 1), (11, .int _ _), (16, .int .i64 1), (17, .bool true)]) (bB rfl (bB rfl (bB rfl (bB rfl (bB rfl (bB rfl (bB rfl (bB rfl (bB rfl (bB rfl dZ)))))))))) (fun ρ30 => ?_)))
 have M31 : Mem _ _ [_, _, _, (some _, bc [.int .u64 ((t00 % 65536 : Nat) : Int), .int .u64 ((t10 % 65536 : Nat) : Int), .int .u64 ((t02 % 65536 : Nat) : Int), .int .u64 ((t03 % 65536 : Nat) : Int), .int .u64 ((t03 / 65536 : Nat) : Int), .int .u64 0, .int .u64 0, .int .u64 0] 344)] _ := M29
 refine aE (aE (aA (aP rfl rfl (cY rfl rfl rfl rfl (kH 21 rfl (by first | decide | omega) (aB (aC (cE rfl ?_))))))))
 refine aL (aC (aE (aQ (aE (bR [(0, 0), (1, 0), (2, 0), (3, 0), (4, 0), (5, 1), (6, 0), (7, 0), (8, 0), (9, 1), (10, 0), (11, 0), (12, 0), (13, 1), (14, 0), (15, 0), (16, 0), (17, 0), (18, 0)] mixed rfl (by kernel_rfl) (fun w32 hb32 hh32 => ?_))))))
 have M32 := M31.drew hb32 hh32
 obtain ⟨t11, ht11, ba11, bb11, bc11, bd11, be11⟩ := fX (z := t02 % 65536) (c := t10 / 65536) (x := x1) (y := y1) (Nat.mod_lt _ (by decide)) be10 hx1 hy1
 refine eB rfl rfl rfl (eB rfl rfl rfl (aU rfl rfl rfl (fun _ => aY rfl rfl (by first | decide | omega) (by first | decide | omega)) (aU rfl rfl rfl (fun _ => aD 0 bU rfl) (aU rfl rfl rfl (fun _ => bZ (2) cX rfl rfl rfl (by decide)) (bS rfl rfl rfl (aM 3 (.int _ _) cQ M32 rfl rfl rfl) ?_)))))
 refine eB rfl rfl rfl (aU rfl rfl rfl (fun _ => aD 0 bU rfl) (aU rfl rfl rfl (fun _ => bZ (1) cX rfl rfl rfl (by decide)) (bS rfl rfl rfl (aM 1 (.int _ _) cQ M32 rfl rfl rfl) (eB rfl rfl rfl (aU rfl rfl rfl (fun _ => aD 0 bU rfl) ?_)))))
 refine aU rfl rfl rfl (fun _ => bZ (1) cX rfl rfl rfl (by decide)) (bS rfl rfl rfl (aM 2 (.int _ _) cQ M32 rfl rfl rfl) (aU rfl rfl rfl (fun _ => cA (.int _ _) rfl rfl rfl) (dQ 38 (.int .u64 ((x1 * y1 : Nat) : Int)) (iE (lE x1 y1 ba11)) (aU rfl rfl rfl (fun _ => cA (.int _ _) rfl rfl rfl) ?_))))
 refine dQ 39 (.int .u64 ((t02 % 65536 + x1 * y1 : Nat) : Int)) (iE (kX (t02 % 65536) (x1 * y1) bb11)) (eB rfl rfl rfl (aU rfl rfl rfl (fun _ => cA (.int _ _) rfl rfl rfl) (dQ 41 (.int .u64 (t11 : Int)) (iE ((kX (t02 % 65536 + x1 * y1) (t10 / 65536) bc11).trans (congrArg _ ht11.symm))) (mG rfl rfl rfl ?_))))
 refine bX (aC (aE (aA (aP rfl rfl (aP rfl rfl (wq (aY rfl rfl (by first | decide | omega) (by first | decide | omega)) rfl (aK 44 (.int .i64 2) (iE (by first | decide | omega)) ?_)))))))
 refine aP rfl rfl (wq (iK rfl rfl (by decide)) rfl (aK 46 (.int .u64 ((t11 % 65536 : Nat) : Int)) (iE (jH t11 65536)) (wq (aD 0 bU rfl) rfl (wq (bZ (2) cX rfl rfl rfl (by decide)) rfl (dB 3 (.int _ _) cQ M32 rfl rfl rfl rfl rfl rfl (fun w33 M33 => ?_))))))
 refine aB (aC (aA (aP rfl rfl (wq (fZ rfl rfl (by decide)) rfl (aK 50 (.int .u64 ((t11 / 65536 : Nat) : Int)) (iE (iQ t11 65536 bd11)) (bH rfl rfl (aB ?_)))))))
 refine cT (aC (aA (aP rfl rfl (wq (aY rfl rfl (by first | decide | omega) (by first | decide | omega)) rfl (aK 23 (.int .i64 2) (iE (by first | decide | omega)) (bH rfl rfl ?_))))))
 refine aB (aC (fI (eC (fr := [(4, .pointer _), (5, .pointer _), (6, .pointer _), (7, .pointer _), (8, .int .i64 1), (9, .int _ _), (10, .int .i64 2), (11, .int _ _), (16, .int .i64 1), (17, .bool true)]) (bB rfl (bB rfl (bB rfl (bB rfl (bB rfl (bB rfl (bB rfl (bB rfl (bB rfl (bB rfl dZ)))))))))) (fun ρ34 => ?_))))
 have M35 : Mem _ _ [_, _, _, (some _, bc [.int .u64 ((t00 % 65536 : Nat) : Int), .int .u64 ((t10 % 65536 : Nat) : Int), .int .u64 ((t11 % 65536 : Nat) : Int), .int .u64 ((t03 % 65536 : Nat) : Int), .int .u64 ((t03 / 65536 : Nat) : Int), .int .u64 0, .int .u64 0, .int .u64 0] 344)] _ := M33
 refine aE (aE (aA (aP rfl rfl (cY rfl rfl rfl rfl (kH 21 rfl (by first | decide | omega) (aB (aC (cE rfl ?_))))))))
 refine aL (aC (aE (aQ (aE (bR [(0, 0), (1, 0), (2, 0), (3, 0), (4, 0), (5, 1), (6, 0), (7, 0), (8, 0), (9, 1), (10, 0), (11, 0), (12, 0), (13, 1), (14, 0), (15, 0), (16, 0), (17, 0), (18, 0)] mixed rfl (by kernel_rfl) (fun w36 hb36 hh36 => ?_))))))
 have M36 := M35.drew hb36 hh36
 obtain ⟨t12, ht12, ba12, bb12, bc12, bd12, be12⟩ := fX (z := t03 % 65536) (c := t11 / 65536) (x := x1) (y := y2) (Nat.mod_lt _ (by decide)) be11 hx1 hy2
 refine eB rfl rfl rfl (eB rfl rfl rfl (aU rfl rfl rfl (fun _ => aY rfl rfl (by first | decide | omega) (by first | decide | omega)) (aU rfl rfl rfl (fun _ => aD 0 bU rfl) (aU rfl rfl rfl (fun _ => bZ (3) cX rfl rfl rfl (by decide)) (bS rfl rfl rfl (aM 3 (.int _ _) cQ M36 rfl rfl rfl) ?_)))))
 refine eB rfl rfl rfl (aU rfl rfl rfl (fun _ => aD 0 bU rfl) (aU rfl rfl rfl (fun _ => bZ (1) cX rfl rfl rfl (by decide)) (bS rfl rfl rfl (aM 1 (.int _ _) cQ M36 rfl rfl rfl) (eB rfl rfl rfl (aU rfl rfl rfl (fun _ => aD 0 bU rfl) ?_)))))
 refine aU rfl rfl rfl (fun _ => bZ (2) cX rfl rfl rfl (by decide)) (bS rfl rfl rfl (aM 2 (.int _ _) cQ M36 rfl rfl rfl) (aU rfl rfl rfl (fun _ => cA (.int _ _) rfl rfl rfl) (dQ 38 (.int .u64 ((x1 * y2 : Nat) : Int)) (iE (lE x1 y2 ba12)) (aU rfl rfl rfl (fun _ => cA (.int _ _) rfl rfl rfl) ?_))))
 refine dQ 39 (.int .u64 ((t03 % 65536 + x1 * y2 : Nat) : Int)) (iE (kX (t03 % 65536) (x1 * y2) bb12)) (eB rfl rfl rfl (aU rfl rfl rfl (fun _ => cA (.int _ _) rfl rfl rfl) (dQ 41 (.int .u64 (t12 : Int)) (iE ((kX (t03 % 65536 + x1 * y2) (t11 / 65536) bc12).trans (congrArg _ ht12.symm))) (mG rfl rfl rfl ?_))))
 refine bX (aC (aE (aA (aP rfl rfl (aP rfl rfl (wq (aY rfl rfl (by first | decide | omega) (by first | decide | omega)) rfl (aK 44 (.int .i64 3) (iE (by first | decide | omega)) ?_)))))))
 refine aP rfl rfl (wq (iK rfl rfl (by decide)) rfl (aK 46 (.int .u64 ((t12 % 65536 : Nat) : Int)) (iE (jH t12 65536)) (wq (aD 0 bU rfl) rfl (wq (bZ (3) cX rfl rfl rfl (by decide)) rfl (dB 3 (.int _ _) cQ M36 rfl rfl rfl rfl rfl rfl (fun w37 M37 => ?_))))))
 refine aB (aC (aA (aP rfl rfl (wq (fZ rfl rfl (by decide)) rfl (aK 50 (.int .u64 ((t12 / 65536 : Nat) : Int)) (iE (iQ t12 65536 bd12)) (bH rfl rfl (aB ?_)))))))
 refine cT (aC (aA (aP rfl rfl (wq (aY rfl rfl (by first | decide | omega) (by first | decide | omega)) rfl (aK 23 (.int .i64 3) (iE (by first | decide | omega)) (bH rfl rfl ?_))))))
 refine aB (aC (fI (eC (fr := [(4, .pointer _), (5, .pointer _), (6, .pointer _), (7, .pointer _), (8, .int .i64 1), (9, .int _ _), (10, .int .i64 3), (11, .int _ _), (16, .int .i64 1), (17, .bool true)]) (bB rfl (bB rfl (bB rfl (bB rfl (bB rfl (bB rfl (bB rfl (bB rfl (bB rfl (bB rfl dZ)))))))))) (fun ρ38 => ?_))))
 have M39 : Mem _ _ [_, _, _, (some _, bc [.int .u64 ((t00 % 65536 : Nat) : Int), .int .u64 ((t10 % 65536 : Nat) : Int), .int .u64 ((t11 % 65536 : Nat) : Int), .int .u64 ((t12 % 65536 : Nat) : Int), .int .u64 ((t03 / 65536 : Nat) : Int), .int .u64 0, .int .u64 0, .int .u64 0] 344)] _ := M37
 refine aE (aE (aA (aP rfl rfl (cY rfl rfl rfl rfl (kH 21 rfl (by first | decide | omega) (aB (aC (cE rfl ?_))))))))
 refine aL (aC (aE (aQ (aE (bR [(0, 0), (1, 0), (2, 0), (3, 0), (4, 0), (5, 1), (6, 0), (7, 0), (8, 0), (9, 1), (10, 0), (11, 0), (12, 0), (13, 1), (14, 0), (15, 0), (16, 0), (17, 0), (18, 0)] mixed rfl (by kernel_rfl) (fun w40 hb40 hh40 => ?_))))))
 have M40 := M39.drew hb40 hh40
 obtain ⟨t13, ht13, ba13, bb13, bc13, bd13, be13⟩ := fX (z := t03 / 65536) (c := t12 / 65536) (x := x1) (y := y3) be03 be12 hx1 hy3
 refine eB rfl rfl rfl (eB rfl rfl rfl (aU rfl rfl rfl (fun _ => aY rfl rfl (by first | decide | omega) (by first | decide | omega)) (aU rfl rfl rfl (fun _ => aD 0 bU rfl) (aU rfl rfl rfl (fun _ => bZ (4) cX rfl rfl rfl (by decide)) (bS rfl rfl rfl (aM 3 (.int _ _) cQ M40 rfl rfl rfl) ?_)))))
 refine eB rfl rfl rfl (aU rfl rfl rfl (fun _ => aD 0 bU rfl) (aU rfl rfl rfl (fun _ => bZ (1) cX rfl rfl rfl (by decide)) (bS rfl rfl rfl (aM 1 (.int _ _) cQ M40 rfl rfl rfl) (eB rfl rfl rfl (aU rfl rfl rfl (fun _ => aD 0 bU rfl) ?_)))))
 refine aU rfl rfl rfl (fun _ => bZ (3) cX rfl rfl rfl (by decide)) (bS rfl rfl rfl (aM 2 (.int _ _) cQ M40 rfl rfl rfl) (aU rfl rfl rfl (fun _ => cA (.int _ _) rfl rfl rfl) (dQ 38 (.int .u64 ((x1 * y3 : Nat) : Int)) (iE (lE x1 y3 ba13)) (aU rfl rfl rfl (fun _ => cA (.int _ _) rfl rfl rfl) ?_))))
 refine dQ 39 (.int .u64 ((t03 / 65536 + x1 * y3 : Nat) : Int)) (iE (kX (t03 / 65536) (x1 * y3) bb13)) (eB rfl rfl rfl (aU rfl rfl rfl (fun _ => cA (.int _ _) rfl rfl rfl) (dQ 41 (.int .u64 (t13 : Int)) (iE ((kX (t03 / 65536 + x1 * y3) (t12 / 65536) bc13).trans (congrArg _ ht13.symm))) (mG rfl rfl rfl ?_))))
 refine bX (aC (aE (aA (aP rfl rfl (aP rfl rfl (wq (aY rfl rfl (by first | decide | omega) (by first | decide | omega)) rfl (aK 44 (.int .i64 4) (iE (by first | decide | omega)) ?_)))))))
 refine aP rfl rfl (wq (iK rfl rfl (by decide)) rfl (aK 46 (.int .u64 ((t13 % 65536 : Nat) : Int)) (iE (jH t13 65536)) (wq (aD 0 bU rfl) rfl (wq (bZ (4) cX rfl rfl rfl (by decide)) rfl (dB 3 (.int _ _) cQ M40 rfl rfl rfl rfl rfl rfl (fun w41 M41 => ?_))))))
 refine aB (aC (aA (aP rfl rfl (wq (fZ rfl rfl (by decide)) rfl (aK 50 (.int .u64 ((t13 / 65536 : Nat) : Int)) (iE (iQ t13 65536 bd13)) (bH rfl rfl (aB ?_)))))))
 refine cT (aC (aA (aP rfl rfl (wq (aY rfl rfl (by first | decide | omega) (by first | decide | omega)) rfl (aK 23 (.int .i64 4) (iE (by first | decide | omega)) (bH rfl rfl ?_))))))
 refine aB (aC (fI (eC (fr := [(4, .pointer _), (5, .pointer _), (6, .pointer _), (7, .pointer _), (8, .int .i64 1), (9, .int _ _), (10, .int .i64 4), (11, .int _ _), (16, .int .i64 1), (17, .bool true)]) (bB rfl (bB rfl (bB rfl (bB rfl (bB rfl (bB rfl (bB rfl (bB rfl (bB rfl (bB rfl dZ)))))))))) (fun ρ42 => ?_))))
 have M43 : Mem _ _ [_, _, _, (some _, bc [.int .u64 ((t00 % 65536 : Nat) : Int), .int .u64 ((t10 % 65536 : Nat) : Int), .int .u64 ((t11 % 65536 : Nat) : Int), .int .u64 ((t12 % 65536 : Nat) : Int), .int .u64 ((t13 % 65536 : Nat) : Int), .int .u64 0, .int .u64 0, .int .u64 0] 344)] _ := M41
 refine aE (aE (aA (aP rfl rfl (cY rfl rfl rfl rfl (oG 21 rfl (by first | decide | omega) (aB (aC (cJ rfl ?_))))))))
 refine cW (dE (dE (eS (aC (aA (aP rfl rfl (wq (aY rfl rfl (by first | decide | omega) (by first | decide | omega)) rfl ?_)))))))
 refine aK 52 (.int .i64 5) (iE (by first | decide | omega)) (aP rfl rfl (wq (aD 0 bU rfl) rfl (wq (bZ (5) cX rfl rfl rfl (by decide)) rfl (dB 3 (.int _ _) cQ M43 rfl rfl rfl rfl rfl rfl (fun w44 M44 => (aB ?_))))))
 refine cT (aC (aA (aP rfl rfl (wq (aY rfl rfl (by first | decide | omega) (by first | decide | omega)) rfl (aK 19 (.int .i64 2) (iE (by first | decide | omega)) (bH rfl rfl ?_))))))
 refine aB (aC (fI (eC (fr := [(4, .pointer _), (5, .pointer _), (6, .pointer _), (7, .pointer _), (8, .int .i64 2), (9, .int _ _), (10, .int .i64 4), (11, .int _ _)]) (bB rfl (bB rfl (bB rfl (bB rfl (bB rfl (bB rfl (bB rfl (bB rfl dZ)))))))) (fun ρ45 => ?_))))
 have M46 : Mem _ _ [_, _, _, (some _, bc [.int .u64 ((t00 % 65536 : Nat) : Int), .int .u64 ((t10 % 65536 : Nat) : Int), .int .u64 ((t11 % 65536 : Nat) : Int), .int .u64 ((t12 % 65536 : Nat) : Int), .int .u64 ((t13 % 65536 : Nat) : Int), .int .u64 ((t13 / 65536 : Nat) : Int), .int .u64 0, .int .u64 0] 344)] _ := M44
 refine aE (aE (aA (aP rfl rfl (cY rfl rfl rfl rfl (kH 17 rfl (by first | decide | omega) (aB (aC (cE rfl ?_))))))))
 refine aL (aC (aE (aQ (aE (aA (bH rfl rfl (aB (aC (aE (aE (aA (bH rfl rfl (aB (aC (aQ (iU 5 (fI ?_)))))))))))))))))
 refine aE (aE (aA (aP rfl rfl (cY rfl rfl rfl rfl (kH 21 rfl (by first | decide | omega) (aB (aC (cE rfl ?_))))))))
 refine aL (aC (aE (aQ (aE (bR [(0, 0), (1, 0), (2, 0), (3, 0), (4, 0), (5, 1), (6, 0), (7, 0), (8, 0), (9, 1), (10, 0), (11, 0), (12, 0), (13, 1), (14, 0), (15, 0), (16, 0), (17, 0), (18, 0)] mixed rfl (by kernel_rfl) (fun w47 hb47 hh47 => ?_))))))
 have M47 := M46.drew hb47 hh47
 obtain ⟨t20, ht20, ba20, bb20, bc20, bd20, be20⟩ := fX (z := t11 % 65536) (c := 0) (x := x2) (y := y0) (Nat.mod_lt _ (by decide)) (by decide) hx2 hy0
 refine eB rfl rfl rfl (eB rfl rfl rfl (aU rfl rfl rfl (fun _ => aY rfl rfl (by first | decide | omega) (by first | decide | omega)) (aU rfl rfl rfl (fun _ => aD 0 bU rfl) (aU rfl rfl rfl (fun _ => bZ (2) cX rfl rfl rfl (by decide)) (bS rfl rfl rfl (aM 3 (.int _ _) cQ M47 rfl rfl rfl) ?_)))))
 refine eB rfl rfl rfl (aU rfl rfl rfl (fun _ => aD 0 bU rfl) (aU rfl rfl rfl (fun _ => bZ (2) cX rfl rfl rfl (by decide)) (bS rfl rfl rfl (aM 1 (.int _ _) cQ M47 rfl rfl rfl) (eB rfl rfl rfl (aU rfl rfl rfl (fun _ => aD 0 bU rfl) ?_)))))
 refine aU rfl rfl rfl (fun _ => bZ (0) cX rfl rfl rfl (by decide)) (bS rfl rfl rfl (aM 2 (.int _ _) cQ M47 rfl rfl rfl) (aU rfl rfl rfl (fun _ => cA (.int _ _) rfl rfl rfl) (dQ 38 (.int .u64 ((x2 * y0 : Nat) : Int)) (iE (lE x2 y0 ba20)) (aU rfl rfl rfl (fun _ => cA (.int _ _) rfl rfl rfl) ?_))))
 refine dQ 39 (.int .u64 ((t11 % 65536 + x2 * y0 : Nat) : Int)) (iE (kX (t11 % 65536) (x2 * y0) bb20)) (eB rfl rfl rfl (aU rfl rfl rfl (fun _ => cA (.int _ _) rfl rfl rfl) (dQ 41 (.int .u64 (t20 : Int)) (iE ((kX (t11 % 65536 + x2 * y0) (0) bc20).trans (congrArg _ ht20.symm))) (mG rfl rfl rfl (bX ?_)))))
 refine aC (aE (aA (aP rfl rfl (aP rfl rfl (wq (aY rfl rfl (by first | decide | omega) (by first | decide | omega)) rfl (aK 44 (.int .i64 2) (iE (by first | decide | omega)) (aP rfl rfl ?_)))))))
 refine wq (iK rfl rfl (by decide)) rfl (aK 46 (.int .u64 ((t20 % 65536 : Nat) : Int)) (iE (jH t20 65536)) (wq (aD 0 bU rfl) rfl (wq (bZ (2) cX rfl rfl rfl (by decide)) rfl (dB 3 (.int _ _) cQ M47 rfl rfl rfl rfl rfl rfl (fun w48 M48 => (aB (aC (aA ?_))))))))
 refine aP rfl rfl (wq (fZ rfl rfl (by decide)) rfl (aK 50 (.int .u64 ((t20 / 65536 : Nat) : Int)) (iE (iQ t20 65536 bd20)) (bH rfl rfl (aB (cT ?_)))))
 refine aC (aA (aP rfl rfl (wq (aY rfl rfl (by first | decide | omega) (by first | decide | omega)) rfl (aK 23 (.int .i64 1) (iE (by first | decide | omega)) (bH rfl rfl (aB ?_))))))
 refine aC (fI (eC (fr := [(4, .pointer _), (5, .pointer _), (6, .pointer _), (7, .pointer _), (8, .int .i64 2), (9, .int _ _), (10, .int .i64 1), (11, .int _ _), (16, .int .i64 2), (17, .bool true)]) (bB rfl (bB rfl (bB rfl (bB rfl (bB rfl (bB rfl (bB rfl (bB rfl (bB rfl (bB rfl dZ)))))))))) (fun ρ49 => ?_)))
 have M50 : Mem _ _ [_, _, _, (some _, bc [.int .u64 ((t00 % 65536 : Nat) : Int), .int .u64 ((t10 % 65536 : Nat) : Int), .int .u64 ((t20 % 65536 : Nat) : Int), .int .u64 ((t12 % 65536 : Nat) : Int), .int .u64 ((t13 % 65536 : Nat) : Int), .int .u64 ((t13 / 65536 : Nat) : Int), .int .u64 0, .int .u64 0] 344)] _ := M48
 refine aE (aE (aA (aP rfl rfl (cY rfl rfl rfl rfl (kH 21 rfl (by first | decide | omega) (aB (aC (cE rfl ?_))))))))
 refine aL (aC (aE (aQ (aE (bR [(0, 0), (1, 0), (2, 0), (3, 0), (4, 0), (5, 1), (6, 0), (7, 0), (8, 0), (9, 1), (10, 0), (11, 0), (12, 0), (13, 1), (14, 0), (15, 0), (16, 0), (17, 0), (18, 0)] mixed rfl (by kernel_rfl) (fun w51 hb51 hh51 => ?_))))))
 have M51 := M50.drew hb51 hh51
 obtain ⟨t21, ht21, ba21, bb21, bc21, bd21, be21⟩ := fX (z := t12 % 65536) (c := t20 / 65536) (x := x2) (y := y1) (Nat.mod_lt _ (by decide)) be20 hx2 hy1
 refine eB rfl rfl rfl (eB rfl rfl rfl (aU rfl rfl rfl (fun _ => aY rfl rfl (by first | decide | omega) (by first | decide | omega)) (aU rfl rfl rfl (fun _ => aD 0 bU rfl) (aU rfl rfl rfl (fun _ => bZ (3) cX rfl rfl rfl (by decide)) (bS rfl rfl rfl (aM 3 (.int _ _) cQ M51 rfl rfl rfl) ?_)))))
 refine eB rfl rfl rfl (aU rfl rfl rfl (fun _ => aD 0 bU rfl) (aU rfl rfl rfl (fun _ => bZ (2) cX rfl rfl rfl (by decide)) (bS rfl rfl rfl (aM 1 (.int _ _) cQ M51 rfl rfl rfl) (eB rfl rfl rfl (aU rfl rfl rfl (fun _ => aD 0 bU rfl) ?_)))))
 refine aU rfl rfl rfl (fun _ => bZ (1) cX rfl rfl rfl (by decide)) (bS rfl rfl rfl (aM 2 (.int _ _) cQ M51 rfl rfl rfl) (aU rfl rfl rfl (fun _ => cA (.int _ _) rfl rfl rfl) (dQ 38 (.int .u64 ((x2 * y1 : Nat) : Int)) (iE (lE x2 y1 ba21)) (aU rfl rfl rfl (fun _ => cA (.int _ _) rfl rfl rfl) ?_))))
 refine dQ 39 (.int .u64 ((t12 % 65536 + x2 * y1 : Nat) : Int)) (iE (kX (t12 % 65536) (x2 * y1) bb21)) (eB rfl rfl rfl (aU rfl rfl rfl (fun _ => cA (.int _ _) rfl rfl rfl) (dQ 41 (.int .u64 (t21 : Int)) (iE ((kX (t12 % 65536 + x2 * y1) (t20 / 65536) bc21).trans (congrArg _ ht21.symm))) (mG rfl rfl rfl ?_))))
 refine bX (aC (aE (aA (aP rfl rfl (aP rfl rfl (wq (aY rfl rfl (by first | decide | omega) (by first | decide | omega)) rfl (aK 44 (.int .i64 3) (iE (by first | decide | omega)) ?_)))))))
 refine aP rfl rfl (wq (iK rfl rfl (by decide)) rfl (aK 46 (.int .u64 ((t21 % 65536 : Nat) : Int)) (iE (jH t21 65536)) (wq (aD 0 bU rfl) rfl (wq (bZ (3) cX rfl rfl rfl (by decide)) rfl (dB 3 (.int _ _) cQ M51 rfl rfl rfl rfl rfl rfl (fun w52 M52 => ?_))))))
 refine aB (aC (aA (aP rfl rfl (wq (fZ rfl rfl (by decide)) rfl (aK 50 (.int .u64 ((t21 / 65536 : Nat) : Int)) (iE (iQ t21 65536 bd21)) (bH rfl rfl (aB ?_)))))))
 refine cT (aC (aA (aP rfl rfl (wq (aY rfl rfl (by first | decide | omega) (by first | decide | omega)) rfl (aK 23 (.int .i64 2) (iE (by first | decide | omega)) (bH rfl rfl ?_))))))
 refine aB (aC (fI (eC (fr := [(4, .pointer _), (5, .pointer _), (6, .pointer _), (7, .pointer _), (8, .int .i64 2), (9, .int _ _), (10, .int .i64 2), (11, .int _ _), (16, .int .i64 2), (17, .bool true)]) (bB rfl (bB rfl (bB rfl (bB rfl (bB rfl (bB rfl (bB rfl (bB rfl (bB rfl (bB rfl dZ)))))))))) (fun ρ53 => ?_))))
 have M54 : Mem _ _ [_, _, _, (some _, bc [.int .u64 ((t00 % 65536 : Nat) : Int), .int .u64 ((t10 % 65536 : Nat) : Int), .int .u64 ((t20 % 65536 : Nat) : Int), .int .u64 ((t21 % 65536 : Nat) : Int), .int .u64 ((t13 % 65536 : Nat) : Int), .int .u64 ((t13 / 65536 : Nat) : Int), .int .u64 0, .int .u64 0] 344)] _ := M52
 refine aE (aE (aA (aP rfl rfl (cY rfl rfl rfl rfl (kH 21 rfl (by first | decide | omega) (aB (aC (cE rfl ?_))))))))
 refine aL (aC (aE (aQ (aE (bR [(0, 0), (1, 0), (2, 0), (3, 0), (4, 0), (5, 1), (6, 0), (7, 0), (8, 0), (9, 1), (10, 0), (11, 0), (12, 0), (13, 1), (14, 0), (15, 0), (16, 0), (17, 0), (18, 0)] mixed rfl (by kernel_rfl) (fun w55 hb55 hh55 => ?_))))))
 have M55 := M54.drew hb55 hh55
 obtain ⟨t22, ht22, ba22, bb22, bc22, bd22, be22⟩ := fX (z := t13 % 65536) (c := t21 / 65536) (x := x2) (y := y2) (Nat.mod_lt _ (by decide)) be21 hx2 hy2
 refine eB rfl rfl rfl (eB rfl rfl rfl (aU rfl rfl rfl (fun _ => aY rfl rfl (by first | decide | omega) (by first | decide | omega)) (aU rfl rfl rfl (fun _ => aD 0 bU rfl) (aU rfl rfl rfl (fun _ => bZ (4) cX rfl rfl rfl (by decide)) (bS rfl rfl rfl (aM 3 (.int _ _) cQ M55 rfl rfl rfl) ?_)))))
 refine eB rfl rfl rfl (aU rfl rfl rfl (fun _ => aD 0 bU rfl) (aU rfl rfl rfl (fun _ => bZ (2) cX rfl rfl rfl (by decide)) (bS rfl rfl rfl (aM 1 (.int _ _) cQ M55 rfl rfl rfl) (eB rfl rfl rfl (aU rfl rfl rfl (fun _ => aD 0 bU rfl) ?_)))))
 refine aU rfl rfl rfl (fun _ => bZ (2) cX rfl rfl rfl (by decide)) (bS rfl rfl rfl (aM 2 (.int _ _) cQ M55 rfl rfl rfl) (aU rfl rfl rfl (fun _ => cA (.int _ _) rfl rfl rfl) (dQ 38 (.int .u64 ((x2 * y2 : Nat) : Int)) (iE (lE x2 y2 ba22)) (aU rfl rfl rfl (fun _ => cA (.int _ _) rfl rfl rfl) ?_))))
 refine dQ 39 (.int .u64 ((t13 % 65536 + x2 * y2 : Nat) : Int)) (iE (kX (t13 % 65536) (x2 * y2) bb22)) (eB rfl rfl rfl (aU rfl rfl rfl (fun _ => cA (.int _ _) rfl rfl rfl) (dQ 41 (.int .u64 (t22 : Int)) (iE ((kX (t13 % 65536 + x2 * y2) (t21 / 65536) bc22).trans (congrArg _ ht22.symm))) (mG rfl rfl rfl ?_))))
 refine bX (aC (aE (aA (aP rfl rfl (aP rfl rfl (wq (aY rfl rfl (by first | decide | omega) (by first | decide | omega)) rfl (aK 44 (.int .i64 4) (iE (by first | decide | omega)) ?_)))))))
 refine aP rfl rfl (wq (iK rfl rfl (by decide)) rfl (aK 46 (.int .u64 ((t22 % 65536 : Nat) : Int)) (iE (jH t22 65536)) (wq (aD 0 bU rfl) rfl (wq (bZ (4) cX rfl rfl rfl (by decide)) rfl (dB 3 (.int _ _) cQ M55 rfl rfl rfl rfl rfl rfl (fun w56 M56 => ?_))))))
 refine aB (aC (aA (aP rfl rfl (wq (fZ rfl rfl (by decide)) rfl (aK 50 (.int .u64 ((t22 / 65536 : Nat) : Int)) (iE (iQ t22 65536 bd22)) (bH rfl rfl (aB ?_)))))))
 refine cT (aC (aA (aP rfl rfl (wq (aY rfl rfl (by first | decide | omega) (by first | decide | omega)) rfl (aK 23 (.int .i64 3) (iE (by first | decide | omega)) (bH rfl rfl ?_))))))
 refine aB (aC (fI (eC (fr := [(4, .pointer _), (5, .pointer _), (6, .pointer _), (7, .pointer _), (8, .int .i64 2), (9, .int _ _), (10, .int .i64 3), (11, .int _ _), (16, .int .i64 2), (17, .bool true)]) (bB rfl (bB rfl (bB rfl (bB rfl (bB rfl (bB rfl (bB rfl (bB rfl (bB rfl (bB rfl dZ)))))))))) (fun ρ57 => ?_))))
 have M58 : Mem _ _ [_, _, _, (some _, bc [.int .u64 ((t00 % 65536 : Nat) : Int), .int .u64 ((t10 % 65536 : Nat) : Int), .int .u64 ((t20 % 65536 : Nat) : Int), .int .u64 ((t21 % 65536 : Nat) : Int), .int .u64 ((t22 % 65536 : Nat) : Int), .int .u64 ((t13 / 65536 : Nat) : Int), .int .u64 0, .int .u64 0] 344)] _ := M56
 refine aE (aE (aA (aP rfl rfl (cY rfl rfl rfl rfl (kH 21 rfl (by first | decide | omega) (aB (aC (cE rfl ?_))))))))
 refine aL (aC (aE (aQ (aE (bR [(0, 0), (1, 0), (2, 0), (3, 0), (4, 0), (5, 1), (6, 0), (7, 0), (8, 0), (9, 1), (10, 0), (11, 0), (12, 0), (13, 1), (14, 0), (15, 0), (16, 0), (17, 0), (18, 0)] mixed rfl (by kernel_rfl) (fun w59 hb59 hh59 => ?_))))))
 have M59 := M58.drew hb59 hh59
 obtain ⟨t23, ht23, ba23, bb23, bc23, bd23, be23⟩ := fX (z := t13 / 65536) (c := t22 / 65536) (x := x2) (y := y3) be13 be22 hx2 hy3
 refine eB rfl rfl rfl (eB rfl rfl rfl (aU rfl rfl rfl (fun _ => aY rfl rfl (by first | decide | omega) (by first | decide | omega)) (aU rfl rfl rfl (fun _ => aD 0 bU rfl) (aU rfl rfl rfl (fun _ => bZ (5) cX rfl rfl rfl (by decide)) (bS rfl rfl rfl (aM 3 (.int _ _) cQ M59 rfl rfl rfl) ?_)))))
 refine eB rfl rfl rfl (aU rfl rfl rfl (fun _ => aD 0 bU rfl) (aU rfl rfl rfl (fun _ => bZ (2) cX rfl rfl rfl (by decide)) (bS rfl rfl rfl (aM 1 (.int _ _) cQ M59 rfl rfl rfl) (eB rfl rfl rfl (aU rfl rfl rfl (fun _ => aD 0 bU rfl) ?_)))))
 refine aU rfl rfl rfl (fun _ => bZ (3) cX rfl rfl rfl (by decide)) (bS rfl rfl rfl (aM 2 (.int _ _) cQ M59 rfl rfl rfl) (aU rfl rfl rfl (fun _ => cA (.int _ _) rfl rfl rfl) (dQ 38 (.int .u64 ((x2 * y3 : Nat) : Int)) (iE (lE x2 y3 ba23)) (aU rfl rfl rfl (fun _ => cA (.int _ _) rfl rfl rfl) ?_))))
 refine dQ 39 (.int .u64 ((t13 / 65536 + x2 * y3 : Nat) : Int)) (iE (kX (t13 / 65536) (x2 * y3) bb23)) (eB rfl rfl rfl (aU rfl rfl rfl (fun _ => cA (.int _ _) rfl rfl rfl) (dQ 41 (.int .u64 (t23 : Int)) (iE ((kX (t13 / 65536 + x2 * y3) (t22 / 65536) bc23).trans (congrArg _ ht23.symm))) (mG rfl rfl rfl ?_))))
 refine bX (aC (aE (aA (aP rfl rfl (aP rfl rfl (wq (aY rfl rfl (by first | decide | omega) (by first | decide | omega)) rfl (aK 44 (.int .i64 5) (iE (by first | decide | omega)) ?_)))))))
 refine aP rfl rfl (wq (iK rfl rfl (by decide)) rfl (aK 46 (.int .u64 ((t23 % 65536 : Nat) : Int)) (iE (jH t23 65536)) (wq (aD 0 bU rfl) rfl (wq (bZ (5) cX rfl rfl rfl (by decide)) rfl (dB 3 (.int _ _) cQ M59 rfl rfl rfl rfl rfl rfl (fun w60 M60 => ?_))))))
 refine aB (aC (aA (aP rfl rfl (wq (fZ rfl rfl (by decide)) rfl (aK 50 (.int .u64 ((t23 / 65536 : Nat) : Int)) (iE (iQ t23 65536 bd23)) (bH rfl rfl (aB ?_)))))))
 refine cT (aC (aA (aP rfl rfl (wq (aY rfl rfl (by first | decide | omega) (by first | decide | omega)) rfl (aK 23 (.int .i64 4) (iE (by first | decide | omega)) (bH rfl rfl ?_))))))
 refine aB (aC (fI (eC (fr := [(4, .pointer _), (5, .pointer _), (6, .pointer _), (7, .pointer _), (8, .int .i64 2), (9, .int _ _), (10, .int .i64 4), (11, .int _ _), (16, .int .i64 2), (17, .bool true)]) (bB rfl (bB rfl (bB rfl (bB rfl (bB rfl (bB rfl (bB rfl (bB rfl (bB rfl (bB rfl dZ)))))))))) (fun ρ61 => ?_))))
 have M62 : Mem _ _ [_, _, _, (some _, bc [.int .u64 ((t00 % 65536 : Nat) : Int), .int .u64 ((t10 % 65536 : Nat) : Int), .int .u64 ((t20 % 65536 : Nat) : Int), .int .u64 ((t21 % 65536 : Nat) : Int), .int .u64 ((t22 % 65536 : Nat) : Int), .int .u64 ((t23 % 65536 : Nat) : Int), .int .u64 0, .int .u64 0] 344)] _ := M60
 refine aE (aE (aA (aP rfl rfl (cY rfl rfl rfl rfl (oG 21 rfl (by first | decide | omega) (aB (aC (cJ rfl ?_))))))))
 refine cW (dE (dE (eS (aC (aA (aP rfl rfl (wq (aY rfl rfl (by first | decide | omega) (by first | decide | omega)) rfl ?_)))))))
 refine aK 52 (.int .i64 6) (iE (by first | decide | omega)) (aP rfl rfl (wq (aD 0 bU rfl) rfl (wq (bZ (6) cX rfl rfl rfl (by decide)) rfl (dB 3 (.int _ _) cQ M62 rfl rfl rfl rfl rfl rfl (fun w63 M63 => (aB ?_))))))
 refine cT (aC (aA (aP rfl rfl (wq (aY rfl rfl (by first | decide | omega) (by first | decide | omega)) rfl (aK 19 (.int .i64 3) (iE (by first | decide | omega)) (bH rfl rfl ?_))))))
 refine aB (aC (fI (eC (fr := [(4, .pointer _), (5, .pointer _), (6, .pointer _), (7, .pointer _), (8, .int .i64 3), (9, .int _ _), (10, .int .i64 4), (11, .int _ _)]) (bB rfl (bB rfl (bB rfl (bB rfl (bB rfl (bB rfl (bB rfl (bB rfl dZ)))))))) (fun ρ64 => ?_))))
 have M65 : Mem _ _ [_, _, _, (some _, bc [.int .u64 ((t00 % 65536 : Nat) : Int), .int .u64 ((t10 % 65536 : Nat) : Int), .int .u64 ((t20 % 65536 : Nat) : Int), .int .u64 ((t21 % 65536 : Nat) : Int), .int .u64 ((t22 % 65536 : Nat) : Int), .int .u64 ((t23 % 65536 : Nat) : Int), .int .u64 ((t23 / 65536 : Nat) : Int), .int .u64 0] 344)] _ := M63
 refine aE (aE (aA (aP rfl rfl (cY rfl rfl rfl rfl (kH 17 rfl (by first | decide | omega) (aB (aC (cE rfl ?_))))))))
 refine aL (aC (aE (aQ (aE (aA (bH rfl rfl (aB (aC (aE (aE (aA (bH rfl rfl (aB (aC (aQ (iU 5 (fI ?_)))))))))))))))))
 refine aE (aE (aA (aP rfl rfl (cY rfl rfl rfl rfl (kH 21 rfl (by first | decide | omega) (aB (aC (cE rfl ?_))))))))
 refine aL (aC (aE (aQ (aE (bR [(0, 0), (1, 0), (2, 0), (3, 0), (4, 0), (5, 1), (6, 0), (7, 0), (8, 0), (9, 1), (10, 0), (11, 0), (12, 0), (13, 1), (14, 0), (15, 0), (16, 0), (17, 0), (18, 0)] mixed rfl (by kernel_rfl) (fun w66 hb66 hh66 => ?_))))))
 have M66 := M65.drew hb66 hh66
 obtain ⟨t30, ht30, ba30, bb30, bc30, bd30, be30⟩ := fX (z := t21 % 65536) (c := 0) (x := x3) (y := y0) (Nat.mod_lt _ (by decide)) (by decide) hx3 hy0
 refine eB rfl rfl rfl (eB rfl rfl rfl (aU rfl rfl rfl (fun _ => aY rfl rfl (by first | decide | omega) (by first | decide | omega)) (aU rfl rfl rfl (fun _ => aD 0 bU rfl) (aU rfl rfl rfl (fun _ => bZ (3) cX rfl rfl rfl (by decide)) (bS rfl rfl rfl (aM 3 (.int _ _) cQ M66 rfl rfl rfl) ?_)))))
 refine eB rfl rfl rfl (aU rfl rfl rfl (fun _ => aD 0 bU rfl) (aU rfl rfl rfl (fun _ => bZ (3) cX rfl rfl rfl (by decide)) (bS rfl rfl rfl (aM 1 (.int _ _) cQ M66 rfl rfl rfl) (eB rfl rfl rfl (aU rfl rfl rfl (fun _ => aD 0 bU rfl) ?_)))))
 refine aU rfl rfl rfl (fun _ => bZ (0) cX rfl rfl rfl (by decide)) (bS rfl rfl rfl (aM 2 (.int _ _) cQ M66 rfl rfl rfl) (aU rfl rfl rfl (fun _ => cA (.int _ _) rfl rfl rfl) (dQ 38 (.int .u64 ((x3 * y0 : Nat) : Int)) (iE (lE x3 y0 ba30)) (aU rfl rfl rfl (fun _ => cA (.int _ _) rfl rfl rfl) ?_))))
 refine dQ 39 (.int .u64 ((t21 % 65536 + x3 * y0 : Nat) : Int)) (iE (kX (t21 % 65536) (x3 * y0) bb30)) (eB rfl rfl rfl (aU rfl rfl rfl (fun _ => cA (.int _ _) rfl rfl rfl) (dQ 41 (.int .u64 (t30 : Int)) (iE ((kX (t21 % 65536 + x3 * y0) (0) bc30).trans (congrArg _ ht30.symm))) (mG rfl rfl rfl (bX ?_)))))
 refine aC (aE (aA (aP rfl rfl (aP rfl rfl (wq (aY rfl rfl (by first | decide | omega) (by first | decide | omega)) rfl (aK 44 (.int .i64 3) (iE (by first | decide | omega)) (aP rfl rfl ?_)))))))
 refine wq (iK rfl rfl (by decide)) rfl (aK 46 (.int .u64 ((t30 % 65536 : Nat) : Int)) (iE (jH t30 65536)) (wq (aD 0 bU rfl) rfl (wq (bZ (3) cX rfl rfl rfl (by decide)) rfl (dB 3 (.int _ _) cQ M66 rfl rfl rfl rfl rfl rfl (fun w67 M67 => (aB (aC (aA ?_))))))))
 refine aP rfl rfl (wq (fZ rfl rfl (by decide)) rfl (aK 50 (.int .u64 ((t30 / 65536 : Nat) : Int)) (iE (iQ t30 65536 bd30)) (bH rfl rfl (aB (cT ?_)))))
 refine aC (aA (aP rfl rfl (wq (aY rfl rfl (by first | decide | omega) (by first | decide | omega)) rfl (aK 23 (.int .i64 1) (iE (by first | decide | omega)) (bH rfl rfl (aB ?_))))))
 refine aC (fI (eC (fr := [(4, .pointer _), (5, .pointer _), (6, .pointer _), (7, .pointer _), (8, .int .i64 3), (9, .int _ _), (10, .int .i64 1), (11, .int _ _), (16, .int .i64 3), (17, .bool true)]) (bB rfl (bB rfl (bB rfl (bB rfl (bB rfl (bB rfl (bB rfl (bB rfl (bB rfl (bB rfl dZ)))))))))) (fun ρ68 => ?_)))
 have M69 : Mem _ _ [_, _, _, (some _, bc [.int .u64 ((t00 % 65536 : Nat) : Int), .int .u64 ((t10 % 65536 : Nat) : Int), .int .u64 ((t20 % 65536 : Nat) : Int), .int .u64 ((t30 % 65536 : Nat) : Int), .int .u64 ((t22 % 65536 : Nat) : Int), .int .u64 ((t23 % 65536 : Nat) : Int), .int .u64 ((t23 / 65536 : Nat) : Int), .int .u64 0] 344)] _ := M67
 refine aE (aE (aA (aP rfl rfl (cY rfl rfl rfl rfl (kH 21 rfl (by first | decide | omega) (aB (aC (cE rfl ?_))))))))
 refine aL (aC (aE (aQ (aE (bR [(0, 0), (1, 0), (2, 0), (3, 0), (4, 0), (5, 1), (6, 0), (7, 0), (8, 0), (9, 1), (10, 0), (11, 0), (12, 0), (13, 1), (14, 0), (15, 0), (16, 0), (17, 0), (18, 0)] mixed rfl (by kernel_rfl) (fun w70 hb70 hh70 => ?_))))))
 have M70 := M69.drew hb70 hh70
 obtain ⟨t31, ht31, ba31, bb31, bc31, bd31, be31⟩ := fX (z := t22 % 65536) (c := t30 / 65536) (x := x3) (y := y1) (Nat.mod_lt _ (by decide)) be30 hx3 hy1
 refine eB rfl rfl rfl (eB rfl rfl rfl (aU rfl rfl rfl (fun _ => aY rfl rfl (by first | decide | omega) (by first | decide | omega)) (aU rfl rfl rfl (fun _ => aD 0 bU rfl) (aU rfl rfl rfl (fun _ => bZ (4) cX rfl rfl rfl (by decide)) (bS rfl rfl rfl (aM 3 (.int _ _) cQ M70 rfl rfl rfl) ?_)))))
 refine eB rfl rfl rfl (aU rfl rfl rfl (fun _ => aD 0 bU rfl) (aU rfl rfl rfl (fun _ => bZ (3) cX rfl rfl rfl (by decide)) (bS rfl rfl rfl (aM 1 (.int _ _) cQ M70 rfl rfl rfl) (eB rfl rfl rfl (aU rfl rfl rfl (fun _ => aD 0 bU rfl) ?_)))))
 refine aU rfl rfl rfl (fun _ => bZ (1) cX rfl rfl rfl (by decide)) (bS rfl rfl rfl (aM 2 (.int _ _) cQ M70 rfl rfl rfl) (aU rfl rfl rfl (fun _ => cA (.int _ _) rfl rfl rfl) (dQ 38 (.int .u64 ((x3 * y1 : Nat) : Int)) (iE (lE x3 y1 ba31)) (aU rfl rfl rfl (fun _ => cA (.int _ _) rfl rfl rfl) ?_))))
 refine dQ 39 (.int .u64 ((t22 % 65536 + x3 * y1 : Nat) : Int)) (iE (kX (t22 % 65536) (x3 * y1) bb31)) (eB rfl rfl rfl (aU rfl rfl rfl (fun _ => cA (.int _ _) rfl rfl rfl) (dQ 41 (.int .u64 (t31 : Int)) (iE ((kX (t22 % 65536 + x3 * y1) (t30 / 65536) bc31).trans (congrArg _ ht31.symm))) (mG rfl rfl rfl ?_))))
 refine bX (aC (aE (aA (aP rfl rfl (aP rfl rfl (wq (aY rfl rfl (by first | decide | omega) (by first | decide | omega)) rfl (aK 44 (.int .i64 4) (iE (by first | decide | omega)) ?_)))))))
 refine aP rfl rfl (wq (iK rfl rfl (by decide)) rfl (aK 46 (.int .u64 ((t31 % 65536 : Nat) : Int)) (iE (jH t31 65536)) (wq (aD 0 bU rfl) rfl (wq (bZ (4) cX rfl rfl rfl (by decide)) rfl (dB 3 (.int _ _) cQ M70 rfl rfl rfl rfl rfl rfl (fun w71 M71 => ?_))))))
 refine aB (aC (aA (aP rfl rfl (wq (fZ rfl rfl (by decide)) rfl (aK 50 (.int .u64 ((t31 / 65536 : Nat) : Int)) (iE (iQ t31 65536 bd31)) (bH rfl rfl (aB ?_)))))))
 refine cT (aC (aA (aP rfl rfl (wq (aY rfl rfl (by first | decide | omega) (by first | decide | omega)) rfl (aK 23 (.int .i64 2) (iE (by first | decide | omega)) (bH rfl rfl ?_))))))
 refine aB (aC (fI (eC (fr := [(4, .pointer _), (5, .pointer _), (6, .pointer _), (7, .pointer _), (8, .int .i64 3), (9, .int _ _), (10, .int .i64 2), (11, .int _ _), (16, .int .i64 3), (17, .bool true)]) (bB rfl (bB rfl (bB rfl (bB rfl (bB rfl (bB rfl (bB rfl (bB rfl (bB rfl (bB rfl dZ)))))))))) (fun ρ72 => ?_))))
 have M73 : Mem _ _ [_, _, _, (some _, bc [.int .u64 ((t00 % 65536 : Nat) : Int), .int .u64 ((t10 % 65536 : Nat) : Int), .int .u64 ((t20 % 65536 : Nat) : Int), .int .u64 ((t30 % 65536 : Nat) : Int), .int .u64 ((t31 % 65536 : Nat) : Int), .int .u64 ((t23 % 65536 : Nat) : Int), .int .u64 ((t23 / 65536 : Nat) : Int), .int .u64 0] 344)] _ := M71
 refine aE (aE (aA (aP rfl rfl (cY rfl rfl rfl rfl (kH 21 rfl (by first | decide | omega) (aB (aC (cE rfl ?_))))))))
 refine aL (aC (aE (aQ (aE (bR [(0, 0), (1, 0), (2, 0), (3, 0), (4, 0), (5, 1), (6, 0), (7, 0), (8, 0), (9, 1), (10, 0), (11, 0), (12, 0), (13, 1), (14, 0), (15, 0), (16, 0), (17, 0), (18, 0)] mixed rfl (by kernel_rfl) (fun w74 hb74 hh74 => ?_))))))
 have M74 := M73.drew hb74 hh74
 obtain ⟨t32, ht32, ba32, bb32, bc32, bd32, be32⟩ := fX (z := t23 % 65536) (c := t31 / 65536) (x := x3) (y := y2) (Nat.mod_lt _ (by decide)) be31 hx3 hy2
 refine eB rfl rfl rfl (eB rfl rfl rfl (aU rfl rfl rfl (fun _ => aY rfl rfl (by first | decide | omega) (by first | decide | omega)) (aU rfl rfl rfl (fun _ => aD 0 bU rfl) (aU rfl rfl rfl (fun _ => bZ (5) cX rfl rfl rfl (by decide)) (bS rfl rfl rfl (aM 3 (.int _ _) cQ M74 rfl rfl rfl) ?_)))))
 refine eB rfl rfl rfl (aU rfl rfl rfl (fun _ => aD 0 bU rfl) (aU rfl rfl rfl (fun _ => bZ (3) cX rfl rfl rfl (by decide)) (bS rfl rfl rfl (aM 1 (.int _ _) cQ M74 rfl rfl rfl) (eB rfl rfl rfl (aU rfl rfl rfl (fun _ => aD 0 bU rfl) ?_)))))
 refine aU rfl rfl rfl (fun _ => bZ (2) cX rfl rfl rfl (by decide)) (bS rfl rfl rfl (aM 2 (.int _ _) cQ M74 rfl rfl rfl) (aU rfl rfl rfl (fun _ => cA (.int _ _) rfl rfl rfl) (dQ 38 (.int .u64 ((x3 * y2 : Nat) : Int)) (iE (lE x3 y2 ba32)) (aU rfl rfl rfl (fun _ => cA (.int _ _) rfl rfl rfl) ?_))))
 refine dQ 39 (.int .u64 ((t23 % 65536 + x3 * y2 : Nat) : Int)) (iE (kX (t23 % 65536) (x3 * y2) bb32)) (eB rfl rfl rfl (aU rfl rfl rfl (fun _ => cA (.int _ _) rfl rfl rfl) (dQ 41 (.int .u64 (t32 : Int)) (iE ((kX (t23 % 65536 + x3 * y2) (t31 / 65536) bc32).trans (congrArg _ ht32.symm))) (mG rfl rfl rfl ?_))))
 refine bX (aC (aE (aA (aP rfl rfl (aP rfl rfl (wq (aY rfl rfl (by first | decide | omega) (by first | decide | omega)) rfl (aK 44 (.int .i64 5) (iE (by first | decide | omega)) ?_)))))))
 refine aP rfl rfl (wq (iK rfl rfl (by decide)) rfl (aK 46 (.int .u64 ((t32 % 65536 : Nat) : Int)) (iE (jH t32 65536)) (wq (aD 0 bU rfl) rfl (wq (bZ (5) cX rfl rfl rfl (by decide)) rfl (dB 3 (.int _ _) cQ M74 rfl rfl rfl rfl rfl rfl (fun w75 M75 => ?_))))))
 refine aB (aC (aA (aP rfl rfl (wq (fZ rfl rfl (by decide)) rfl (aK 50 (.int .u64 ((t32 / 65536 : Nat) : Int)) (iE (iQ t32 65536 bd32)) (bH rfl rfl (aB ?_)))))))
 refine cT (aC (aA (aP rfl rfl (wq (aY rfl rfl (by first | decide | omega) (by first | decide | omega)) rfl (aK 23 (.int .i64 3) (iE (by first | decide | omega)) (bH rfl rfl ?_))))))
 refine aB (aC (fI (eC (fr := [(4, .pointer _), (5, .pointer _), (6, .pointer _), (7, .pointer _), (8, .int .i64 3), (9, .int _ _), (10, .int .i64 3), (11, .int _ _), (16, .int .i64 3), (17, .bool true)]) (bB rfl (bB rfl (bB rfl (bB rfl (bB rfl (bB rfl (bB rfl (bB rfl (bB rfl (bB rfl dZ)))))))))) (fun ρ76 => ?_))))
 have M77 : Mem _ _ [_, _, _, (some _, bc [.int .u64 ((t00 % 65536 : Nat) : Int), .int .u64 ((t10 % 65536 : Nat) : Int), .int .u64 ((t20 % 65536 : Nat) : Int), .int .u64 ((t30 % 65536 : Nat) : Int), .int .u64 ((t31 % 65536 : Nat) : Int), .int .u64 ((t32 % 65536 : Nat) : Int), .int .u64 ((t23 / 65536 : Nat) : Int), .int .u64 0] 344)] _ := M75
 refine aE (aE (aA (aP rfl rfl (cY rfl rfl rfl rfl (kH 21 rfl (by first | decide | omega) (aB (aC (cE rfl ?_))))))))
 refine aL (aC (aE (aQ (aE (bR [(0, 0), (1, 0), (2, 0), (3, 0), (4, 0), (5, 1), (6, 0), (7, 0), (8, 0), (9, 1), (10, 0), (11, 0), (12, 0), (13, 1), (14, 0), (15, 0), (16, 0), (17, 0), (18, 0)] mixed rfl (by kernel_rfl) (fun w78 hb78 hh78 => ?_))))))
 have M78 := M77.drew hb78 hh78
 obtain ⟨t33, ht33, ba33, bb33, bc33, bd33, be33⟩ := fX (z := t23 / 65536) (c := t32 / 65536) (x := x3) (y := y3) be23 be32 hx3 hy3
 refine eB rfl rfl rfl (eB rfl rfl rfl (aU rfl rfl rfl (fun _ => aY rfl rfl (by first | decide | omega) (by first | decide | omega)) (aU rfl rfl rfl (fun _ => aD 0 bU rfl) (aU rfl rfl rfl (fun _ => bZ (6) cX rfl rfl rfl (by decide)) (bS rfl rfl rfl (aM 3 (.int _ _) cQ M78 rfl rfl rfl) ?_)))))
 refine eB rfl rfl rfl (aU rfl rfl rfl (fun _ => aD 0 bU rfl) (aU rfl rfl rfl (fun _ => bZ (3) cX rfl rfl rfl (by decide)) (bS rfl rfl rfl (aM 1 (.int _ _) cQ M78 rfl rfl rfl) (eB rfl rfl rfl (aU rfl rfl rfl (fun _ => aD 0 bU rfl) ?_)))))
 refine aU rfl rfl rfl (fun _ => bZ (3) cX rfl rfl rfl (by decide)) (bS rfl rfl rfl (aM 2 (.int _ _) cQ M78 rfl rfl rfl) (aU rfl rfl rfl (fun _ => cA (.int _ _) rfl rfl rfl) (dQ 38 (.int .u64 ((x3 * y3 : Nat) : Int)) (iE (lE x3 y3 ba33)) (aU rfl rfl rfl (fun _ => cA (.int _ _) rfl rfl rfl) ?_))))
 refine dQ 39 (.int .u64 ((t23 / 65536 + x3 * y3 : Nat) : Int)) (iE (kX (t23 / 65536) (x3 * y3) bb33)) (eB rfl rfl rfl (aU rfl rfl rfl (fun _ => cA (.int _ _) rfl rfl rfl) (dQ 41 (.int .u64 (t33 : Int)) (iE ((kX (t23 / 65536 + x3 * y3) (t32 / 65536) bc33).trans (congrArg _ ht33.symm))) (mG rfl rfl rfl ?_))))
 refine bX (aC (aE (aA (aP rfl rfl (aP rfl rfl (wq (aY rfl rfl (by first | decide | omega) (by first | decide | omega)) rfl (aK 44 (.int .i64 6) (iE (by first | decide | omega)) ?_)))))))
 refine aP rfl rfl (wq (iK rfl rfl (by decide)) rfl (aK 46 (.int .u64 ((t33 % 65536 : Nat) : Int)) (iE (jH t33 65536)) (wq (aD 0 bU rfl) rfl (wq (bZ (6) cX rfl rfl rfl (by decide)) rfl (dB 3 (.int _ _) cQ M78 rfl rfl rfl rfl rfl rfl (fun w79 M79 => ?_))))))
 refine aB (aC (aA (aP rfl rfl (wq (fZ rfl rfl (by decide)) rfl (aK 50 (.int .u64 ((t33 / 65536 : Nat) : Int)) (iE (iQ t33 65536 bd33)) (bH rfl rfl (aB ?_)))))))
 refine cT (aC (aA (aP rfl rfl (wq (aY rfl rfl (by first | decide | omega) (by first | decide | omega)) rfl (aK 23 (.int .i64 4) (iE (by first | decide | omega)) (bH rfl rfl ?_))))))
 refine aB (aC (fI (eC (fr := [(4, .pointer _), (5, .pointer _), (6, .pointer _), (7, .pointer _), (8, .int .i64 3), (9, .int _ _), (10, .int .i64 4), (11, .int _ _), (16, .int .i64 3), (17, .bool true)]) (bB rfl (bB rfl (bB rfl (bB rfl (bB rfl (bB rfl (bB rfl (bB rfl (bB rfl (bB rfl dZ)))))))))) (fun ρ80 => ?_))))
 have M81 : Mem _ _ [_, _, _, (some _, bc [.int .u64 ((t00 % 65536 : Nat) : Int), .int .u64 ((t10 % 65536 : Nat) : Int), .int .u64 ((t20 % 65536 : Nat) : Int), .int .u64 ((t30 % 65536 : Nat) : Int), .int .u64 ((t31 % 65536 : Nat) : Int), .int .u64 ((t32 % 65536 : Nat) : Int), .int .u64 ((t33 % 65536 : Nat) : Int), .int .u64 0] 344)] _ := M79
 refine aE (aE (aA (aP rfl rfl (cY rfl rfl rfl rfl (oG 21 rfl (by first | decide | omega) (aB (aC (cJ rfl ?_))))))))
 refine cW (dE (dE (eS (aC (aA (aP rfl rfl (wq (aY rfl rfl (by first | decide | omega) (by first | decide | omega)) rfl ?_)))))))
 refine aK 52 (.int .i64 7) (iE (by first | decide | omega)) (aP rfl rfl (wq (aD 0 bU rfl) rfl (wq (bZ (7) cX rfl rfl rfl (by decide)) rfl (dB 3 (.int _ _) cQ M81 rfl rfl rfl rfl rfl rfl (fun w82 M82 => (aB ?_))))))
 refine cT (aC (aA (aP rfl rfl (wq (aY rfl rfl (by first | decide | omega) (by first | decide | omega)) rfl (aK 19 (.int .i64 4) (iE (by first | decide | omega)) (bH rfl rfl ?_))))))
 refine aB (aC (fI (eC (fr := [(4, .pointer _), (5, .pointer _), (6, .pointer _), (7, .pointer _), (8, .int .i64 4), (9, .int _ _), (10, .int .i64 4), (11, .int _ _)]) (bB rfl (bB rfl (bB rfl (bB rfl (bB rfl (bB rfl (bB rfl (bB rfl dZ)))))))) (fun ρ83 => ?_))))
 have M84 : Mem _ _ [_, _, _, (some _, bc [.int .u64 ((t00 % 65536 : Nat) : Int), .int .u64 ((t10 % 65536 : Nat) : Int), .int .u64 ((t20 % 65536 : Nat) : Int), .int .u64 ((t30 % 65536 : Nat) : Int), .int .u64 ((t31 % 65536 : Nat) : Int), .int .u64 ((t32 % 65536 : Nat) : Int), .int .u64 ((t33 % 65536 : Nat) : Int), .int .u64 ((t33 / 65536 : Nat) : Int)] 344)] _ := M82
 refine aE (aE (aA (aP rfl rfl (cY rfl rfl rfl rfl (oG 17 rfl (by first | decide | omega) (aB (aC (cJ rfl ?_))))))))
 refine cW (dE (dE (eS (aC (aE (aA (wq (aX 3 nO M84 rfl rfl rfl) rfl (bI 0 _ nO M84 rfl rfl rfl rfl rfl (aR rfl) rfl (fun w85 M85 => ?_)))))))))
 refine aB (aC (aO (eL 0 nO M85 rfl rfl rfl ?_)))
 have hall := bGw ht00 ht01 ht02 ht03 ht10 ht11 ht12 ht13 ht20 ht21 ht22 ht23 ht30 ht31 ht32 ht33
 rw [hX, hY] at hall
 exact ⟨[t00 % 65536, t10 % 65536, t20 % 65536, t30 % 65536, t31 % 65536, t32 % 65536, t33 % 65536, t33 / 65536], rfl, rfl, bRt (Nat.mod_lt _ (by decide)) (Nat.mod_lt _ (by decide)) (Nat.mod_lt _ (by decide)) (Nat.mod_lt _ (by decide)) (Nat.mod_lt _ (by decide)) (Nat.mod_lt _ (by decide)) (Nat.mod_lt _ (by decide)) be33, hall, M85.below⟩
set_option maxHeartbeats 4000000 in
theorem aVh (w : World) (d0 d1 d2 d3 d4 d5 d6 d7 : Nat) (hd : ∀ x ∈ ([d0, d1, d2, d3, d4, d5, d6, d7] : List Nat), x < 65536) (i : Nat) (hi : i < 128) :
  Calls Tryz.prog 265 #[(.agg (([d0, d1, d2, d3, d4, d5, d6, d7] : List Nat).map lG).toArray), .int .i64 (i : Int)] w (fun ex w' => ∃ v, ex = .returned v ∧ (fun v w' => v = .int .u64 ((sT [d0, d1, d2, d3, d4, d5, d6, d7] / 2 ^ i % 2 : Nat) : Int) ∧ Below w.heap.size w w') v w') := by
 obtain ⟨d, hdj⟩ := cV (xs := ([d0, d1, d2, d3, d4, d5, d6, d7] : List Nat)) (k := i / 16) (n := 8) rfl (by omega)
 have hdl := hd d (List.mem_of_getElem? hdj)
 refine aI #[.tmp 4] 22 Tryz.func265 rfl Tryz.results265 Tryz.ntmps265 rfl ?_
 have M0 := Mem.refl w
 refine aE (aA (bJ (.agg (List.toArray _)) M0 rfl rfl rfl (fun b1 w1 M1 => (bH rfl rfl (aB (aC (aE (aA (aP rfl rfl (wq (fZ rfl rfl (by decide)) rfl ?_))))))))))
 refine aK 8 (.int .i64 ((i / 16 : Nat) : Int)) (iE (bRw i 16 (by omega))) (wq (aD 0 bU rfl) rfl (wq (bZ ((i / 16)) cX rfl rfl rfl (by omega)) rfl (wq (aM 0 (.int _ _) cQ M1 rfl rfl (bIm hdj)) rfl (bH rfl rfl (aB (aC (aE (aE (aA ?_)))))))))
 refine bH rfl rfl (aB (aC (aQ (dS (σ := Nat) [1, 4] (fun k => [(5, .int .u64 ((d / 2 ^ k : Nat) : Int)), (6, .int .i64 (k : Int))]) (fun k w' => k ≤ i % 16 ∧ Mem w [] [(some b1, bc (([d0, d1, d2, d3, d4, d5, d6, d7] : List Nat).map lG) 344)] w') (fun k => i % 16 - k) 0 (bB (iv rfl (by simp)) (bB rfl dZ)) (⟨by omega, M1⟩) ?_))))
 rintro k ρ2 w2 ⟨hk, hM2⟩
 refine aE (aE (aA (aP rfl rfl (aP rfl rfl (wq (iK rfl rfl (by decide)) rfl (aK 14 (.int .i64 ((i % 16 : Nat) : Int)) (iE (jH i 16)) (cY rfl rfl rfl rfl ?_)))))))
 refine aB (aC ?_)
 refine aW rfl (fun h15 => ?_) (fun h15 => ?_)
 ·refine aL (aC (aE (aQ (aA (aP rfl rfl (wq (fZ rfl rfl (by decide)) rfl (aK 19 (.int .u64 ((d / 2 ^ (k + 1) : Nat) : Int)) (iE ((iQ (d / 2 ^ k) 2 (Nat.lt_of_le_of_lt (Nat.div_le_self _ _) (by omega))).trans (congrArg _ (by rw [Nat.pow_succ, Nat.div_div_eq_div_mul])))) (bH rfl rfl ?_))))))))
  refine aB (cT (aC (aA (aP rfl rfl (wq (aY rfl rfl (by omega) (by omega)) rfl (bH rfl rfl ?_))))))
  refine aB ?_
  refine cD (k + 1) (bB rfl (bB rfl dZ)) (cK rfl (cK rfl gW)) ?_ ?_
  ·exact ⟨by omega, hM2⟩
  ·omega
 ·have hks : k = i % 16 := by omega
  refine cW (dE (dL (eS (aC (aE (aA (aP rfl rfl ?_)))))))
  refine wq (iK rfl rfl (by decide)) rfl (aK 21 (.int .u64 ((d / 2 ^ k % 2 : Nat) : Int)) (iE (jH (d / 2 ^ k) 2)) (bH rfl rfl (aB (aC (aO (cG (.int _ _) rfl ?_))))))
  exact ⟨iE (congrArg _ (by rw [hks]; exact bNz (sT [d0, d1, d2, d3, d4, d5, d6, d7]) i (i / 16) (i % 16) d (by omega) (by omega) (aMj [d0, d1, d2, d3, d4, d5, d6, d7] (i / 16) d hd hdj))), hM2.below⟩
set_option maxHeartbeats 8000000 in
theorem wY (w : World) (d0 d1 d2 d3 d4 d5 d6 d7 : Nat) (hd : ∀ x ∈ ([d0, d1, d2, d3, d4, d5, d6, d7] : List Nat), x < 65536) (z : Nat) (hz : 0 < z) (hz1 : z ≤ 9223372036854775807) (hX : sT [d0, d1, d2, d3, d4, d5, d6, d7] / z ≤ 4611686018427387904) (hX2 : sT [d0, d1, d2, d3, d4, d5, d6, d7] < 340282366920938463463374607431768211456) :
  Calls Tryz.prog 250 #[(.agg (([d0, d1, d2, d3, d4, d5, d6, d7] : List Nat).map lG).toArray), .int .u64 (z : Int)] w (fun ex w' => ∃ v, ex = .returned v ∧ (fun v w' => v = .tuple #[.int .u64 ((sT [d0, d1, d2, d3, d4, d5, d6, d7] / z : Nat) : Int), .int .u64 ((sT [d0, d1, d2, d3, d4, d5, d6, d7] % z : Nat) : Int), .bool true] ∧ Below w.heap.size w w') v w') := by
 refine aI #[.tmp 4, .tmp 5, .tmp 6] 42 Tryz.func250 rfl Tryz.results250 Tryz.ntmps250 rfl ?_
 have M0 := Mem.refl w
 refine aE (aA (bJ (.agg (List.toArray _)) M0 rfl rfl rfl (fun b1 w1 M1 => (bH rfl rfl (bH rfl rfl (wq (aJ (.bool false) rfl) rfl (aB (aC (aE (aA ?_))))))))))
 refine bH rfl rfl (aB (aC (aE (aA (bH rfl rfl (aB (aC (aE (aA (wq (aJ (.bool true) rfl) rfl (aB (aC (aE (aE (aA ?_)))))))))))))))
 refine bH rfl rfl (aB (aC (aQ (dS (σ := Nat × Nat × Nat) [1, 2, 4, 5, 6] (fun (p, q, r) => [(7, .int .u64 (q : Int)), (8, .int .u64 (r : Int)), (9, .bool true), (10, .int .i64 ((p : Int) - 1))]) (fun (p, q, r) w' => (p ≤ 128 ∧ Lb (sT [d0, d1, d2, d3, d4, d5, d6, d7]) z p q r) ∧ Mem w [] [(some b1, bc (([d0, d1, d2, d3, d4, d5, d6, d7] : List Nat).map lG) 344)] w') (fun (p, q, r) => p) (128, 0, 0) (bB rfl (bB rfl (bB rfl (bB (iv rfl (by decide)) dZ)))) (⟨⟨by omega, bFf hz hX2⟩, M1⟩) ?_))))
 rintro ⟨p, q, r⟩ ρ2 w2 ⟨⟨hp, hlb⟩, hM2⟩
 refine aE (aE (aA (aP rfl rfl (cY rfl rfl rfl rfl (aB (aC ?_))))))
 refine aW rfl (fun h13 => ?_) (fun h13 => ?_)
 ·obtain ⟨s, rfl⟩ : ∃ s, p = s + 1 := ⟨p - 1, by omega⟩
  obtain ⟨b, hb⟩ : ∃ b, sT [d0, d1, d2, d3, d4, d5, d6, d7] / 2 ^ s % 2 = b := ⟨_, rfl⟩
  obtain ⟨hr, hb2, hq2, hyes, hno⟩ := bIh hz hlb hb
  have hsm := aZr (i := s) hX
  refine aL (aC (aE (aQ (aE (aA (aP rfl rfl (cY rfl rfl rfl rfl (oG 17 rfl (by omega) (wq (aJ (.bool false) rfl) rfl (aB (aC (aE (aA ?_)))))))))))))
  refine aP rfl rfl (wq (cA (.int _ _) rfl rfl rfl) rfl (aK 19 (.int .u64 ((2 * r : Nat) : Int)) (iE (by rw [gD]; omega)) (wq (aX 0 nO hM2 rfl rfl rfl) rfl (aP rfl rfl (aK 21 (.int .i64 (s : Int)) (iE (by omega)) ?_)))))
  refine bY bOa rfl rfl (aVh _ d0 d1 d2 d3 d4 d5 d6 d7 hd s (by omega)) ?_
  rintro v3 w3 ⟨rfl, hb3⟩
  have M3 := hM2.callB hb3
  refine aK 22 (.int .u64 (b : Int)) (iE (congrArg _ hb)) (wq (cA (.int _ _) rfl rfl rfl) rfl (aK 23 (.int .u64 ((2 * r + b : Nat) : Int)) (iE (by rw [gD]; omega)) (bH rfl rfl (aB (aC (aE (aE (aA (aP rfl rfl ?_)))))))))
  refine cY rfl rfl rfl rfl (oG 25 rfl (by omega) (aB (aC (cJ rfl (aL (aC (aE (aA (aP rfl rfl ?_)))))))))
  refine wq (cA (.int _ _) rfl rfl rfl) rfl (aK 27 (.int .u64 ((2 * q : Nat) : Int)) (iE (by rw [gD]; omega)) (bH rfl rfl (aB (aC (aE (aA (wq (aH (.bool false) rfl) rfl (wq (aH (.bool false) rfl) rfl ?_))))))))
  refine aP rfl rfl (aP rfl rfl (cY rfl rfl rfl rfl (wq (bQ false (.bool (decide _)) rfl rfl) rfl (aB (aC ?_)))))
  refine aW rfl (fun h33 => ?_) (fun h33 => ?_)
  ·refine aE (aA (aP rfl rfl (aP rfl rfl (wq (cA (.int _ _) rfl rfl rfl) rfl (aK 36 (.int .u64 ((2 * r + b - z : Nat) : Int)) (iE (by rw [gD]; omega)) (bH rfl rfl ?_))))))
   refine aB (aC (aA (aP rfl rfl (wq (cA (.int _ _) rfl rfl rfl) rfl (aK 38 (.int .u64 ((2 * q + 1 : Nat) : Int)) (iE (by rw [gD]; omega)) (bH rfl rfl (aB ?_)))))))
   refine cT (aC (aA (aP rfl rfl (wq (fR rfl rfl (by omega) (by omega)) rfl (bH rfl rfl (aB ?_))))))
   refine cD (s, 2 * q + 1, 2 * r + b - z) (bB rfl (bB rfl (bB rfl (bB (iv rfl (by omega)) dZ)))) (cK rfl (cK rfl (cK rfl (cK rfl (cK rfl gW))))) ?_ ?_
   ·exact ⟨⟨by omega, hyes (by omega)⟩, M3⟩
   ·(show s < s + 1; omega)
  ·refine aL (cT (aC (aA (aP rfl rfl (wq (fR rfl rfl (by omega) (by omega)) rfl (bH rfl rfl ?_))))))
   refine aB ?_
   refine cD (s, 2 * q, 2 * r + b) (bB rfl (bB rfl (bB rfl (bB (iv rfl (by omega)) dZ)))) (cK rfl (cK rfl (cK rfl (cK rfl (cK rfl gW))))) ?_ ?_
   ·exact ⟨⟨by omega, hno (by omega)⟩, M3⟩
   ·(show s < s + 1; omega)
 ·obtain rfl : p = 0 := by omega
  obtain ⟨hq, hr⟩ := bFb hlb
  refine cW (dE (dL (eS (aC (aE (aA (aP rfl rfl ?_)))))))
  refine aP rfl rfl (wq (aH (.bool true) rfl) rfl (bH rfl rfl (bH rfl rfl (wq (aJ (.bool true) rfl) rfl (aB (aC (aO ?_)))))))
  refine aZz (.int _ _) (.int _ _) (.bool true) rfl rfl rfl ?_
  exact ⟨by rw [hq, hr], hM2.below⟩
set_option maxHeartbeats 4000000 in
theorem aAc (w : World) (q r : Nat) (neg : Bool) (hq : q ≤ 4294967296) :
  Calls Tryz.prog 252 #[.int .u64 (q : Int), .int .u64 (r : Int), .bool true, .bool neg] w (fun ex w' => ∃ v, ex = .returned v ∧ (fun v w' => v = .tuple #[.int .i64 (if neg = true then (if 0 < r then -(q : Int) - 1 else -(q : Int)) else (q : Int)), .bool true] ∧ Below w.heap.size w w') v w') := by
 refine aI #[.tmp 8, .tmp 9] 33 Tryz.func252 rfl Tryz.results252 Tryz.ntmps252 rfl ?_
 have M0 := Mem.refl w
 refine aE (aA (bH rfl rfl (wq (aJ (.bool false) rfl) rfl (aB (aC (aE (aE (aA (wq (aH (.bool _) rfl) rfl (wq (gI _ rfl rfl) rfl ?_))))))))))
 refine aB (aC ?_)
 refine iD _ rfl (fun h11 => ?_) (fun h11 => ?_)
 ·have hn : neg = false := by simpa using h11
  refine aE (aA (aP rfl rfl (wq (bA vP Tryz.underlying2 rfl (fG _ (by omega) (by omega))) rfl (wq (aH (.bool true) rfl) rfl (wq (aH (.bool true) rfl) rfl (aP rfl rfl ?_))))))
  refine cY rfl rfl rfl rfl (kH 17 rfl (by omega) (wq (bQ true (.bool true) rfl rfl) rfl (bH rfl rfl (wq (aJ (.bool true) rfl) rfl (aB (aC (aO (cO ?_))))))))
  refine fY (.int _ _) (.bool true) rfl rfl ?_
  exact ⟨by rw [hn]; rfl, M0.below⟩
 ·have hn : neg = true := by simpa using h11
  refine aL (aC (aE (aE (aA (aP rfl rfl (cY rfl rfl rfl rfl (aB (aC ?_))))))))
  refine aW rfl (fun h20 => ?_) (fun h20 => ?_)
  ·refine aE (aE (aA (aP rfl rfl (cY rfl rfl rfl rfl (oG 22 rfl (by omega) (aB (aC (cJ rfl ?_))))))))
   refine aL (aC (aA (aP rfl rfl (wq (cA (.int _ _) rfl rfl rfl) rfl (aK 24 (.int .u64 ((q + 1 : Nat) : Int)) (iE (by rw [gD]; omega)) (bH rfl rfl (aB (aC (aE (aA ?_))))))))))
   refine aP rfl rfl (wq (qZ rfl) rfl (wq (dA vP Tryz.underlying2 rfl) rfl (aK 27 (.int .i64 (-((q + 1 : Nat) : Int))) (iE (aKl (q + 1) (by omega))) (wq (aH (.bool true) rfl) rfl (wq (aH (.bool true) rfl) rfl ?_)))))
   refine aP rfl rfl (cY rfl rfl rfl rfl (kH 31 rfl (by omega) (wq (bQ true (.bool true) rfl rfl) rfl (bH rfl rfl (wq (aJ (.bool true) rfl) rfl ?_)))))
   refine aB (aC (aO (fY (.int _ _) (.bool true) rfl rfl ?_)))
   exact ⟨by rw [if_pos hn, if_pos (by omega)]; exact sL (iE (by omega)) rfl, M0.below⟩
  ·refine aL (aC (aE (aA (aP rfl rfl (wq (qZ rfl) rfl (wq (dA vP Tryz.underlying2 rfl) rfl (aK 27 (.int .i64 (-((q : Nat) : Int))) (iE (aKl (q) (by omega))) (wq (aH (.bool true) rfl) rfl ?_))))))))
   refine wq (aH (.bool true) rfl) rfl (aP rfl rfl (cY rfl rfl rfl rfl (kH 31 rfl (by omega) (wq (bQ true (.bool true) rfl rfl) rfl (bH rfl rfl ?_)))))
   refine wq (aJ (.bool true) rfl) rfl (aB (aC (aO (fY (.int _ _) (.bool true) rfl rfl ?_))))
   exact ⟨by rw [if_pos hn, if_neg (by omega)], M0.below⟩
set_option maxHeartbeats 8000000 in
theorem xA (w : World) (a n d : Int) (ha : -4294967296 ≤ a ∧ a ≤ 4294967296) (hn : 0 ≤ n) (hnd : n ≤ d) (hd0 : 0 < d) (hd : d ≤ 9223372036854775807) :
  Calls Tryz.prog 249 #[.int .i64 a, .int .i64 n, .int .i64 d] w (fun ex w' => ∃ v, ex = .returned v ∧ (fun v w' => v = .tuple #[.int .i64 (a * n / d), .int .i64 0] ∧ Below w.heap.size w w') v w') := by
 obtain ⟨m, rfl⟩ := Int.eq_ofNat_of_zero_le hn
 obtain ⟨z, rfl⟩ := Int.eq_ofNat_of_zero_le (Int.le_of_lt hd0)
 have hmd := aNj (a := a) (m := m) (z := z) ha (by omega) (by omega) (by omega)
 obtain ⟨q, hq⟩ : ∃ q, a.natAbs * m / z = q := ⟨_, rfl⟩
 obtain ⟨r, hr⟩ : ∃ r, a.natAbs * m % z = r := ⟨_, rfl⟩
 have hql : q ≤ 4294967296 := by rw [← hq]; exact hmd.2.2.2
 have hbig : a.natAbs * m ≤ 4294967296 * 9223372036854775807 := Nat.mul_le_mul (by omega) (by omega)
 refine aI #[.tmp 6, .tmp 7] 49 Tryz.func249 rfl Tryz.results249 Tryz.ntmps249 rfl ?_
 have M0 := Mem.refl w
 refine aE (aA (bH rfl rfl (bH rfl rfl (aB (aC (aE (aE (aA (aP rfl rfl (cY rfl rfl rfl rfl ?_))))))))))
 refine oG 15 rfl (by omega) (aB (aC (cJ rfl (aL (aC (aE (aA (aP rfl rfl (wq (dA lW Tryz.underlying237 rfl) rfl ?_)))))))))
 refine aK 17 (.int .u64 (z : Int)) (iE (by rw [gD]; omega)) (bH rfl rfl (aB (aC (aE (aE (aA (aP rfl rfl (cY rfl rfl rfl rfl (oG 19 rfl (by omega) ?_)))))))))
 refine aB (aC (cJ rfl (aL (aC (aE (aA (aP rfl rfl (aP rfl rfl (bY bBq rfl rfl (vI _ a (m : Int) (by omega) (by omega) (by omega) (by omega)) ?_)))))))))
 rintro v1 w1 ⟨D, rfl, hD8, hDd, hDv, hb1⟩
 have M1 := M0.callB hb1
 obtain ⟨d0, d1, d2, d3, d4, d5, d6, d7, rfl⟩ := bJf hD8
 rw [Int.natAbs_natCast] at hDv
 refine aP rfl rfl (bY bEn rfl rfl (wY _ d0 d1 d2 d3 d4 d5 d6 d7 hDd z (by omega) (by omega) (by rw [hDv]; omega) (by rw [hDv]; omega)) ?_)
 rintro v2 w2 ⟨rfl, hb2⟩
 have M2 := M1.callB hb2
 refine wq (aH (.tuple (List.toArray _)) rfl) rfl (wq (bN (.int _ _) rfl rfl) rfl (aK 28 (.int .u64 (q : Int)) (iE (by rw [hDv, hq])) (wq (bN (.int _ _) rfl rfl) rfl (aK 29 (.int .u64 (r : Int)) (iE (by rw [hDv, hr])) (wq (bN (.bool true) rfl rfl) rfl ?_)))))
 refine bH rfl rfl (bH rfl rfl (wq (aJ (.bool true) rfl) rfl (aB (aC (aE (aA (aP rfl rfl (aP rfl rfl ?_))))))))
 refine wq (aH (.bool true) rfl) rfl (aP rfl rfl (cY rfl rfl rfl rfl (aP rfl rfl (cY rfl rfl rfl rfl (oG 38 rfl (by omega) ?_)))))
 refine wq (rP _ Tryz.underlying4 rfl rfl rfl) rfl (aK 39 (.bool (decide (a < 0))) (bv rfl (by simp)) (aP rfl rfl (cY rfl rfl rfl rfl (oG 41 rfl (by omega) (wq (rP _ Tryz.underlying4 rfl rfl rfl) rfl ?_)))))
 refine aK 42 (.bool (decide (a < 0))) (bv rfl (by simp)) (bY bBv rfl rfl (aAc _ q r (decide (a < 0)) hql) ?_)
 rintro v3 w3 ⟨rfl, hb3⟩
 have M3 := M2.callB hb3
 refine wq (aH (.tuple (List.toArray _)) rfl) rfl (wq (bN (.int _ _) rfl rfl) rfl (wq (bN (.bool true) rfl rfl) rfl (bH rfl rfl (wq (aJ (.bool true) rfl) rfl (aB (aC (aE (aE (aA ?_)))))))))
 refine wq (aH (.bool true) rfl) rfl (wq (gI false rfl rfl) rfl (aB (aC (cJ rfl (aL (aC (aE (aA (aP rfl rfl ?_)))))))))
 refine bH rfl rfl (bH rfl rfl (aB (aC (aO (fY (.int _ _) (.int _ _) rfl rfl ?_)))))
 have hval : (if decide (a < 0) = true then (if 0 < r then -(q : Int) - 1 else -(q : Int)) else (q : Int)) = a * (m : Int) / (z : Int) := bBh hq hr hd0
 exact ⟨sL (iE hval) rfl, M3.below⟩
set_option maxHeartbeats 8000000 in
theorem bQd (w : World) (n : Nat) (hn : n < 18446744073709551616) :
  Calls Tryz.prog 242 #[.int .u64 (n : Int)] w (fun ex w' => ∃ v, ex = .returned v ∧ (fun v w' => v = .int .u64 ((vR n : Nat) : Int) ∧ Below w.heap.size w w') v w') := by
 refine aI #[.tmp 2] 32 Tryz.func242 rfl Tryz.results242 Tryz.ntmps242 rfl ?_
 have M0 := Mem.refl w
 refine aE (aA (bH rfl rfl (aB (aC (aE (aA (aP rfl rfl (bH rfl rfl (bH rfl rfl ?_)))))))))
 refine aB (aC (aE (aE (aA (aP rfl rfl (aB (aC (aQ (dS (σ := Nat × Nat × Nat) [2] (fun (i, R, e) => [(8, .int .i64 (i : Int)), (3, .int .u64 ((n - R * R : Nat) : Int)), (4, .int .u64 ((R * e : Nat) : Int))]) (fun (i, R, e) w' => Iq n i R e ∧ Mem w [] [] w') (fun (i, R, e) => 32 - i) (0, 0, 4294967296) (bB rfl (bB (iv rfl (by simp)) (bB (iv rfl (by simp)) dZ))) (⟨bIf hn, M0⟩) ?_)))))))))
 rintro ⟨i, R, e⟩ ρ1 w1 ⟨I, hM1⟩
 have hile := I.ile
 have hle := I.le
 refine aE (aA (cY rfl rfl rfl rfl (aB (aC (aE ?_)))))
 refine aW rfl (fun h9 => ?_) (fun h9 => ?_)
 ·obtain ⟨f, hf1, hf2, hf3, hf4, hf5, hf6, hf7, hf8, hfy, hfn⟩ := bGm (by omega) I
  refine aL (aC (aE (aQ (aE (aA (aP rfl rfl (bH rfl rfl (aB (aC (aE (aA (aP rfl rfl (wq (fC rfl rfl (by omega) (by omega)) rfl ?_)))))))))))))
  refine wq (jT rfl rfl (by omega)) rfl (aK 13 (.int .u64 ((f * f : Nat) : Int)) (iE ((bHn (2 * i) _ (by omega) (by omega)).trans (congrArg _ hf4))) (bH rfl rfl (aB (aC (aE (aA (aP rfl rfl (aP rfl rfl ?_))))))))
  refine aP rfl rfl (wq (cA (.int _ _) rfl rfl rfl) rfl (aK 17 (.int .u64 ((R * e + f * f : Nat) : Int)) (iE (by rw [gD]; omega)) (cY rfl rfl rfl rfl (aB (aC ?_)))))
  refine aW rfl (fun h18 => ?_) (fun h18 => ?_)
  ·have h18' : R * e + f * f ≤ n - R * R := by omega
   refine aE (aA (aP rfl rfl (aP rfl rfl (aP rfl rfl (wq (cA (.int _ _) rfl rfl rfl) rfl (aK 22 (.int .u64 ((R * e + f * f : Nat) : Int)) (iE (by rw [gD]; omega)) ?_))))))
   refine wq (cA (.int _ _) rfl rfl rfl) rfl (aK 23 (.int .u64 ((n - (R + f) * (R + f) : Nat) : Int)) (iE (by rw [gD]; omega)) (bH rfl rfl (aB (aC (aA (aP rfl rfl (wq (jT rfl rfl (by decide)) rfl ?_)))))))
   refine aK 25 (.int .u64 ((R * f : Nat) : Int)) (iE ((bEp (R * e)).trans (congrArg _ hf5))) (aP rfl rfl (wq (cA (.int _ _) rfl rfl rfl) rfl (aK 27 (.int .u64 (((R + f) * f : Nat) : Int)) (iE (by rw [gD]; omega)) (bH rfl rfl (aB ?_)))))
   refine cT (aC (aA (wq (aY rfl rfl (by omega) (by omega)) rfl (aP rfl rfl (aB ?_)))))
   refine cD (i + 1, R + f, f) (bB rfl (bB rfl (bB rfl dZ))) (cK rfl gW) ?_ ?_
   ·exact ⟨hfy h18', hM1⟩
   ·(show 32 - (i + 1) < 32 - i; omega)
  ·have h18' : ¬ (R * e + f * f ≤ n - R * R) := by omega
   refine aA (aP rfl rfl (wq (jT rfl rfl (by decide)) rfl (aK 29 (.int .u64 ((R * f : Nat) : Int)) (iE ((bEp (R * e)).trans (congrArg _ hf5))) (bH rfl rfl (aB ?_)))))
   refine cT (aC (aA (wq (aY rfl rfl (by omega) (by omega)) rfl (aP rfl rfl (aB ?_)))))
   refine cD (i + 1, R, f) (bB rfl (bB rfl (bB rfl dZ))) (cK rfl gW) ?_ ?_
   ·exact ⟨hfn h18', hM1⟩
   ·(show 32 - (i + 1) < 32 - i; omega)
 ·obtain rfl : i = 32 := by omega
  refine cW (dE (dL (eS (aC (aE (aA (aP rfl rfl ?_)))))))
  refine bH rfl rfl (aB (aC (aO (cG (.int _ _) rfl ?_))))
  exact ⟨iE (by rw [bHj I]), hM1.below⟩
set_option maxHeartbeats 4000000 in
theorem sM (w : World) (a b : Int × Int) (ha : I32 a) (hb : I32 b) :
  Calls Tryz.prog 239 #[(.agg (cH a).toArray), (.agg (cH b).toArray)] w (fun ex w' => ∃ v, ex = .returned v ∧ (fun v w' => v = .tuple #[.int .i64 (b.1 - a.1), .int .i64 (b.2 - a.2)] ∧ Below w.heap.size w w') v w') := by
 have hax := ha.x
 have hay := ha.y
 have hbx := hb.x
 have hby := hb.y
 refine aI #[.tmp 4, .tmp 5] 20 Tryz.func239 rfl Tryz.results239 Tryz.ntmps239 rfl ?_
 have M0 := Mem.refl w
 refine aE (aA (bJ (.agg (List.toArray _)) M0 rfl rfl rfl (fun b1 w1 M1 => (bJ (.agg (List.toArray _)) M1 rfl rfl rfl (fun b2 w2 M2 => (bH rfl rfl (bH rfl rfl (aB (aC (aE ?_))))))))))
 refine bR [(0, 0), (1, 1), (2, 0), (3, 0), (4, 1), (5, 0), (6, 0), (7, 0), (8, 1), (9, 0), (10, 0), (11, 1), (12, 0), (13, 0), (14, 0), (15, 0)] mixed rfl (by kernel_rfl) (fun w3 hb3 hh3 => ?_)
 have M3 := M2.drew hb3 hh3
 refine aU rfl rfl rfl (fun _ => aD 0 cS rfl) (bS rfl rfl rfl (aM 1 (.int _ _) aV M3 rfl rfl rfl) (aU rfl rfl rfl (fun _ => bA dP Tryz.underlying2 rfl (fG _ (by omega) (by omega))) (aU rfl rfl rfl (fun _ => aD 0 cS rfl) (bS rfl rfl rfl (aM 0 (.int _ _) aV M3 rfl rfl rfl) ?_))))
 refine aU rfl rfl rfl (fun _ => bA dP Tryz.underlying2 rfl (fG _ (by omega) (by omega))) (aU rfl rfl rfl (fun _ => fR rfl rfl (by omega) (by omega)) (aU rfl rfl rfl (fun _ => aD 1 cN rfl) (bS rfl rfl rfl (aM 1 (.int _ _) aV M3 rfl rfl rfl) (aU rfl rfl rfl (fun _ => bA dP Tryz.underlying2 rfl (fG _ (by omega) (by omega))) ?_))))
 refine aU rfl rfl rfl (fun _ => aD 1 cN rfl) (bS rfl rfl rfl (aM 0 (.int _ _) aV M3 rfl rfl rfl) (aU rfl rfl rfl (fun _ => bA dP Tryz.underlying2 rfl (fG _ (by omega) (by omega))) (aU rfl rfl rfl (fun _ => fR rfl rfl (by omega) (by omega)) (mG rfl rfl rfl (mG rfl rfl rfl ?_)))))
 refine bX (aC (aO (fY (.int _ _) (.int _ _) rfl rfl ?_)))
 exact ⟨rfl, M3.below⟩
set_option maxHeartbeats 4000000 in
theorem aDz (w : World) (n : Int) (hn : vL n) :
  Calls Tryz.prog 240 #[.int .i64 n] w (fun ex w' => ∃ v, ex = .returned v ∧ (fun v w' => v = .int .u64 ((n.natAbs * n.natAbs : Nat) : Int) ∧ Below w.heap.size w w') v w') := by
 have hlt := (rT hn hn).2.1
 unfold vL at hn
 refine aI #[.tmp 2] 12 Tryz.func240 rfl Tryz.results240 Tryz.ntmps240 rfl ?_
 have M0 := Mem.refl w
 refine aE (aA (bH rfl rfl (aB (aC (aE (aE (aA (aP rfl rfl (cY rfl rfl rfl rfl (aB (aC ?_)))))))))))
 refine aW rfl (fun h4 => ?_) (fun h4 => ?_)
 ·refine aA (aP rfl rfl (wq (qZ rfl) rfl (aK 6 (.int .i64 (-n)) (iE (fG _ (by omega) (by omega))) (bH rfl rfl (aB (aC (aE (aA ?_))))))))
  refine aP rfl rfl (wq (dA lW Tryz.underlying237 rfl) rfl (aK 8 (.int .u64 ((n.natAbs : Nat) : Int)) (iE (by rw [gD]; omega)) (aP rfl rfl (wq (dA lW Tryz.underlying237 rfl) rfl (aK 10 (.int .u64 ((n.natAbs : Nat) : Int)) (iE (by rw [gD]; omega)) ?_)))))
  refine wq (cA (.int _ _) rfl rfl rfl) rfl (aK 11 (.int .u64 ((n.natAbs * n.natAbs : Nat) : Int)) (iE (lE _ _ (by omega))) (bH rfl rfl (aB (aC (aO (cG (.int _ _) rfl ?_))))))
  exact ⟨rfl, M0.below⟩
 ·refine aL (aC (aE (aA (aP rfl rfl (wq (dA lW Tryz.underlying237 rfl) rfl (aK 8 (.int .u64 ((n.natAbs : Nat) : Int)) (iE (by rw [gD]; omega)) (aP rfl rfl (wq (dA lW Tryz.underlying237 rfl) rfl ?_))))))))
  refine aK 10 (.int .u64 ((n.natAbs : Nat) : Int)) (iE (by rw [gD]; omega)) (wq (cA (.int _ _) rfl rfl rfl) rfl (aK 11 (.int .u64 ((n.natAbs * n.natAbs : Nat) : Int)) (iE (lE _ _ (by omega))) (bH rfl rfl (aB (aC (aO (cG (.int _ _) rfl ?_)))))))
  exact ⟨rfl, M0.below⟩
set_option maxHeartbeats 4000000 in
theorem rJ (w : World) (dx dy : Int) (hx : vL dx) (hy : vL dy) :
  Calls Tryz.prog 216 #[.int .i64 dx, .int .i64 dy] w (fun ex w' => ∃ v, ex = .returned v ∧ (fun v w' => v = .int .u64 ((qE dx dy : Nat) : Int) ∧ Below w.heap.size w w') v w') := by
 have hl := rT hx hy
 refine aI #[.tmp 4] 10 Tryz.func216 rfl Tryz.results216 Tryz.ntmps216 rfl ?_
 have M0 := Mem.refl w
 refine aE (aA (bH rfl rfl (aB (aC (aE (aA (aP rfl rfl (bY aYj rfl rfl (aDz _ dx hx) ?_))))))))
 rintro v1 w1 ⟨rfl, hb1⟩
 have M1 := M0.callB hb1
 refine aP rfl rfl (bY aYj rfl rfl (aDz _ dy hy) ?_)
 rintro v2 w2 ⟨rfl, hb2⟩
 have M2 := M1.callB hb2
 refine wq (cA (.int _ _) rfl rfl rfl) rfl (aK 9 (.int .u64 ((qE dx dy : Nat) : Int)) (iE (by rw [gD]; unfold qE at *; omega)) (bH rfl rfl (aB (aC (aO (cG (.int _ _) rfl ?_))))))
 exact ⟨rfl, M2.below⟩
set_option maxHeartbeats 4000000 in
theorem aCi (w : World) (dx dy : Int) (hx : vL dx) (hy : vL dy) :
  Calls Tryz.prog 218 #[.int .i64 dx, .int .i64 dy] w (fun ex w' => ∃ v, ex = .returned v ∧ (fun v w' => v = .int .i64 (len dx dy) ∧ Below w.heap.size w w') v w') := by
 have hl := vV hx hy
 refine aI #[.tmp 4] 10 Tryz.func218 rfl Tryz.results218 Tryz.ntmps218 rfl ?_
 have M0 := Mem.refl w
 refine aE (aA (bH rfl rfl (aB (aC (aE (aA (aP rfl rfl (aP rfl rfl (bY aPi rfl rfl (rJ _ dx dy hx hy) ?_)))))))))
 rintro v1 w1 ⟨rfl, hb1⟩
 have M1 := M0.callB hb1
 refine bY bLv rfl rfl (bQd _ (qE dx dy) (rT hx hy).1) ?_
 rintro v2 w2 ⟨rfl, hb2⟩
 have M2 := M1.callB hb2
 refine wq (dA vP Tryz.underlying2 rfl) rfl (aK 9 (.int .i64 (len dx dy)) (iE (fG (len dx dy) (by omega) (by omega))) (bH rfl rfl (aB (aC (aO (cG (.int _ _) rfl ?_))))))
 exact ⟨rfl, M2.below⟩
set_option maxHeartbeats 4000000 in
theorem aHh (w : World) (a b : Int) (hb : 0 < b) (h0 : -1000000000000000000 ≤ a) (h1 : a ≤ 1000000000000000000) :
  Calls Tryz.prog 241 #[.int .i64 a, .int .i64 b] w (fun ex w' => ∃ v, ex = .returned v ∧ (fun v w' => v = .int .i64 (a / b) ∧ Below w.heap.size w w') v w') := by
 have hf := aAg (a := a) hb
 have hb1 := aCm a b
 refine aI #[.tmp 4] 16 Tryz.func241 rfl Tryz.results241 Tryz.ntmps241 rfl ?_
 have M0 := Mem.refl w
 refine aE (aA (bH rfl rfl (aB (aC (aE (aA (aP rfl rfl (aP rfl rfl (wq (fZ rfl rfl (by omega)) rfl ?_)))))))))
 refine aK 8 (.int .i64 (a.tdiv b)) (iE (fG _ (by omega) (by omega))) (bH rfl rfl (aB (aC (aE (aE (aA (aP rfl rfl (aP rfl rfl (wq (iK rfl rfl (by omega)) rfl ?_)))))))))
 refine cY rfl rfl rfl rfl (aB (aC ?_))
 refine aW rfl (fun h12 => ?_) (fun h12 => ?_)
 ·refine aA (aP rfl rfl (wq (fR rfl rfl (by omega) (by omega)) rfl (bH rfl rfl (aB (aC (aE (aA (aP rfl rfl ?_))))))))
  refine bH rfl rfl (aB (aC (aO (cG (.int _ _) rfl ?_))))
  exact ⟨iE (by first | exact hf.1 (by omega) | exact hf.2 (by omega)), M0.below⟩
 ·refine aL (aC (aE (aA (aP rfl rfl (bH rfl rfl (aB (aC (aO (cG (.int _ _) rfl ?_)))))))))
  exact ⟨iE (by first | exact hf.1 (by omega) | exact hf.2 (by omega)), M0.below⟩
set_option maxHeartbeats 4000000 in
theorem bEq (w : World) (dx dy : Int) (hx : vL dx) (hy : vL dy) :
  Calls Tryz.prog 217 #[.int .i64 dx, .int .i64 dy] w (fun ex w' => ∃ v, ex = .returned v ∧ (fun v w' => v = (.agg (cH (pE dx dy)).toArray) ∧ Below w.heap.size w w') v w') := by
 have hl := vV hx hy
 have hxx := hx
 have hyy := hy
 unfold vL at hxx hyy
 refine aI #[.cell 4 37] 23 Tryz.func217 rfl Tryz.results217 Tryz.ntmps217 rfl ?_
 have M0 := Mem.refl w
 refine aE (aA (aT iF M0 rfl rfl (fun b1 w1 M1 => (aB (aC (aE (aA (aP rfl rfl (aP rfl rfl (bY aZu rfl rfl (aCi _ dx dy hx hy) ?_))))))))))
 rintro v2 w2 ⟨rfl, hb2⟩
 have M2 := M1.callB hb2
 refine bH rfl rfl (aB (aC (aE (aE (aA (aP rfl rfl (cY rfl rfl rfl rfl (aB (aC ?_)))))))))
 refine aW rfl (fun h10 => ?_) (fun h10 => ?_)
 ·refine aE (aA (wq (cF [(0, .int _ _)] _ fA rfl rfl) rfl (bI 0 _ bM M2 rfl rfl rfl rfl rfl (aR rfl) rfl (fun w3 M3 => (aB (aC (aO (cO (eL 0 bM M3 rfl rfl rfl ?_)))))))))
  exact ⟨by unfold pE; first | (rw [if_pos (by omega)]; rfl) | (rw [if_neg (by omega)]; rfl), M3.below⟩
 ·refine aL (aC (aE (aA (aP rfl rfl (wq (xM rfl rfl (by decide)) rfl (aK 13 (.int .i64 (dx * 65536)) (iE (aHw dx hx)) (aP rfl rfl (bY aZy rfl rfl (aHh _ (dx * 65536) (len dx dy) (by omega) (by omega) (by omega)) ?_))))))))
  rintro v4 w4 ⟨rfl, hb4⟩
  have M4 := M2.callB hb4
  refine wq (dA lW Tryz.underlying21 rfl) rfl (aP rfl rfl (wq (xM rfl rfl (by decide)) rfl (aK 18 (.int .i64 (dy * 65536)) (iE (aHw dy hy)) (aP rfl rfl (bY aZy rfl rfl (aHh _ (dy * 65536) (len dx dy) (by omega) (by omega) (by omega)) ?_)))))
  rintro v5 w5 ⟨rfl, hb5⟩
  have M5 := M4.callB hb5
  refine wq (dA lW Tryz.underlying21 rfl) rfl (wq (cF [(0, .int _ _), (1, .int _ _)] _ fA rfl rfl) rfl (bI 0 _ bM M5 rfl rfl rfl rfl rfl (aR rfl) rfl (fun w6 M6 => (aB (aC (aO (eL 0 bM M6 rfl rfl rfl ?_)))))))
  exact ⟨by unfold pE; first | (rw [if_pos (by omega)]; rfl) | (rw [if_neg (by omega)]; rfl), M6.below⟩
set_option maxHeartbeats 4000000 in
theorem fB (w : World) (a b : Int) (hb : 0 < b) (h0 : -1000000000000000000 ≤ a) (h1 : a ≤ 1000000000000000000) :
  Calls Tryz.prog 152 #[.int .i64 a, .int .i64 b] w (fun ex w' => ∃ v, ex = .returned v ∧ (fun v w' => v = .int .i64 (a / b) ∧ Below w.heap.size w w') v w') := by
 have hf := aAg (a := a) hb
 have hb1 := aCm a b
 refine aI #[.tmp 4] 16 Tryz.func152 rfl Tryz.results152 Tryz.ntmps152 rfl ?_
 have M0 := Mem.refl w
 refine aE (aA (bH rfl rfl (aB (aC (aE (aA (aP rfl rfl (aP rfl rfl (wq (fZ rfl rfl (by omega)) rfl ?_)))))))))
 refine aK 8 (.int .i64 (a.tdiv b)) (iE (fG _ (by omega) (by omega))) (bH rfl rfl (aB (aC (aE (aE (aA (aP rfl rfl (aP rfl rfl (wq (iK rfl rfl (by omega)) rfl ?_)))))))))
 refine cY rfl rfl rfl rfl (aB (aC ?_))
 refine aW rfl (fun h12 => ?_) (fun h12 => ?_)
 ·refine aE (aA (aP rfl rfl (wq (fR rfl rfl (by omega) (by omega)) rfl (bH rfl rfl (aB (aC (aO (cO (cG (.int _ _) rfl ?_)))))))))
  exact ⟨iE (by first | exact hf.1 (by omega) | exact hf.2 (by omega)), M0.below⟩
 ·refine aL (aC (aE (aA (aP rfl rfl (bH rfl rfl (aB (aC (aO (cG (.int _ _) rfl ?_)))))))))
  exact ⟨iE (by first | exact hf.1 (by omega) | exact hf.2 (by omega)), M0.below⟩
set_option maxHeartbeats 8000000 in
theorem aOa (w : World) (n : Nat) (hn : n < 18446744073709551616) :
  Calls Tryz.prog 200 #[.int .u64 (n : Int)] w (fun ex w' => ∃ v, ex = .returned v ∧ (fun v w' => v = .int .u64 ((vR n : Nat) : Int) ∧ Below w.heap.size w w') v w') := by
 have hin := bEh hn
 refine aI #[.tmp 2] 23 Tryz.func200 rfl Tryz.results200 Tryz.ntmps200 rfl ?_
 have M0 := Mem.refl w
 refine aE (aA (bH rfl rfl (aB (aC (aE (aA (bH rfl rfl (aB (aC (aE (aA (bH rfl rfl ?_))))))))))))
 refine aB (aC (aE (aQ (dS (σ := Nat × Nat) [0, 2] (fun (lo, hi) => [(3, .int .u64 (lo : Int)), (4, .int .u64 (hi : Int))]) (fun (lo, hi) w' => (lo ≤ vR n ∧ vR n ≤ hi ∧ hi ≤ 4294967295) ∧ Mem w [] [] w') (fun (lo, hi) => hi - lo) (0, 4294967295) (bB rfl (bB rfl dZ)) (⟨⟨by omega, by omega, by omega⟩, M0⟩) ?_))))
 rintro ⟨lo, hi⟩ ρ1 w1 ⟨⟨hlo, hhi, hh⟩, hM1⟩
 refine aE (aE (aA (aP rfl rfl (aP rfl rfl (cY rfl rfl rfl rfl (aB (aC ?_)))))))
 refine aW rfl (fun h8 => ?_) (fun h8 => ?_)
 ·obtain ⟨m, hm⟩ : ∃ m, m = (lo + hi + 1) / 2 := ⟨_, rfl⟩
  have hmm := bGu (n := n) (m := m)
  have hm2 : m * m ≤ 4294967295 * 4294967295 := Nat.mul_le_mul (by omega) (by omega)
  refine aL (aC (aQ (aE (aA (aP rfl rfl (aP rfl rfl (wq (cA (.int _ _) rfl rfl rfl) rfl (aK 11 (.int .u64 ((lo + hi : Nat) : Int)) (iE (by rw [gD]; omega)) (wq (cA (.int _ _) rfl rfl rfl) rfl ?_)))))))))
  refine aK 12 (.int .u64 ((lo + hi + 1 : Nat) : Int)) (iE (by rw [gD]; omega)) (wq (fZ rfl rfl (by decide)) rfl (aK 13 (.int .u64 (m : Int)) (iE ((iQ (lo + hi + 1) 2 (by omega)).trans (congrArg _ hm.symm))) (bH rfl rfl (aB (aC (aE (aA (aP rfl rfl ?_))))))))
  refine aP rfl rfl (wq (cA (.int _ _) rfl rfl rfl) rfl (aK 16 (.int .u64 ((m * m : Nat) : Int)) (iE (lE m m (by omega))) (aP rfl rfl (cY rfl rfl rfl rfl (aB (aC ?_))))))
  refine aW rfl (fun h18 => ?_) (fun h18 => ?_)
  ·refine aA (aP rfl rfl (bH rfl rfl (aB (cT ?_))))
   refine cD (m, hi) (bB rfl (bB rfl dZ)) (cK rfl (cK rfl gW)) ?_ ?_
   ·exact ⟨⟨hmm.1 (by omega), by omega, by omega⟩, hM1⟩
   ·(show hi - m < hi - lo; omega)
  ·refine aA (aP rfl rfl (wq (cA (.int _ _) rfl rfl rfl) rfl (aK 21 (.int .u64 ((m - 1 : Nat) : Int)) (iE (by rw [gD]; omega)) (bH rfl rfl (aB ?_)))))
   refine cT ?_
   refine cD (lo, m - 1) (bB rfl (bB rfl dZ)) (cK rfl (cK rfl gW)) ?_ ?_
   ·exact ⟨⟨by omega, by have := hmm.2 (by omega); omega, by omega⟩, hM1⟩
   ·(show m - 1 - lo < hi - lo; omega)
 ·refine cW (dE (dL (eS (aC (aE (aA (aP rfl rfl ?_)))))))
  refine bH rfl rfl (aB (aC (aO (cG (.int _ _) rfl ?_))))
  exact ⟨iE (by omega), hM1.below⟩
set_option maxHeartbeats 4000000 in
theorem tJ (w : World) (dx dy : Int) (hx : vL dx) (hy : vL dy) :
  Calls Tryz.prog 199 #[.int .i64 dx, .int .i64 dy] w (fun ex w' => ∃ v, ex = .returned v ∧ (fun v w' => v = .int .u64 ((qE dx dy : Nat) : Int) ∧ Below w.heap.size w w') v w') := by
 have hl := rT hx hy
 unfold vL at hx hy
 refine aI #[.tmp 4] 24 Tryz.func199 rfl Tryz.results199 Tryz.ntmps199 rfl ?_
 have M0 := Mem.refl w
 refine aE (aA (bH rfl rfl (aB (aC (aE (aE (aA (aP rfl rfl (cY rfl rfl rfl rfl (aB (aC ?_)))))))))))
 refine aW rfl (fun h6 => ?_) (fun h6 => ?_)
 ·refine aA (aP rfl rfl (wq (qZ rfl) rfl (aK 8 (.int .i64 (-dx)) (iE (fG _ (by omega) (by omega))) (bH rfl rfl (aB (aC (aE (aE (aA ?_)))))))))
  refine aP rfl rfl (cY rfl rfl rfl rfl (aB (aC ?_)))
  refine aW rfl (fun h10 => ?_) (fun h10 => ?_)
  ·refine aA (aP rfl rfl (wq (qZ rfl) rfl (aK 12 (.int .i64 (-dy)) (iE (fG _ (by omega) (by omega))) (bH rfl rfl (aB (aC (aE (aA ?_))))))))
   refine aP rfl rfl (wq (dA lW Tryz.underlying237 rfl) rfl (aK 14 (.int .u64 ((dx.natAbs : Nat) : Int)) (iE (by rw [gD]; omega)) (aP rfl rfl (wq (dA lW Tryz.underlying237 rfl) rfl (aK 16 (.int .u64 ((dx.natAbs : Nat) : Int)) (iE (by rw [gD]; omega)) ?_)))))
   refine wq (cA (.int _ _) rfl rfl rfl) rfl (aK 17 (.int .u64 ((dx.natAbs * dx.natAbs : Nat) : Int)) (iE (lE _ _ (by omega))) (aP rfl rfl (wq (dA lW Tryz.underlying237 rfl) rfl (aK 19 (.int .u64 ((dy.natAbs : Nat) : Int)) (iE (by rw [gD]; omega)) (aP rfl rfl ?_)))))
   refine wq (dA lW Tryz.underlying237 rfl) rfl (aK 21 (.int .u64 ((dy.natAbs : Nat) : Int)) (iE (by rw [gD]; omega)) (wq (cA (.int _ _) rfl rfl rfl) rfl (aK 22 (.int .u64 ((dy.natAbs * dy.natAbs : Nat) : Int)) (iE (lE _ _ (by omega))) (wq (cA (.int _ _) rfl rfl rfl) rfl (aK 23 (.int .u64 ((qE dx dy : Nat) : Int)) (iE (by rw [gD]; unfold qE at *; omega)) ?_)))))
   refine bH rfl rfl (aB (aC (aO (cG (.int _ _) rfl ?_))))
   exact ⟨rfl, M0.below⟩
  ·refine aL (aC (aE (aA (aP rfl rfl (wq (dA lW Tryz.underlying237 rfl) rfl (aK 14 (.int .u64 ((dx.natAbs : Nat) : Int)) (iE (by rw [gD]; omega)) (aP rfl rfl (wq (dA lW Tryz.underlying237 rfl) rfl ?_))))))))
   refine aK 16 (.int .u64 ((dx.natAbs : Nat) : Int)) (iE (by rw [gD]; omega)) (wq (cA (.int _ _) rfl rfl rfl) rfl (aK 17 (.int .u64 ((dx.natAbs * dx.natAbs : Nat) : Int)) (iE (lE _ _ (by omega))) (aP rfl rfl (wq (dA lW Tryz.underlying237 rfl) rfl (aK 19 (.int .u64 ((dy.natAbs : Nat) : Int)) (iE (by rw [gD]; omega)) ?_)))))
   refine aP rfl rfl (wq (dA lW Tryz.underlying237 rfl) rfl (aK 21 (.int .u64 ((dy.natAbs : Nat) : Int)) (iE (by rw [gD]; omega)) (wq (cA (.int _ _) rfl rfl rfl) rfl (aK 22 (.int .u64 ((dy.natAbs * dy.natAbs : Nat) : Int)) (iE (lE _ _ (by omega))) (wq (cA (.int _ _) rfl rfl rfl) rfl ?_)))))
   refine aK 23 (.int .u64 ((qE dx dy : Nat) : Int)) (iE (by rw [gD]; unfold qE at *; omega)) (bH rfl rfl (aB (aC (aO (cG (.int _ _) rfl ?_)))))
   exact ⟨rfl, M0.below⟩
 ·refine aL (aC (aE (aE (aA (aP rfl rfl (cY rfl rfl rfl rfl (aB (aC ?_))))))))
  refine aW rfl (fun h10 => ?_) (fun h10 => ?_)
  ·refine aA (aP rfl rfl (wq (qZ rfl) rfl (aK 12 (.int .i64 (-dy)) (iE (fG _ (by omega) (by omega))) (bH rfl rfl (aB (aC (aE (aA ?_))))))))
   refine aP rfl rfl (wq (dA lW Tryz.underlying237 rfl) rfl (aK 14 (.int .u64 ((dx.natAbs : Nat) : Int)) (iE (by rw [gD]; omega)) (aP rfl rfl (wq (dA lW Tryz.underlying237 rfl) rfl (aK 16 (.int .u64 ((dx.natAbs : Nat) : Int)) (iE (by rw [gD]; omega)) ?_)))))
   refine wq (cA (.int _ _) rfl rfl rfl) rfl (aK 17 (.int .u64 ((dx.natAbs * dx.natAbs : Nat) : Int)) (iE (lE _ _ (by omega))) (aP rfl rfl (wq (dA lW Tryz.underlying237 rfl) rfl (aK 19 (.int .u64 ((dy.natAbs : Nat) : Int)) (iE (by rw [gD]; omega)) (aP rfl rfl ?_)))))
   refine wq (dA lW Tryz.underlying237 rfl) rfl (aK 21 (.int .u64 ((dy.natAbs : Nat) : Int)) (iE (by rw [gD]; omega)) (wq (cA (.int _ _) rfl rfl rfl) rfl (aK 22 (.int .u64 ((dy.natAbs * dy.natAbs : Nat) : Int)) (iE (lE _ _ (by omega))) (wq (cA (.int _ _) rfl rfl rfl) rfl (aK 23 (.int .u64 ((qE dx dy : Nat) : Int)) (iE (by rw [gD]; unfold qE at *; omega)) ?_)))))
   refine bH rfl rfl (aB (aC (aO (cG (.int _ _) rfl ?_))))
   exact ⟨rfl, M0.below⟩
  ·refine aL (aC (aE (aA (aP rfl rfl (wq (dA lW Tryz.underlying237 rfl) rfl (aK 14 (.int .u64 ((dx.natAbs : Nat) : Int)) (iE (by rw [gD]; omega)) (aP rfl rfl (wq (dA lW Tryz.underlying237 rfl) rfl ?_))))))))
   refine aK 16 (.int .u64 ((dx.natAbs : Nat) : Int)) (iE (by rw [gD]; omega)) (wq (cA (.int _ _) rfl rfl rfl) rfl (aK 17 (.int .u64 ((dx.natAbs * dx.natAbs : Nat) : Int)) (iE (lE _ _ (by omega))) (aP rfl rfl (wq (dA lW Tryz.underlying237 rfl) rfl (aK 19 (.int .u64 ((dy.natAbs : Nat) : Int)) (iE (by rw [gD]; omega)) ?_)))))
   refine aP rfl rfl (wq (dA lW Tryz.underlying237 rfl) rfl (aK 21 (.int .u64 ((dy.natAbs : Nat) : Int)) (iE (by rw [gD]; omega)) (wq (cA (.int _ _) rfl rfl rfl) rfl (aK 22 (.int .u64 ((dy.natAbs * dy.natAbs : Nat) : Int)) (iE (lE _ _ (by omega))) (wq (cA (.int _ _) rfl rfl rfl) rfl ?_)))))
   refine aK 23 (.int .u64 ((qE dx dy : Nat) : Int)) (iE (by rw [gD]; unfold qE at *; omega)) (bH rfl rfl (aB (aC (aO (cG (.int _ _) rfl ?_)))))
   exact ⟨rfl, M0.below⟩
set_option maxHeartbeats 4000000 in
theorem rS (w : World) (dx dy : Int) (hx : vL dx) (hy : vL dy) :
  Calls Tryz.prog 177 #[.int .i64 dx, .int .i64 dy] w (fun ex w' => ∃ v, ex = .returned v ∧ (fun v w' => v = .int .i64 (len dx dy) ∧ Below w.heap.size w w') v w') := by
 have hl := vV hx hy
 refine aI #[.tmp 4] 10 Tryz.func177 rfl Tryz.results177 Tryz.ntmps177 rfl ?_
 have M0 := Mem.refl w
 refine aE (aA (bH rfl rfl (aB (aC (aE (aA (aP rfl rfl (aP rfl rfl (bY aZs rfl rfl (tJ _ dx dy hx hy) ?_)))))))))
 rintro v1 w1 ⟨rfl, hb1⟩
 have M1 := M0.callB hb1
 refine bY bKb rfl rfl (aOa _ (qE dx dy) (rT hx hy).1) ?_
 rintro v2 w2 ⟨rfl, hb2⟩
 have M2 := M1.callB hb2
 refine wq (dA vP Tryz.underlying2 rfl) rfl (aK 9 (.int .i64 (len dx dy)) (iE (fG (len dx dy) (by omega) (by omega))) (bH rfl rfl (aB (aC (aO (cG (.int _ _) rfl ?_))))))
 exact ⟨rfl, M2.below⟩
set_option maxHeartbeats 4000000 in
theorem aRl (w : World) (dx dy : Int) (hx : vL dx) (hy : vL dy) :
  Calls Tryz.prog 176 #[.int .i64 dx, .int .i64 dy] w (fun ex w' => ∃ v, ex = .returned v ∧ (fun v w' => v = (.agg (cH (pE dx dy)).toArray) ∧ Below w.heap.size w w') v w') := by
 have hl := vV hx hy
 have hxx := hx
 have hyy := hy
 unfold vL at hxx hyy
 have hl0 := bAi dx dy
 refine aI #[.cell 4 37] 27 Tryz.func176 rfl Tryz.results176 Tryz.ntmps176 rfl ?_
 have M0 := Mem.refl w
 refine aE (aA (aT iF M0 rfl rfl (fun b1 w1 M1 => (aB (aC (aE (aE (aA (aP rfl rfl (cY rfl rfl rfl rfl (wq (aH (.bool (decide _)) rfl) rfl ?_)))))))))))
 refine dN 8 rfl (fun g8 => ?_) (fun g8 => ?_)
 ·refine aP rfl rfl (cY rfl rfl rfl rfl (wq (bQ true (.bool (decide _)) rfl rfl) rfl (aB (aC ?_))))
  refine aW rfl (fun h11 => ?_) (fun h11 => ?_)
  ·refine aE (aA (wq (cF [(0, .int _ _)] _ fA rfl rfl) rfl (bI 0 _ bM M1 rfl rfl rfl rfl rfl (aR rfl) rfl (fun w2 M2 => (aB (aC (aO (cO (eL 0 bM M2 rfl rfl rfl ?_)))))))))
   exact ⟨by unfold pE; first | (rw [if_pos (by omega)]; rfl) | (rw [if_neg (by omega)]; rfl), M2.below⟩
  ·refine aL (aC (aE (aA (aP rfl rfl (aP rfl rfl (bY aRm rfl rfl (rS _ dx dy hx hy) ?_))))))
   rintro v3 w3 ⟨rfl, hb3⟩
   have M3 := M1.callB hb3
   refine bH rfl rfl (aB (aC (aE (aA (aP rfl rfl (wq (fC rfl rfl (by omega) (by omega)) rfl (aP rfl rfl (bY kW rfl rfl (fB _ (dx * 65536) (len dx dy) (by omega) (by omega) (by omega)) ?_))))))))
   rintro v4 w4 ⟨rfl, hb4⟩
   have M4 := M3.callB hb4
   refine wq (dA lW Tryz.underlying21 rfl) rfl (aP rfl rfl (wq (fC rfl rfl (by omega) (by omega)) rfl (aP rfl rfl (bY kW rfl rfl (fB _ (dy * 65536) (len dx dy) (by omega) (by omega) (by omega)) ?_))))
   rintro v5 w5 ⟨rfl, hb5⟩
   have M5 := M4.callB hb5
   refine wq (dA lW Tryz.underlying21 rfl) rfl (wq (cF [(0, .int _ _), (1, .int _ _)] _ fA rfl rfl) rfl (bI 0 _ bM M5 rfl rfl rfl rfl rfl (aR rfl) rfl (fun w6 M6 => (aB (aC (aO (eL 0 bM M6 rfl rfl rfl ?_)))))))
   exact ⟨by unfold pE; first | (rw [if_pos (by omega)]; rfl) | (rw [if_neg (by omega)]; rfl), M6.below⟩
 ·refine aN rfl rfl (aN rfl rfl (wq (bQ false (.bool false) rfl rfl) rfl (aB (aC (cJ rfl (aL (aC (aE (aA ?_)))))))))
  refine aP rfl rfl (aP rfl rfl (bY aRm rfl rfl (rS _ dx dy hx hy) ?_))
  rintro v7 w7 ⟨rfl, hb7⟩
  have M7 := M1.callB hb7
  refine bH rfl rfl (aB (aC (aE (aA (aP rfl rfl (wq (fC rfl rfl (by omega) (by omega)) rfl (aP rfl rfl (bY kW rfl rfl (fB _ (dx * 65536) (len dx dy) (by omega) (by omega) (by omega)) ?_))))))))
  rintro v8 w8 ⟨rfl, hb8⟩
  have M8 := M7.callB hb8
  refine wq (dA lW Tryz.underlying21 rfl) rfl (aP rfl rfl (wq (fC rfl rfl (by omega) (by omega)) rfl (aP rfl rfl (bY kW rfl rfl (fB _ (dy * 65536) (len dx dy) (by omega) (by omega) (by omega)) ?_))))
  rintro v9 w9 ⟨rfl, hb9⟩
  have M9 := M8.callB hb9
  refine wq (dA lW Tryz.underlying21 rfl) rfl (wq (cF [(0, .int _ _), (1, .int _ _)] _ fA rfl rfl) rfl (bI 0 _ bM M9 rfl rfl rfl rfl rfl (aR rfl) rfl (fun w10 M10 => (aB (aC (aO (eL 0 bM M10 rfl rfl rfl ?_)))))))
  exact ⟨by unfold pE; first | (rw [if_pos (by omega)]; rfl) | (rw [if_neg (by omega)]; rfl), M10.below⟩
set_option maxHeartbeats 4000000 in
theorem zW (w : World) (b : Body) (hb : Okb b) :
  Calls Tryz.prog 197 #[(.agg (aF b).toArray)] w (fun ex w' => ∃ v, ex = .returned v ∧ (fun v w' => v = (.agg (cH (zM b)).toArray) ∧ Below w.heap.size w w') v w') := by
 have ha := hb.a
 have hp := hb.p
 refine aI #[.cell 2 37] 18 Tryz.func197 rfl Tryz.results197 Tryz.ntmps197 rfl ?_
 have M0 := Mem.refl w
 refine aE (aA (bJ (.agg (List.toArray _)) M0 rfl rfl rfl (fun b1 w1 M1 => (aT iF M1 rfl rfl (fun b2 w2 M2 => (aB (aC (aE (aA (wq (aD 6 fK rfl) rfl (wq (aD 0 cS rfl) rfl ?_)))))))))))
 refine wq (aM 0 (.int _ _) aV M2 rfl rfl rfl) rfl (wq (aD 2 iR rfl) rfl (wq (aD 0 cS rfl) rfl (wq (aM 0 (.int _ _) aV M2 rfl rfl rfl) rfl (wq (mP rfl rfl (jC _ (by omega) (by omega))) rfl (wq (aD 6 fK rfl) rfl ?_)))))
 refine wq (aD 1 cN rfl) rfl (wq (aM 0 (.int _ _) aV M2 rfl rfl rfl) rfl (wq (aD 2 iR rfl) rfl (wq (aD 1 cN rfl) rfl (wq (aM 0 (.int _ _) aV M2 rfl rfl rfl) rfl (wq (mP rfl rfl (jC _ (by omega) (by omega))) rfl ?_)))))
 refine wq (cF [(0, .int _ _), (1, .int _ _)] _ fA rfl rfl) rfl (bI 1 _ bM M2 rfl rfl rfl rfl rfl (aR rfl) rfl (fun w3 M3 => (aB (aC (aO (eL 1 bM M3 rfl rfl rfl ?_))))))
 exact ⟨rfl, M3.below⟩
set_option maxHeartbeats 4000000 in
theorem yI (w : World) (b : Body) (hb : Okb b) :
  Calls Tryz.prog 198 #[(.agg (aF b).toArray)] w (fun ex w' => ∃ v, ex = .returned v ∧ (fun v w' => v = (.agg (cH (zI b)).toArray) ∧ Below w.heap.size w w') v w') := by
 have ha := hb.a
 have hp := hb.p
 refine aI #[.cell 2 37] 18 Tryz.func198 rfl Tryz.results198 Tryz.ntmps198 rfl ?_
 have M0 := Mem.refl w
 refine aE (aA (bJ (.agg (List.toArray _)) M0 rfl rfl rfl (fun b1 w1 M1 => (aT iF M1 rfl rfl (fun b2 w2 M2 => (aB (aC (aE (aA (wq (aD 6 fK rfl) rfl (wq (aD 0 cS rfl) rfl ?_)))))))))))
 refine wq (aM 0 (.int _ _) aV M2 rfl rfl rfl) rfl (wq (aD 2 iR rfl) rfl (wq (aD 0 cS rfl) rfl (wq (aM 0 (.int _ _) aV M2 rfl rfl rfl) rfl (wq (jD rfl rfl (jC _ (by omega) (by omega))) rfl (wq (aD 6 fK rfl) rfl ?_)))))
 refine wq (aD 1 cN rfl) rfl (wq (aM 0 (.int _ _) aV M2 rfl rfl rfl) rfl (wq (aD 2 iR rfl) rfl (wq (aD 1 cN rfl) rfl (wq (aM 0 (.int _ _) aV M2 rfl rfl rfl) rfl (wq (jD rfl rfl (jC _ (by omega) (by omega))) rfl ?_)))))
 refine wq (cF [(0, .int _ _), (1, .int _ _)] _ fA rfl rfl) rfl (bI 1 _ bM M2 rfl rfl rfl rfl rfl (aR rfl) rfl (fun w3 M3 => (aB (aC (aO (eL 1 bM M3 rfl rfl rfl ?_))))))
 exact ⟨rfl, M3.below⟩
set_option maxHeartbeats 4000000 in
theorem aWy (w : World) (b : Body) (hb : Okb b) :
  Calls Tryz.prog 258 #[(.agg (aF b).toArray)] w (fun ex w' => ∃ v, ex = .returned v ∧ (fun v w' => v = .tuple #[(.agg (cH (zM b)).toArray), (.agg (cH (zI b)).toArray)] ∧ Below w.heap.size w w') v w') := by
 have ha := hb.a
 have hp := hb.p
 refine aI #[.cell 2 37, .cell 3 37] 36 Tryz.func258 rfl Tryz.results258 Tryz.ntmps258 rfl ?_
 have M0 := Mem.refl w
 refine aE (aA (bJ (.agg (List.toArray _)) M0 rfl rfl rfl (fun b1 w1 M1 => (aT iF M1 rfl rfl (fun b2 w2 M2 => (aT iF M2 rfl rfl (fun b3 w3 M3 => (aB (aC (aE (aA (wq (aD 6 fK rfl) rfl ?_))))))))))))
 refine wq (aD 0 cS rfl) rfl (wq (aM 0 (.int _ _) aV M3 rfl rfl rfl) rfl (wq (aD 2 iR rfl) rfl (wq (aD 0 cS rfl) rfl (wq (aM 0 (.int _ _) aV M3 rfl rfl rfl) rfl (wq (mP rfl rfl (jC _ (by omega) (by omega))) rfl ?_)))))
 refine wq (aD 6 fK rfl) rfl (wq (aD 1 cN rfl) rfl (wq (aM 0 (.int _ _) aV M3 rfl rfl rfl) rfl (wq (aD 2 iR rfl) rfl (wq (aD 1 cN rfl) rfl (wq (aM 0 (.int _ _) aV M3 rfl rfl rfl) rfl ?_)))))
 refine wq (mP rfl rfl (jC _ (by omega) (by omega))) rfl (wq (cF [(0, .int _ _), (1, .int _ _)] _ fA rfl rfl) rfl (bI 1 _ bM M3 rfl rfl rfl rfl rfl (aR rfl) rfl (fun w4 M4 => (aB (aC (aE (aA (wq (aD 6 fK rfl) rfl (wq (aD 0 cS rfl) rfl ?_)))))))))
 refine wq (aM 0 (.int _ _) aV M4 rfl rfl rfl) rfl (wq (aD 2 iR rfl) rfl (wq (aD 0 cS rfl) rfl (wq (aM 0 (.int _ _) aV M4 rfl rfl rfl) rfl (wq (jD rfl rfl (jC _ (by omega) (by omega))) rfl (wq (aD 6 fK rfl) rfl ?_)))))
 refine wq (aD 1 cN rfl) rfl (wq (aM 0 (.int _ _) aV M4 rfl rfl rfl) rfl (wq (aD 2 iR rfl) rfl (wq (aD 1 cN rfl) rfl (wq (aM 0 (.int _ _) aV M4 rfl rfl rfl) rfl (wq (jD rfl rfl (jC _ (by omega) (by omega))) rfl ?_)))))
 refine wq (cF [(0, .int _ _), (1, .int _ _)] _ fA rfl rfl) rfl (bI 2 _ bM M4 rfl rfl rfl rfl rfl (aR rfl) rfl (fun w5 M5 => (aB (aC (aE (bR [(0, 1), (1, 1), (2, 2), (3, 2)] mixed rfl (by kernel_rfl) (fun w6 hb6 hh6 => ?_)))))))
 have M6 := M5.drew hb6 hh6
 refine bS rfl rfl rfl (aX 1 bM M6 rfl rfl rfl) (bS rfl rfl rfl (aX 2 bM M6 rfl rfl rfl) (dU [false, true] rfl (by kernel_rfl) (bI 1 _ bM M6 rfl rfl rfl rfl rfl (aR rfl) rfl (fun w7 M7 => ?_))))
 refine aB (aC ⟨(eD (bL rfl (aX 2 bM M7 rfl rfl rfl)) dT), ?_⟩)
 refine dU [true] rfl (by kernel_rfl) (bI 2 _ bM M7 rfl rfl rfl rfl rfl (aR rfl) rfl (fun w8 M8 => ?_))
 refine aB (aC ⟨dT, ?_⟩)
 refine bX (aC (aO (aSt 1 2 bM M8 rfl rfl rfl rfl rfl rfl ?_)))
 exact ⟨rfl, M8.below⟩
set_option maxHeartbeats 4000000 in
theorem aMh (w : World) (p q c : Pt) (h : SgI p q) (hc : PtI c) :
  Calls Tryz.prog 282 #[(.agg (cH p).toArray), (.agg (cH q).toArray), (.agg (cH c).toArray)] w (fun ex w' => ∃ v, ex = .returned v ∧ (fun v w' => v = .tuple #[.int .i64 (oY p q c), .int .i64 (mI p q)] ∧ Below w.heap.size w w') v w') := by
 have hD := nD h
 have hx := aHi h hc
 refine aI #[.tmp 6, .tmp 7] 42 Tryz.func282 rfl Tryz.results282 Tryz.ntmps282 rfl ?_
 have M0 := Mem.refl w
 refine aE (aA (bJ (.agg (List.toArray _)) M0 rfl rfl rfl (fun b1 w1 M1 => (bJ (.agg (List.toArray _)) M1 rfl rfl rfl (fun b2 w2 M2 => (bJ (.agg (List.toArray _)) M2 rfl rfl rfl (fun b3 w3 M3 => (bH rfl rfl (bH rfl rfl ?_)))))))))
 refine aB (aC (aE (aA (wq (aX 0 bM M3 rfl rfl rfl) rfl (wq (aX 1 bM M3 rfl rfl rfl) rfl (bY aEw rfl rfl (sM _ p q h.hp.i32 h.hq.i32) ?_))))))
 rintro v4 w4 ⟨rfl, hb4⟩
 have M4 := M3.callB hb4
 refine wq (aH (.tuple (List.toArray _)) rfl) rfl (wq (bN (.int _ _) rfl rfl) rfl (wq (bN (.int _ _) rfl rfl) rfl (bH rfl rfl (bH rfl rfl (aB (aC (aE (aA ?_))))))))
 refine wq (aX 0 bM M4 rfl rfl rfl) rfl (wq (aX 2 bM M4 rfl rfl rfl) rfl (bY aEw rfl rfl (sM _ p c h.hp.i32 hc.i32) ?_))
 rintro v5 w5 ⟨rfl, hb5⟩
 have M5 := M4.callB hb5
 refine wq (aH (.tuple (List.toArray _)) rfl) rfl (wq (bN (.int _ _) rfl rfl) rfl (wq (bN (.int _ _) rfl rfl) rfl (bH rfl rfl (bH rfl rfl (aB (aC (aE (aA ?_))))))))
 refine aP rfl rfl (aP rfl rfl (wq (fC rfl rfl (by omega) (by omega)) rfl (aP rfl rfl (aP rfl rfl (wq (fC rfl rfl (by omega) (by omega)) rfl ?_)))))
 refine wq (aY rfl rfl (by omega) (by omega)) rfl (aK 30 (.int .i64 (mI p q)) rfl (bH rfl rfl (aB (aC (aE (aA (aP rfl rfl (aP rfl rfl ?_))))))))
 refine wq (fC rfl rfl (by omega) (by omega)) rfl (aP rfl rfl (aP rfl rfl (wq (fC rfl rfl (by omega) (by omega)) rfl (wq (aY rfl rfl (by omega) (by omega)) rfl (aP rfl rfl ?_)))))
 refine wq (aEl rfl rfl ) rfl (wq (pV rfl rfl ) rfl (aP rfl rfl (bH rfl rfl (bH rfl rfl (aB (aC (aO ?_)))))))
 refine fY (.int _ _) (.int _ _) rfl rfl ?_
 exact ⟨rfl, M5.below⟩
set_option maxHeartbeats 4000000 in
theorem aHr (w : World) (f a n d : Int) (bn bd : Nat) (ha : -16777216 ≤ a ∧ a ≤ 16777216) (hn : 0 ≤ n) (hnd : n ≤ d) (hd0 : 0 < d) (hd : d ≤ 562949953421312) (h1 : -16777216 ≤ a * n / d ∧ a * n / d ≤ 16777216) (h2 : -1082130432 ≤ f + a * n / d ∧ f + a * n / d ≤ 1082130432) (K1 : Rd w 1 (some ⟨bn, 0, none⟩) 1 [[.int .i64 n]]) (K2 : Rd w 1 (some ⟨bd, 0, none⟩) 1 [[.int .i64 d]]) :
  Calls Tryz.prog 283 #[.int .i32 f, .int .i64 a, .pointer (some ⟨bn, 0, none⟩), .pointer (some ⟨bd, 0, none⟩)] w (fun ex w' => ∃ v, ex = .returned v ∧ (fun v w' => v = .int .i32 (f + a * n / d) ∧ Below w.heap.size w w') v w') := by
 rw [← gQ bn, ← gQ bd]
 refine aI #[.tmp 6] 20 Tryz.func283 rfl Tryz.results283 Tryz.ntmps283 rfl ?_
 have M0 := Mem.refl w
 refine aE (aA (bH rfl rfl (aB (aC (aE (aA (aP rfl rfl (wq (dX (o := 0) (.int _ _) iZ (K1.mem M0) (show ([[.int .i64 n]] : List (List Value))[0]? = some [.int .i64 n] from rfl) rfl rfl) rfl (wq (dX (o := 0) (.int _ _) iZ (K2.mem M0) (show ([[.int .i64 d]] : List (List Value))[0]? = some [.int .i64 d] from rfl) rfl rfl) rfl ?_)))))))))
 refine bY aJw rfl rfl (bLp _ a n d (by omega) hn hnd hd0 (by omega)) ?_
 rintro v1 w1 ⟨rfl, hb1⟩
 have M1 := M0.callB hb1
 refine wq (aH (.tuple (List.toArray _)) rfl) rfl (wq (bN (.int _ _) rfl rfl) rfl (wq (bN (.int _ _) rfl rfl) rfl (bH rfl rfl (bH rfl rfl (aB (aC (aE (aA ?_))))))))
 refine aP rfl rfl (aP rfl rfl (wq (bA lW Tryz.underlying21 rfl (jC _ (by omega) (by omega))) rfl (wq (jD rfl rfl (jC _ (by omega) (by omega))) rfl (bH rfl rfl (aB (aC (aO ?_)))))))
 refine cG (.int _ _) rfl ?_
 exact ⟨rfl, M1.below⟩
set_option maxHeartbeats 4000000 in
theorem mU (w : World) (p q c : Pt) (h : SgI p q) (hc : PtI c) :
  Calls Tryz.prog 277 #[(.agg (cH p).toArray), (.agg (cH q).toArray), (.agg (cH c).toArray)] w (fun ex w' => ∃ v, ex = .returned v ∧ (fun v w' => v = (.agg (cH (cC p q c)).toArray) ∧ Below w.heap.size w w') v w') := by
 have hD := nD h
 have hn := xQ (c := c) h
 have hx := h.x
 have hy := h.y
 refine aI #[.cell 6 37] 40 Tryz.func277 rfl Tryz.results277 Tryz.ntmps277 rfl ?_
 have M0 := Mem.refl w
 refine aE (aA (bJ (.agg (List.toArray _)) M0 rfl rfl rfl (fun b1 w1 M1 => (bJ (.agg (List.toArray _)) M1 rfl rfl rfl (fun b2 w2 M2 => (bJ (.agg (List.toArray _)) M2 rfl rfl rfl (fun b3 w3 M3 => (aT iF M3 rfl rfl (fun b4 w4 M4 => (aB (aC (aE (aA ?_)))))))))))))
 refine wq (aX 0 bM M4 rfl rfl rfl) rfl (wq (aX 1 bM M4 rfl rfl rfl) rfl (wq (aX 2 bM M4 rfl rfl rfl) rfl (bY bLd rfl rfl (aMh _ p q c h hc) ?_)))
 rintro v5 w5 ⟨rfl, hb5⟩
 have M5 := M4.callB hb5
 refine wq (aH (.tuple (List.toArray _)) rfl) rfl (wq (bN (.int _ _) rfl rfl) rfl (wq (bN (.int _ _) rfl rfl) rfl (aT aCx M5 rfl rfl (fun b6 w6 M6 => (aT aCx M6 rfl rfl (fun b7 w7 M7 => (dB 4 (.int _ _) iZ M7 rfl rfl rfl rfl rfl rfl (fun w8 M8 => ?_))))))))
 refine dB 5 (.int _ _) iZ M8 rfl rfl rfl rfl rfl rfl (fun w9 M9 => (aB (aC (aE (aE (aA (wq (aM 5 (.int _ _) iZ M9 rfl rfl rfl) rfl (cY rfl rfl rfl rfl (aB (aC ?_))))))))))
 refine aW rfl (fun h20 => ?_) (fun h20 => ?_)
 ·refine aE (aA (wq (aX 0 bM M9 rfl rfl rfl) rfl (bI 3 _ bM M9 rfl rfl rfl rfl rfl (aR rfl) rfl (fun w10 M10 => (aB (aC (aO (cO (eL 3 bM M10 rfl rfl rfl ?_)))))))))
  exact ⟨by unfold cC; first | (rw [if_pos h20]; rfl) | (rw [if_neg h20]; rfl), M10.below⟩
 ·have hnr := aEp (c := c) h h20
  refine aL (aC (aE (aA (wq (dR [] [.pointer _, .pointer _] rfl rfl) rfl (wq (aJ (.func _ _ _) rfl) rfl (aB (aC (aE (aA (wq (aX 0 bM M9 rfl rfl rfl) rfl (wq (aX 1 bM M9 rfl rfl rfl) rfl ?_)))))))))))
  refine bY aEw rfl rfl (sM _ p q h.hp.i32 h.hq.i32) ?_
  rintro v11 w11 ⟨rfl, hb11⟩
  have M11 := M9.callB hb11
  refine wq (aH (.tuple (List.toArray _)) rfl) rfl (wq (bN (.int _ _) rfl rfl) rfl (wq (bN (.int _ _) rfl rfl) rfl (bH rfl rfl (bH rfl rfl (aB (aC (aE ?_)))))))
  refine bR [(0, 0), (1, 0), (2, 1), (3, 0), (5, 0), (6, 0), (7, 1), (8, 0), (4, 2), (9, 2), (10, 0), (11, 2)] mixed rfl (by kernel_rfl) (fun w12 hb12 hh12 => ?_)
  have M12 := M11.drew hb12 hh12
  refine aU rfl rfl rfl (fun _ => aH (.func _ _ _) rfl) (aU rfl rfl rfl (fun _ => aD 0 cS rfl) (bS rfl rfl rfl (aM 0 (.int _ _) aV M12 rfl rfl rfl) (eB rfl rfl rfl (aU rfl rfl rfl (fun _ => aH (.func _ _ _) rfl) (aU rfl rfl rfl (fun _ => aD 1 cN rfl) ?_)))))
  refine bS rfl rfl rfl (aM 0 (.int _ _) aV M12 rfl rfl rfl) (eB rfl rfl rfl (dU [false, true] rfl (by kernel_rfl) (bY aYy rfl rfl (aHr _ p.1 (q.1 - p.1) (oY p q c) (mI p q) b6 b7 (by omega) hn.1 hn.2 (by omega) (by omega) hnr.1.1 hnr.1.2 (pF 4 M12 rfl rfl) (pF 5 M12 rfl rfl)) ?_)))
  rintro v13 w13 ⟨rfl, hb13⟩
  have M13 := M12.callB hb13
  refine aB (aC ⟨(eD (bL rfl (aM 0 (.int _ _) aV M13 rfl rfl rfl)) dT), ?_⟩)
  refine dU [true] rfl (by kernel_rfl) (bY aYy rfl rfl (aHr _ p.2 (q.2 - p.2) (oY p q c) (mI p q) b6 b7 (by omega) hn.1 hn.2 (by omega) (by omega) hnr.2.1 hnr.2.2 (pF 4 M13 rfl rfl) (pF 5 M13 rfl rfl)) ?_)
  rintro v14 w14 ⟨rfl, hb14⟩
  have M14 := M13.callB hb14
  refine aB (aC ⟨dT, ?_⟩)
  refine aU rfl rfl rfl (fun _ => cF [(0, .int _ _), (1, .int _ _)] _ fA rfl rfl) (dU [] rfl (by kernel_rfl) (bI 3 _ bM M14 rfl rfl rfl rfl rfl (aR rfl) rfl (fun w15 M15 => ?_)))
  refine aB (aC ⟨dT, ?_⟩)
  refine bX (aC (aO (eL 3 bM M15 rfl rfl rfl ?_)))
  exact ⟨by unfold cC; first | (rw [if_pos h20]; rfl) | (rw [if_neg h20]; rfl), M15.below⟩
set_option maxHeartbeats 4000000 in
theorem xV (w : World) (p q : Pt) (h : SgI p q) :
  Calls Tryz.prog 247 #[(.agg (cH p).toArray), (.agg (cH q).toArray)] w (fun ex w' => ∃ v, ex = .returned v ∧ (fun v w' => v = .int .i64 (mI p q) ∧ Below w.heap.size w w') v w') := by
 have hD := nD h
 have hp := h.hp.i32
 have hq := h.hq.i32
 have hpx := hp.x
 have hpy := hp.y
 have hqx := hq.x
 have hqy := hq.y
 refine aI #[.tmp 4] 28 Tryz.func247 rfl Tryz.results247 Tryz.ntmps247 rfl ?_
 have M0 := Mem.refl w
 refine aE (aA (bJ (.agg (List.toArray _)) M0 rfl rfl rfl (fun b1 w1 M1 => (bJ (.agg (List.toArray _)) M1 rfl rfl rfl (fun b2 w2 M2 => (bH rfl rfl (aB (aC (aE (aA (wq (aD 0 cS rfl) rfl ?_)))))))))))
 refine wq (aM 1 (.int _ _) aV M2 rfl rfl rfl) rfl (wq (bA dP Tryz.underlying2 rfl (fG _ (by omega) (by omega))) rfl (wq (aD 0 cS rfl) rfl (wq (aM 0 (.int _ _) aV M2 rfl rfl rfl) rfl (wq (bA dP Tryz.underlying2 rfl (fG _ (by omega) (by omega))) rfl (wq (fR rfl rfl (by omega) (by omega)) rfl ?_)))))
 refine bH rfl rfl (aB (aC (aE (aA (wq (aD 1 cN rfl) rfl (wq (aM 1 (.int _ _) aV M2 rfl rfl rfl) rfl (wq (bA dP Tryz.underlying2 rfl (fG _ (by omega) (by omega))) rfl (wq (aD 1 cN rfl) rfl ?_))))))))
 refine wq (aM 0 (.int _ _) aV M2 rfl rfl rfl) rfl (wq (bA dP Tryz.underlying2 rfl (fG _ (by omega) (by omega))) rfl (wq (fR rfl rfl (by omega) (by omega)) rfl (bH rfl rfl (aB (aC (aE (aA (aP rfl rfl ?_))))))))
 refine aP rfl rfl (wq (fC rfl rfl (by omega) (by omega)) rfl (aP rfl rfl (aP rfl rfl (wq (fC rfl rfl (by omega) (by omega)) rfl (wq (aY rfl rfl (by omega) (by omega)) rfl ?_)))))
 refine bH rfl rfl (aB (aC (aO (cG (.int _ _) rfl ?_))))
 exact ⟨rfl, M2.below⟩
set_option maxHeartbeats 4000000 in
theorem aOh (w : World) (n lo hi : Int) (h : lo ≤ hi) :
  Calls Tryz.prog 264 #[.int .i64 n, .int .i64 lo, .int .i64 hi] w (fun ex w' => ∃ v, ex = .returned v ∧ (fun v w' => v = .int .i64 (max lo (min n hi)) ∧ Below w.heap.size w w') v w') := by
 refine aI #[.tmp 6] 16 Tryz.func264 rfl Tryz.results264 Tryz.ntmps264 rfl ?_
 have M0 := Mem.refl w
 refine aE (aA (bH rfl rfl (aB (aC (aE (aE (aA (aP rfl rfl (aP rfl rfl (cY rfl rfl rfl rfl ?_))))))))))
 refine aB (aC ?_)
 refine aW rfl (fun h9 => ?_) (fun h9 => ?_)
 ·refine aE (aA (aP rfl rfl (bH rfl rfl (aB (aC (aO (cO (cG (.int _ _) rfl ?_))))))))
  exact ⟨iE (by omega), M0.below⟩
 ·refine aL (aC (aE (aE (aA (aP rfl rfl (aP rfl rfl (cY rfl rfl rfl rfl (aB (aC ?_)))))))))
  refine aW rfl (fun h13 => ?_) (fun h13 => ?_)
  ·refine aE (aA (aP rfl rfl (bH rfl rfl (aB (aC (aO (cO (cG (.int _ _) rfl ?_))))))))
   exact ⟨iE (by omega), M0.below⟩
  ·refine aL (aC (aE (aA (aP rfl rfl (bH rfl rfl (aB (aC (aO (cG (.int _ _) rfl ?_)))))))))
   exact ⟨iE (by omega), M0.below⟩
set_option maxHeartbeats 4000000 in
theorem aMd (w : World) (p q c : Pt) (h : SgI p q) (hc : PtI c) :
  Calls Tryz.prog 248 #[(.agg (cH p).toArray), (.agg (cH q).toArray), (.agg (cH c).toArray)] w (fun ex w' => ∃ v, ex = .returned v ∧ (fun v w' => v = .int .i64 (oY p q c) ∧ Below w.heap.size w w') v w') := by
 have hD := nD h
 have hx := aHi h hc
 have hp := h.hp.i32
 have hq := h.hq.i32
 have hci := hc.i32
 have hpx := hp.x
 have hpy := hp.y
 have hqx := hq.x
 have hqy := hq.y
 have hcx := hci.x
 have hcy := hci.y
 refine aI #[.tmp 6] 48 Tryz.func248 rfl Tryz.results248 Tryz.ntmps248 rfl ?_
 have M0 := Mem.refl w
 refine aE (aA (bJ (.agg (List.toArray _)) M0 rfl rfl rfl (fun b1 w1 M1 => (bJ (.agg (List.toArray _)) M1 rfl rfl rfl (fun b2 w2 M2 => (bJ (.agg (List.toArray _)) M2 rfl rfl rfl (fun b3 w3 M3 => (bH rfl rfl (aB (aC (aE (aA ?_))))))))))))
 refine wq (aD 0 cS rfl) rfl (wq (aM 1 (.int _ _) aV M3 rfl rfl rfl) rfl (wq (bA dP Tryz.underlying2 rfl (fG _ (by omega) (by omega))) rfl (wq (aD 0 cS rfl) rfl (wq (aM 0 (.int _ _) aV M3 rfl rfl rfl) rfl (wq (bA dP Tryz.underlying2 rfl (fG _ (by omega) (by omega))) rfl ?_)))))
 refine wq (fR rfl rfl (by omega) (by omega)) rfl (bH rfl rfl (aB (aC (aE (aA (wq (aD 1 cN rfl) rfl (wq (aM 1 (.int _ _) aV M3 rfl rfl rfl) rfl (wq (bA dP Tryz.underlying2 rfl (fG _ (by omega) (by omega))) rfl ?_))))))))
 refine wq (aD 1 cN rfl) rfl (wq (aM 0 (.int _ _) aV M3 rfl rfl rfl) rfl (wq (bA dP Tryz.underlying2 rfl (fG _ (by omega) (by omega))) rfl (wq (fR rfl rfl (by omega) (by omega)) rfl (bH rfl rfl (aB (aC (aE (aA ?_))))))))
 refine wq (aD 0 cS rfl) rfl (wq (aM 2 (.int _ _) aV M3 rfl rfl rfl) rfl (wq (bA dP Tryz.underlying2 rfl (fG _ (by omega) (by omega))) rfl (wq (aD 0 cS rfl) rfl (wq (aM 0 (.int _ _) aV M3 rfl rfl rfl) rfl (wq (bA dP Tryz.underlying2 rfl (fG _ (by omega) (by omega))) rfl ?_)))))
 refine wq (fR rfl rfl (by omega) (by omega)) rfl (aP rfl rfl (wq (fC rfl rfl (by omega) (by omega)) rfl (wq (aD 1 cN rfl) rfl (wq (aM 2 (.int _ _) aV M3 rfl rfl rfl) rfl (wq (bA dP Tryz.underlying2 rfl (fG _ (by omega) (by omega))) rfl ?_)))))
 refine wq (aD 1 cN rfl) rfl (wq (aM 0 (.int _ _) aV M3 rfl rfl rfl) rfl (wq (bA dP Tryz.underlying2 rfl (fG _ (by omega) (by omega))) rfl (wq (fR rfl rfl (by omega) (by omega)) rfl (aP rfl rfl (wq (fC rfl rfl (by omega) (by omega)) rfl ?_)))))
 refine wq (aY rfl rfl (by omega) (by omega)) rfl (bH rfl rfl (aB (aC (aE (aA (aP rfl rfl (wq (aX 0 bM M3 rfl rfl rfl) rfl (wq (aX 1 bM M3 rfl rfl rfl) rfl ?_))))))))
 refine bY bAm rfl rfl (xV _ p q h) ?_
 rintro v4 w4 ⟨rfl, hb4⟩
 have M4 := M3.callB hb4
 refine bY bOr rfl rfl (aOh _ ((c.1 - p.1) * (q.1 - p.1) + (c.2 - p.2) * (q.2 - p.2)) 0 (mI p q) (by omega)) ?_
 rintro v5 w5 ⟨rfl, hb5⟩
 have M5 := M4.callB hb5
 refine bH rfl rfl (aB (aC (aO (cG (.int _ _) rfl ?_))))
 exact ⟨rfl, M5.below⟩
set_option maxHeartbeats 4000000 in
theorem mY (w : World) (p q c : Pt) (h : SgI p q) (hc : PtI c) :
  Calls Tryz.prog 226 #[(.agg (cH p).toArray), (.agg (cH q).toArray), (.agg (cH c).toArray)] w (fun ex w' => ∃ v, ex = .returned v ∧ (fun v w' => v = (.agg (cH (cC p q c)).toArray) ∧ Below w.heap.size w w') v w') := by
 have hD := nD h
 have hn := xQ (c := c) h
 have hx := h.x
 have hy := h.y
 have hp := h.hp.i32
 have hq := h.hq.i32
 have hpx := hp.x
 have hpy := hp.y
 have hqx := hq.x
 have hqy := hq.y
 refine aI #[.cell 6 37] 60 Tryz.func226 rfl Tryz.results226 Tryz.ntmps226 rfl ?_
 have M0 := Mem.refl w
 refine aE (aA (bJ (.agg (List.toArray _)) M0 rfl rfl rfl (fun b1 w1 M1 => (bJ (.agg (List.toArray _)) M1 rfl rfl rfl (fun b2 w2 M2 => (bJ (.agg (List.toArray _)) M2 rfl rfl rfl (fun b3 w3 M3 => (aT iF M3 rfl rfl (fun b4 w4 M4 => (aB (aC (aE (aA ?_)))))))))))))
 refine wq (aX 0 bM M4 rfl rfl rfl) rfl (wq (aX 1 bM M4 rfl rfl rfl) rfl (bY bAm rfl rfl (xV _ p q h) ?_))
 rintro v5 w5 ⟨rfl, hb5⟩
 have M5 := M4.callB hb5
 refine bH rfl rfl (aB (aC (aE (aE (aA (aP rfl rfl (cY rfl rfl rfl rfl (aB (aC ?_)))))))))
 refine aW rfl (fun h17 => ?_) (fun h17 => ?_)
 ·refine aE (aA (wq (aX 0 bM M5 rfl rfl rfl) rfl (bI 3 _ bM M5 rfl rfl rfl rfl rfl (aR rfl) rfl (fun w6 M6 => (aB (aC (aO (cO (eL 3 bM M6 rfl rfl rfl ?_)))))))))
  exact ⟨by unfold cC; first | (rw [if_pos h17]; rfl) | (rw [if_neg h17]; rfl), M6.below⟩
 ·have hnr := aEp (c := c) h h17
  refine aL (aC (aE (aA (wq (aX 0 bM M5 rfl rfl rfl) rfl (wq (aX 1 bM M5 rfl rfl rfl) rfl (wq (aX 2 bM M5 rfl rfl rfl) rfl (bY bLo rfl rfl (aMd _ p q c h hc) ?_)))))))
  rintro v7 w7 ⟨rfl, hb7⟩
  have M7 := M5.callB hb7
  refine bH rfl rfl (aB (aC (aE (aA (wq (aD 0 cS rfl) rfl (wq (aM 1 (.int _ _) aV M7 rfl rfl rfl) rfl (wq (bA dP Tryz.underlying2 rfl (fG _ (by omega) (by omega))) rfl (wq (aD 0 cS rfl) rfl ?_))))))))
  refine wq (aM 0 (.int _ _) aV M7 rfl rfl rfl) rfl (wq (bA dP Tryz.underlying2 rfl (fG _ (by omega) (by omega))) rfl (wq (fR rfl rfl (by omega) (by omega)) rfl (aP rfl rfl (aP rfl rfl (bY aZq rfl rfl (xA _ (q.1 - p.1) (oY p q c) (mI p q) (by omega) hn.1 hn.2 (by omega) (by omega)) ?_)))))
  rintro v8 w8 ⟨rfl, hb8⟩
  have M8 := M7.callB hb8
  refine wq (aH (.tuple (List.toArray _)) rfl) rfl (wq (bN (.int _ _) rfl rfl) rfl (wq (bN (.int _ _) rfl rfl) rfl (bH rfl rfl (bH rfl rfl (aB (aC (aE (aA ?_))))))))
  refine wq (aD 1 cN rfl) rfl (wq (aM 1 (.int _ _) aV M8 rfl rfl rfl) rfl (wq (bA dP Tryz.underlying2 rfl (fG _ (by omega) (by omega))) rfl (wq (aD 1 cN rfl) rfl (wq (aM 0 (.int _ _) aV M8 rfl rfl rfl) rfl (wq (bA dP Tryz.underlying2 rfl (fG _ (by omega) (by omega))) rfl ?_)))))
  refine wq (fR rfl rfl (by omega) (by omega)) rfl (aP rfl rfl (aP rfl rfl (bY aZq rfl rfl (xA _ (q.2 - p.2) (oY p q c) (mI p q) (by omega) hn.1 hn.2 (by omega) (by omega)) ?_)))
  rintro v9 w9 ⟨rfl, hb9⟩
  have M9 := M8.callB hb9
  refine wq (aH (.tuple (List.toArray _)) rfl) rfl (wq (bN (.int _ _) rfl rfl) rfl (wq (bN (.int _ _) rfl rfl) rfl (bH rfl rfl (bH rfl rfl (aB (aC (aE (aA ?_))))))))
  refine wq (aD 0 cS rfl) rfl (wq (aM 0 (.int _ _) aV M9 rfl rfl rfl) rfl (aP rfl rfl (wq (bA lW Tryz.underlying21 rfl (jC _ (by omega) (by omega))) rfl (wq (jD rfl rfl (jC _ (by omega) (by omega))) rfl (wq (aD 1 cN rfl) rfl ?_)))))
  refine wq (aM 0 (.int _ _) aV M9 rfl rfl rfl) rfl (aP rfl rfl (wq (bA lW Tryz.underlying21 rfl (jC _ (by omega) (by omega))) rfl (wq (jD rfl rfl (jC _ (by omega) (by omega))) rfl (wq (cF [(0, .int _ _), (1, .int _ _)] _ fA rfl rfl) rfl (bI 3 _ bM M9 rfl rfl rfl rfl rfl (aR rfl) rfl (fun w10 M10 => ?_))))))
  refine aB (aC (aO (eL 3 bM M10 rfl rfl rfl ?_)))
  exact ⟨by unfold cC; first | (rw [if_pos h17]; rfl) | (rw [if_neg h17]; rfl), M10.below⟩
set_option maxHeartbeats 4000000 in
theorem rX (w : World) (a b : Pt) (ha : PtI a) (hb : PtI b) :
  Calls Tryz.prog 175 #[(.agg (cH a ++ cH b).toArray)] w (fun ex w' => ∃ v, ex = .returned v ∧ (fun v w' => v = .int .u64 ((qE (b.1 - a.1) (b.2 - a.2) : Nat) : Int) ∧ Below w.heap.size w w') v w') := by
 have hai := ha.i32
 have hbi := hb.i32
 have hax := hai.x
 have hay := hai.y
 have hbx := hbi.x
 have hby := hbi.y
 refine aI #[.tmp 2] 22 Tryz.func175 rfl Tryz.results175 Tryz.ntmps175 rfl ?_
 have M0 := Mem.refl w
 refine aE (aA (bJ (.agg (List.toArray _)) M0 rfl rfl rfl (fun b1 w1 M1 => (bH rfl rfl (aB (aC (aE (aA (wq (aD 2 xZ rfl) rfl (wq (aD 0 cS rfl) rfl ?_))))))))))
 refine wq (aM 0 (.int _ _) aV M1 rfl rfl rfl) rfl (wq (bA dP Tryz.underlying2 rfl (fG _ (by omega) (by omega))) rfl (wq (aD 0 xY rfl) rfl (wq (aD 0 cS rfl) rfl (wq (aM 0 (.int _ _) aV M1 rfl rfl rfl) rfl (wq (bA dP Tryz.underlying2 rfl (fG _ (by omega) (by omega))) rfl ?_)))))
 refine wq (fR rfl rfl (by omega) (by omega)) rfl (wq (aD 2 xZ rfl) rfl (wq (aD 1 cN rfl) rfl (wq (aM 0 (.int _ _) aV M1 rfl rfl rfl) rfl (wq (bA dP Tryz.underlying2 rfl (fG _ (by omega) (by omega))) rfl (wq (aD 0 xY rfl) rfl ?_)))))
 refine wq (aD 1 cN rfl) rfl (wq (aM 0 (.int _ _) aV M1 rfl rfl rfl) rfl (wq (bA dP Tryz.underlying2 rfl (fG _ (by omega) (by omega))) rfl (wq (fR rfl rfl (by omega) (by omega)) rfl (bY aZs rfl rfl (tJ _ (b.1 - a.1) (b.2 - a.2) (ha.inX hb) (ha.inY hb)) ?_))))
 rintro v2 w2 ⟨rfl, hb2⟩
 have M2 := M1.callB hb2
 refine bH rfl rfl (aB (aC (aO (cG (.int _ _) rfl ?_))))
 exact ⟨rfl, M2.below⟩
set_option maxHeartbeats 16000000 in
theorem aKu (w : World) (ap aq bp bq : Pt) (h1 : SgI ap aq) (h2 : SgI bp bq) :
  Calls Tryz.prog 196 #[(.agg (cH ap).toArray), (.agg (cH aq).toArray), (.agg (cH bp).toArray), (.agg (cH bq).toArray)] w (fun ex w' => ∃ v, ex = .returned v ∧ (fun v w' => v = (.agg (fW ((mS ap aq bp bq).1, (mS ap aq bp bq).2.1)).toArray) ∧ Below w.heap.size w w') v w') := by
 have hlen4 : ([(ap, cC bp bq ap), (aq, cC bp bq aq), (cC ap aq bp, bp), (cC ap aq bq, bq)] : List (Pt × Pt)).length = 4 := rfl
 have hins : ∀ z ∈ ([(ap, cC bp bq ap), (aq, cC bp bq aq), (cC ap aq bp, bp), (cC ap aq bq, bq)] : List (Pt × Pt)), PtI z.1 ∧ PtI z.2 := aPk h1 h2
 refine aI #[.cell 8 239] 59 Tryz.func196 rfl Tryz.results196 Tryz.ntmps196 rfl ?_
 have M0 := Mem.refl w
 refine aE (aA (bJ (.agg (List.toArray _)) M0 rfl rfl rfl (fun b1 w1 M1 => (bJ (.agg (List.toArray _)) M1 rfl rfl rfl (fun b2 w2 M2 => (bJ (.agg (List.toArray _)) M2 rfl rfl rfl (fun b3 w3 M3 => (bJ (.agg (List.toArray _)) M3 rfl rfl rfl (fun b4 w4 M4 => (aT aCe M4 rfl rfl (fun b5 w5 M5 => ?_)))))))))))
 refine aB (aC (aE (bR [(0, 1), (1, 1), (2, 1), (3, 1), (6, 1), (7, 1), (8, 1), (9, 1), (12, 1), (13, 1), (14, 1), (16, 1), (18, 1), (19, 1), (20, 1), (22, 1), (4, 2), (5, 0), (10, 2), (11, 0), (15, 2), (17, 0), (21, 2), (23, 0), (24, 2), (25, 0)] mixed rfl (by kernel_rfl) (fun w6 hb6 hh6 => ?_))))
 have M6 := M5.drew hb6 hh6
 refine bS rfl rfl rfl (aX 0 bM M6 rfl rfl rfl) (bS rfl rfl rfl (aX 2 bM M6 rfl rfl rfl) (bS rfl rfl rfl (aX 3 bM M6 rfl rfl rfl) (bS rfl rfl rfl (aX 0 bM M6 rfl rfl rfl) (bS rfl rfl rfl (aX 1 bM M6 rfl rfl rfl) (bS rfl rfl rfl (aX 2 bM M6 rfl rfl rfl) ?_)))))
 refine bS rfl rfl rfl (aX 3 bM M6 rfl rfl rfl) (bS rfl rfl rfl (aX 1 bM M6 rfl rfl rfl) (bS rfl rfl rfl (aX 0 bM M6 rfl rfl rfl) (bS rfl rfl rfl (aX 1 bM M6 rfl rfl rfl) (bS rfl rfl rfl (aX 2 bM M6 rfl rfl rfl) (bS rfl rfl rfl (aX 2 bM M6 rfl rfl rfl) ?_)))))
 refine bS rfl rfl rfl (aX 0 bM M6 rfl rfl rfl) (bS rfl rfl rfl (aX 1 bM M6 rfl rfl rfl) (bS rfl rfl rfl (aX 3 bM M6 rfl rfl rfl) (bS rfl rfl rfl (aX 3 bM M6 rfl rfl rfl) (dU [false, false, false, false, false, false, false, false, false, false, false, false, true, true, true, false] rfl (by kernel_rfl) ?_))))
 refine bY aKf rfl rfl (mY _ bp bq ap h2 h1.hp) ?_
 rintro v7 w7 ⟨rfl, hb7⟩
 have M7 := M6.callB hb7
 refine aB (aC ⟨(eD (bL rfl (aX 3 bM M7 rfl rfl rfl)) (eD (bL rfl (aX 3 bM M7 rfl rfl rfl)) (eD (bL rfl (aX 1 bM M7 rfl rfl rfl)) (eD (bL rfl (aX 0 bM M7 rfl rfl rfl)) (eD (bL rfl (aX 2 bM M7 rfl rfl rfl)) (eD (bL rfl (aX 2 bM M7 rfl rfl rfl)) (eD (bL rfl (aX 1 bM M7 rfl rfl rfl)) (eD (bL rfl (aX 0 bM M7 rfl rfl rfl)) (eD (bL rfl (aX 1 bM M7 rfl rfl rfl)) (eD (bL rfl (aX 3 bM M7 rfl rfl rfl)) (eD (bL rfl (aX 2 bM M7 rfl rfl rfl)) (eD (bL rfl (aX 1 bM M7 rfl rfl rfl)) (eD (bL rfl (aX 0 bM M7 rfl rfl rfl)) dT))))))))))))), ?_⟩)
 refine aU rfl rfl rfl (fun _ => cF [(0, .agg (List.toArray _)), (1, .agg (List.toArray _))] _ uQ rfl rfl) (dU [false, false, false, false, false, false, false, false, true, true, true, false, false] rfl (by kernel_rfl) (bY aKf rfl rfl (mY _ bp bq aq h2 h1.hq) ?_))
 rintro v8 w8 ⟨rfl, hb8⟩
 have M8 := M7.callB hb8
 refine aB (aC ⟨(eD (bL rfl (aX 3 bM M8 rfl rfl rfl)) (eD (bL rfl (aX 3 bM M8 rfl rfl rfl)) (eD (bL rfl (aX 1 bM M8 rfl rfl rfl)) (eD (bL rfl (aX 0 bM M8 rfl rfl rfl)) (eD (bL rfl (aX 2 bM M8 rfl rfl rfl)) (eD (bL rfl (aX 2 bM M8 rfl rfl rfl)) (eD (bL rfl (aX 1 bM M8 rfl rfl rfl)) (eD (bL rfl (aX 0 bM M8 rfl rfl rfl)) (eD (bL rfl (aX 1 bM M8 rfl rfl rfl)) (eD (bL rfl (aX 0 bM M8 rfl rfl rfl)) dT)))))))))), ?_⟩)
 refine aU rfl rfl rfl (fun _ => cF [(0, .agg (List.toArray _)), (1, .agg (List.toArray _))] _ uQ rfl rfl) (dU [false, false, false, false, false, true, true, true, false, false] rfl (by kernel_rfl) (bY aKf rfl rfl (mY _ ap aq bp h1 h2.hp) ?_))
 rintro v9 w9 ⟨rfl, hb9⟩
 have M9 := M8.callB hb9
 refine aB (aC ⟨(eD (bL rfl (aX 3 bM M9 rfl rfl rfl)) (eD (bL rfl (aX 3 bM M9 rfl rfl rfl)) (eD (bL rfl (aX 1 bM M9 rfl rfl rfl)) (eD (bL rfl (aX 0 bM M9 rfl rfl rfl)) (eD (bL rfl (aX 2 bM M9 rfl rfl rfl)) (eD (bL rfl (aX 1 bM M9 rfl rfl rfl)) (eD (bL rfl (aX 0 bM M9 rfl rfl rfl)) dT))))))), ?_⟩)
 refine aU rfl rfl rfl (fun _ => cF [(0, .agg (List.toArray _)), (1, .agg (List.toArray _))] _ uQ rfl rfl) (dU [false, true, true, true, false, false, false] rfl (by kernel_rfl) (bY aKf rfl rfl (mY _ ap aq bq h1 h2.hq) ?_))
 rintro v10 w10 ⟨rfl, hb10⟩
 have M10 := M9.callB hb10
 refine aB (aC ⟨(eD (bL rfl (aX 3 bM M10 rfl rfl rfl)) (eD (bL rfl (aX 2 bM M10 rfl rfl rfl)) (eD (bL rfl (aX 1 bM M10 rfl rfl rfl)) (eD (bL rfl (aX 0 bM M10 rfl rfl rfl)) dT)))), ?_⟩)
 refine aU rfl rfl rfl (fun _ => cF [(0, .agg (List.toArray _)), (1, .agg (List.toArray _))] _ uQ rfl rfl) (dU [true, true, true, true] rfl (by kernel_rfl) (cR [.agg (List.toArray _), .agg (List.toArray _), .agg (List.toArray _), .agg (List.toArray _)] [fW (ap, cC bp bq ap), fW (aq, cC bp bq aq), fW (cC ap aq bp, bp), fW (cC ap aq bq, bq)] rfl aTh M10 rfl rfl rfl rfl (dD rfl) (by decide) (fun b11 w11 M11 => ?_)))
 refine aB (aC ⟨dT, ?_⟩)
 have hlit36 := kB (T := 239) (b := b11) (nn := 4) (([(ap, cC bp bq ap), (aq, cC bp bq aq), (cC ap aq bp, bp), (cC ap aq bq, bq)] : List (Pt × Pt)).map fW) (bHe _) rfl (by decide)
 refine aU rfl rfl rfl (fun _ => aJ (.slice _ _ _) rfl) (bX (aC (aE (aA (dH rfl rfl (wq (bO (0) aTh rfl rfl rfl ((hlit36.rd M11 (aZ (i := 5) rfl)).below_len (aG fW (show ([(ap, cC bp bq ap), (aq, cC bp bq aq), (cC ap aq bp, bp), (cC ap aq bq, bq)] : List (Pt × Pt))[0]? = some (ap, cC bp bq ap) from rfl))) ((hlit36.rd M11 (aZ (i := 5) rfl)).someK (aG fW (show ([(ap, cC bp bq ap), (aq, cC bp bq aq), (cC ap aq bp, bp), (cC ap aq bq, bq)] : List (Pt × Pt))[0]? = some (ap, cC bp bq ap) from rfl)))) rfl ?_))))))
 refine wq (dI _ mB (hlit36.rd M11 (aZ (i := 5) rfl)) (aG fW (show ([(ap, cC bp bq ap), (aq, cC bp bq aq), (cC ap aq bp, bp), (cC ap aq bq, bq)] : List (Pt × Pt))[0]? = some (ap, cC bp bq ap) from rfl)) rfl) rfl (aT aCe M11 rfl rfl (fun b12 w12 M12 => ?_))
 refine bI 6 _ mB M12 rfl rfl rfl rfl rfl (aR rfl) rfl (fun w13 M13 => (aB (aC (aE (aE (aA (bH rfl rfl (aB (aC (aQ (dS (σ := Nat × Ch) [8, 9, 10] (fun (i, s) => [(11, .int .i64 (i : Int))]) (fun (i, s) w' => (1 ≤ i ∧ i ≤ 4 ∧ s = sP (([(ap, cC bp bq ap), (aq, cC bp bq aq), (cC ap aq bp, bp), (cC ap aq bq, bq)] : List (Pt × Pt)).take i) ∧ ChL s) ∧ Mem w [] [(some b1, bc (cH ap) 37), (some b2, bc (cH aq) 37), (some b3, bc (cH bp) 37), (some b4, bc (cH bq) 37), (some b5, bc [.int .i32 0, .int .i32 0, .int .i32 0, .int .i32 0] 239), (some b11, bc ((([(ap, cC bp bq ap), (aq, cC bp bq aq), (cC ap aq bp, bp), (cC ap aq bq, bq)] : List (Pt × Pt)).map fW).flatten) 239), (some b12, bc (fW (s.1, s.2.1)) 239)] w') (fun (i, s) => 4 - i) (1, sP [(ap, cC bp bq ap)]) (bB rfl dZ) (⟨⟨by omega, by omega, rfl, (aHp h1.hp (eT h2)).2⟩, by rw [(aHp h1.hp (eT h2)).1]; exact M13⟩) ?_)))))))))))
 rintro ⟨i, s⟩ ρ14 w14 ⟨⟨hi1, hi4, hs, hL⟩, hM14⟩
 refine aE (aE (aA (aP rfl rfl (dH rfl rfl (wq (cZ Tryz.underlying315 rfl) rfl (aK 42 (.int .i64 4) rfl (cY rfl rfl rfl rfl ?_)))))))
 refine aB (aC ?_)
 refine aW rfl (fun h43 => ?_) (fun h43 => ?_)
 ·obtain ⟨z, hz⟩ := cV (xs := ([(ap, cC bp bq ap), (aq, cC bp bq aq), (cC ap aq bp, bp), (cC ap aq bq, bq)] : List (Pt × Pt))) (k := i) hlen4 (by omega)
  have hzi := hins z (List.mem_of_getElem? hz)
  refine aL (aC (aE (aQ (aE (bR [(0, 0), (1, 0), (2, 1), (3, 1), (5, 1), (4, 2), (6, 2), (7, 0)] mixed rfl (by kernel_rfl) (fun w15 hb15 hh15 => ?_))))))
  have M15 := hM14.drew hb15 hh15
  refine kN rfl rfl rfl (eB rfl rfl rfl (bS rfl rfl rfl (bO (i) aTh rfl rfl rfl ((hlit36.rd M15 (aZ (i := 5) rfl)).below_len (aG fW hz)) ((hlit36.rd M15 (aZ (i := 5) rfl)).someK (aG fW hz))) (bS rfl rfl rfl (dI _ mB (hlit36.rd M15 (aZ (i := 5) rfl)) (aG fW hz) rfl) ?_)))
  refine bS rfl rfl rfl (aX 6 mB M15 rfl rfl rfl) (dU [false, true, true] rfl (by kernel_rfl) (bY aQv rfl rfl (rX _ z.1 z.2 hzi.1 hzi.2) ?_))
  rintro v16 w16 ⟨rfl, hb16⟩
  have M16 := M15.callB hb16
  refine aB (aC ⟨(eD (bL rfl (aX 6 mB M16 rfl rfl rfl)) dT), ?_⟩)
  refine dU [true] rfl (by kernel_rfl) (bY aQv rfl rfl (rX _ s.1 s.2.1 hL.i.a hL.i.b) ?_)
  rintro v17 w17 ⟨rfl, hb17⟩
  have M17 := M16.callB hb17
  refine aB (aC ⟨dT, ?_⟩)
  refine aU rfl rfl rfl (fun _ => cA (.bool (decide _)) rfl rfl rfl) (bX (aC ?_))
  refine aW rfl (fun h53 => ?_) (fun h53 => ?_)
  ·refine aA (dH rfl rfl (aP rfl rfl (wq (bO (i) aTh rfl rfl rfl ((hlit36.rd M17 (aZ (i := 5) rfl)).below_len (aG fW hz)) ((hlit36.rd M17 (aZ (i := 5) rfl)).someK (aG fW hz))) rfl (wq (dI _ mB (hlit36.rd M17 (aZ (i := 5) rfl)) (aG fW hz) rfl) rfl ?_))))
   refine bI 6 _ mB M17 rfl rfl rfl rfl rfl (aR rfl) rfl (fun w18 M18 => (aB (cT (aC (aA (aP rfl rfl (wq (aY rfl rfl (by omega) (by omega)) rfl ?_)))))))
   refine bH rfl rfl (aB ?_)
   refine cD (i + 1, fS s z.1 z.2) (bB rfl dZ) (cK rfl (cK rfl (cK rfl gW))) ?_ ?_
   ·exact ⟨⟨by omega, by omega, by rw [aBc hz, hs], hL.step hzi.1 hzi.2⟩, by unfold fS; rw [if_pos (by rw [hL.l]; omega)]; exact M18⟩
   ·(show 4 - (i + 1) < 4 - i; omega)
  ·refine aL (cT (aC (aA (aP rfl rfl (wq (aY rfl rfl (by omega) (by omega)) rfl (bH rfl rfl ?_))))))
   refine aB ?_
   refine cD (i + 1, fS s z.1 z.2) (bB rfl dZ) (cK rfl (cK rfl (cK rfl gW))) ?_ ?_
   ·exact ⟨⟨by omega, by omega, by rw [aBc hz, hs], hL.step hzi.1 hzi.2⟩, by unfold fS; rw [if_neg (by rw [hL.l]; omega)]; exact M17⟩
   ·(show 4 - (i + 1) < 4 - i; omega)
 ·obtain rfl : i = 4 := by omega
  refine cW (dE (dL (eS (aC (aE (aA (wq (aX 6 mB hM14 rfl rfl rfl) rfl ?_)))))))
  refine bI 4 _ mB hM14 rfl rfl rfl rfl rfl (aR rfl) rfl (fun w19 M19 => (aB (aC (aO (eL 4 mB M19 rfl rfl rfl ?_)))))
  exact ⟨by rw [hs]; rfl, M19.below⟩
set_option maxHeartbeats 4000000 in
theorem aKw (w : World) (a b : Body) (ha : Okb a) (hb : Okb b) :
  Calls Tryz.prog 174 #[(.agg (aF a).toArray), (.agg (aF b).toArray)] w (fun ex w' => ∃ v, ex = .returned v ∧ (fun v w' => v = (.agg (fW ((oE a b).1, (oE a b).2.1)).toArray) ∧ Below w.heap.size w w') v w') := by
 refine aI #[.cell 4 239] 14 Tryz.func174 rfl Tryz.results174 Tryz.ntmps174 rfl ?_
 have M0 := Mem.refl w
 refine aE (aA (bJ (.agg (List.toArray _)) M0 rfl rfl rfl (fun b1 w1 M1 => (bJ (.agg (List.toArray _)) M1 rfl rfl rfl (fun b2 w2 M2 => (aT aCe M2 rfl rfl (fun b3 w3 M3 => (aB (aC (aE (bR [(0, 1), (2, 1), (4, 1), (6, 1), (1, 2), (3, 2), (5, 2), (7, 2), (8, 2), (9, 2)] mixed rfl (by kernel_rfl) (fun w4 hb4 hh4 => ?_))))))))))))
 have M4 := M3.drew hb4 hh4
 refine bS rfl rfl rfl (aX 0 bP M4 rfl rfl rfl) (bS rfl rfl rfl (aX 0 bP M4 rfl rfl rfl) (bS rfl rfl rfl (aX 1 bP M4 rfl rfl rfl) (bS rfl rfl rfl (aX 1 bP M4 rfl rfl rfl) (dU [false, false, false, true] rfl (by kernel_rfl) (bY bEf rfl rfl (zW _ a ha) ?_)))))
 rintro v5 w5 ⟨rfl, hb5⟩
 have M5 := M4.callB hb5
 refine aB (aC ⟨(eD (bL rfl (aX 1 bP M5 rfl rfl rfl)) (eD (bL rfl (aX 1 bP M5 rfl rfl rfl)) (eD (bL rfl (aX 0 bP M5 rfl rfl rfl)) dT))), ?_⟩)
 refine dU [false, false, true] rfl (by kernel_rfl) (bY bEj rfl rfl (yI _ a ha) ?_)
 rintro v6 w6 ⟨rfl, hb6⟩
 have M6 := M5.callB hb6
 refine aB (aC ⟨(eD (bL rfl (aX 1 bP M6 rfl rfl rfl)) (eD (bL rfl (aX 1 bP M6 rfl rfl rfl)) dT)), ?_⟩)
 refine dU [false, true] rfl (by kernel_rfl) (bY bEf rfl rfl (zW _ b hb) ?_)
 rintro v7 w7 ⟨rfl, hb7⟩
 have M7 := M6.callB hb7
 refine aB (aC ⟨(eD (bL rfl (aX 1 bP M7 rfl rfl rfl)) dT), ?_⟩)
 refine dU [true] rfl (by kernel_rfl) (bY bEj rfl rfl (yI _ b hb) ?_)
 rintro v8 w8 ⟨rfl, hb8⟩
 have M8 := M7.callB hb8
 refine aB (aC ⟨dT, ?_⟩)
 refine dU [] rfl (by kernel_rfl) (bY bMl rfl rfl (aKu _ (zM a) (zI a) (zM b) (zI b) (pT ha) (pT hb)) ?_)
 rintro v9 w9 ⟨rfl, hb9⟩
 have M9 := M8.callB hb9
 refine aB (aC ⟨dT, ?_⟩)
 refine dU [] rfl (by kernel_rfl) (bI 2 _ mB M9 rfl rfl rfl rfl rfl (aR rfl) rfl (fun w10 M10 => ?_))
 refine aB (aC ⟨dT, ?_⟩)
 refine bX (aC (aO (eL 2 mB M10 rfl rfl rfl ?_)))
 exact ⟨rfl, M10.below⟩
set_option maxHeartbeats 8000000 in
theorem aIe (w : World) (a b : Body) (ha : Okb a) (hb : Okb b) (hk : ¬ b.key < a.key) :
  Calls Tryz.prog 154 #[(.agg (aF a).toArray), (.agg (aF b).toArray)] w (fun ex w' => ∃ v, ex = .returned v ∧ (fun v w' => v = .tuple #[.agg (aLd (jW a b)).toArray, .bool (jW a b).isSome] ∧ Below w.heap.size w w') v w') := by
 have hch := yL ha hb
 have hd := aZp ha hb
 have hl := vV hd.1 hd.2
 have hra := ha.r
 have hrb := hb.r
 have hsn : (a.radius + b.radius).natAbs * (a.radius + b.radius).natAbs ≤ 70368744177664 := by have := aZd ha hb; rw [← Int.natAbs_mul_self] at this; omega
 have hax := hch.a.i32.x
 have hay := hch.a.i32.y
 have hbx := hch.b.i32.x
 have hby := hch.b.i32.y
 refine aI #[.cell 4 211, .tmp 5] 72 Tryz.func154 rfl Tryz.results154 Tryz.ntmps154 rfl ?_
 have M0 := Mem.refl w
 refine aE (aA (bJ (.agg (List.toArray _)) M0 rfl rfl rfl (fun b1 w1 M1 => (bJ (.agg (List.toArray _)) M1 rfl rfl rfl (fun b2 w2 M2 => (aT mC M2 rfl rfl (fun b3 w3 M3 => (wq (aJ (.bool false) rfl) rfl (aB (aC (aE (aE (aA ?_)))))))))))))
 refine wq (aD 0 dM rfl) rfl (wq (aM 1 (.int _ _) bW M3 rfl rfl rfl) rfl (wq (aD 0 dM rfl) rfl (wq (aM 0 (.int _ _) bW M3 rfl rfl rfl) rfl (cY rfl rfl rfl rfl (oG 14 rfl (by omega) ?_)))))
 refine aB (aC (cJ rfl (aL (aC (aE (aA (wq (aX 0 bP M3 rfl rfl rfl) rfl (wq (aX 1 bP M3 rfl rfl rfl) rfl (bY bMc rfl rfl (aKw _ a b ha hb) ?_)))))))))
 rintro v4 w4 ⟨rfl, hb4⟩
 have M4 := M3.callB hb4
 refine aK 22 (.agg (cH (oE a b).1 ++ cH (oE a b).2.1).toArray) rfl (aT aCe M4 rfl rfl (fun b5 w5 M5 => (bI 3 _ mB M5 rfl rfl rfl rfl rfl (aR rfl) rfl (fun w6 M6 => (aB (aC (aE (aA (wq (aD 1 lH rfl) rfl (wq (aM 0 (.int _ _) aV M6 rfl rfl rfl) rfl ?_))))))))))
 refine wq (bA dP Tryz.underlying2 rfl (fG _ (by omega) (by omega))) rfl (wq (aD 1 lH rfl) rfl (wq (aM 1 (.int _ _) aV M6 rfl rfl rfl) rfl (wq (bA dP Tryz.underlying2 rfl (fG _ (by omega) (by omega))) rfl (wq (aY rfl rfl (by omega) (by omega)) rfl (bH rfl rfl ?_)))))
 refine aB (aC (aE (aE (aA (wq (aX 3 mB M6 rfl rfl rfl) rfl (bY aQv rfl rfl (rX _ (oE a b).1 (oE a b).2.1 hch.a hch.b) ?_))))))
 rintro v7 w7 ⟨rfl, hb7⟩
 have M7 := M6.callB hb7
 refine aK 31 (.int .u64 ((qE (pY (oE a b)) (rL (oE a b)) : Nat) : Int)) rfl (aP rfl rfl (wq (dA lW Tryz.underlying237 rfl) rfl (aK 33 (.int .u64 (((a.radius + b.radius).natAbs : Nat) : Int)) (iE (by rw [gD]; omega)) (aP rfl rfl (wq (dA lW Tryz.underlying237 rfl) rfl ?_)))))
 refine aK 35 (.int .u64 (((a.radius + b.radius).natAbs : Nat) : Int)) (iE (by rw [gD]; omega)) (wq (cA (.int _ _) rfl rfl rfl) rfl (aK 36 (.int .u64 (((a.radius + b.radius).natAbs * (a.radius + b.radius).natAbs : Nat) : Int)) (iE (lE _ _ (by omega))) (cY rfl rfl rfl rfl (aB (aC ?_)))))
 refine aW rfl (fun h37 => ?_) (fun h37 => ?_)
 ·refine aE (aA (wq (cF [] _ uX rfl rfl) rfl (bI 2 _ eV M7 rfl rfl rfl rfl rfl (aR rfl) rfl (fun w8 M8 => (wq (aJ (.bool false) rfl) rfl (aB (aC (aO (cO (tH (v2 := .bool false) 2 eV M8 rfl rfl rfl rfl ?_))))))))))
  exact ⟨by unfold jW; first | (rw [if_pos (by omega)]; rfl) | (rw [if_neg (by omega)]; rfl), M8.below⟩
 ·refine aL (aC (aE (aA (wq (aD 2 xZ rfl) rfl (wq (aD 0 cS rfl) rfl (wq (aM 3 (.int _ _) aV M7 rfl rfl rfl) rfl (wq (bA dP Tryz.underlying2 rfl (fG _ (by omega) (by omega))) rfl (wq (aD 0 xY rfl) rfl ?_))))))))
  refine wq (aD 0 cS rfl) rfl (wq (aM 3 (.int _ _) aV M7 rfl rfl rfl) rfl (wq (bA dP Tryz.underlying2 rfl (fG _ (by omega) (by omega))) rfl (wq (fR rfl rfl (by omega) (by omega)) rfl (aK 47 (.int .i64 (pY (oE a b))) rfl (bH rfl rfl ?_)))))
  refine aB (aC (aE (aA (wq (aD 2 xZ rfl) rfl (wq (aD 1 cN rfl) rfl (wq (aM 3 (.int _ _) aV M7 rfl rfl rfl) rfl (wq (bA dP Tryz.underlying2 rfl (fG _ (by omega) (by omega))) rfl (wq (aD 0 xY rfl) rfl ?_))))))))
  refine wq (aD 1 cN rfl) rfl (wq (aM 3 (.int _ _) aV M7 rfl rfl rfl) rfl (wq (bA dP Tryz.underlying2 rfl (fG _ (by omega) (by omega))) rfl (wq (fR rfl rfl (by omega) (by omega)) rfl (aK 56 (.int .i64 (rL (oE a b))) rfl (bH rfl rfl ?_)))))
  refine aB (aC (aE (bR [(0, 0), (1, 1), (2, 0), (3, 1), (4, 0), (5, 0), (6, 0), (8, 0), (9, 0), (10, 0), (7, 2), (11, 2), (12, 0), (13, 0), (14, 0), (15, 2), (16, 0)] mixed rfl (by kernel_rfl) (fun w9 hb9 hh9 => ?_))))
  have M9 := M7.drew hb9 hh9
  refine aU rfl rfl rfl (fun _ => aD 0 dM rfl) (bS rfl rfl rfl (aM 0 (.int _ _) bW M9 rfl rfl rfl) (aU rfl rfl rfl (fun _ => aD 0 dM rfl) (bS rfl rfl rfl (aM 1 (.int _ _) bW M9 rfl rfl rfl) (aU rfl rfl rfl (fun _ => cF [(0, .int _ _), (1, .int _ _)] _ yU rfl rfl) ?_))))
  refine eB rfl rfl rfl (eB rfl rfl rfl (eB rfl rfl rfl (eB rfl rfl rfl (eB rfl rfl rfl (dU [false, false] rfl (by kernel_rfl) ?_)))))
  refine bY bMr rfl rfl (aRl _ (pY (oE a b)) (rL (oE a b)) hd.1 hd.2) ?_
  rintro v10 w10 ⟨rfl, hb10⟩
  have M10 := M9.callB hb10
  refine aB (aC ⟨(eD (bL rfl (aM 1 (.int _ _) bW M10 rfl rfl rfl)) (eD (bL rfl (aM 0 (.int _ _) bW M10 rfl rfl rfl)) dT)), ?_⟩)
  refine dU [false, false] rfl (by kernel_rfl) (bY aRm rfl rfl (rS _ (pY (oE a b)) (rL (oE a b)) hd.1 hd.2) ?_)
  rintro v11 w11 ⟨rfl, hb11⟩
  have M11 := M10.callB hb11
  refine aB (aC ⟨(eD (bL rfl (aM 1 (.int _ _) bW M11 rfl rfl rfl)) (eD (bL rfl (aM 0 (.int _ _) bW M11 rfl rfl rfl)) dT)), ?_⟩)
  refine aU rfl rfl rfl (fun _ => fR rfl rfl (by omega) (by omega)) (aU rfl rfl rfl (fun _ => dA lW Tryz.underlying21 rfl) (aU rfl rfl rfl (fun _ => cF [(0, .agg (List.toArray _)), (1, .agg (List.toArray _)), (2, .int _ _)] _ uX rfl rfl) (dU [true, true] rfl (by kernel_rfl) (bI 2 _ eV M11 rfl rfl rfl rfl rfl (aR rfl) rfl (fun w12 M12 => ?_)))))
  refine aB (aC ⟨dT, ?_⟩)
  refine aU rfl rfl rfl (fun _ => aJ (.bool true) rfl) (bX (aC (aO (tH (v2 := .bool true) 2 eV M12 rfl rfl rfl rfl ?_))))
  exact ⟨by unfold jW; first | (rw [if_pos (by omega)]; rfl) | (rw [if_neg (by omega)]; rfl), M12.below⟩
set_option maxHeartbeats 4000000 in
theorem aXv (w : World) (a b : Body) (ha : Okb a) (hb : Okb b) (hk : b.key < a.key) :
  Calls Tryz.prog 154 #[(.agg (aF a).toArray), (.agg (aF b).toArray)] w (fun ex w' => ∃ v, ex = .returned v ∧ (fun v w' => v = .tuple #[.agg (aLd (jW b a)).toArray, .bool (jW b a).isSome] ∧ Below w.heap.size w w') v w') := by
 refine aI #[.cell 4 211, .tmp 5] 72 Tryz.func154 rfl Tryz.results154 Tryz.ntmps154 rfl ?_
 have M0 := Mem.refl w
 refine aE (aA (bJ (.agg (List.toArray _)) M0 rfl rfl rfl (fun b1 w1 M1 => (bJ (.agg (List.toArray _)) M1 rfl rfl rfl (fun b2 w2 M2 => (aT mC M2 rfl rfl (fun b3 w3 M3 => (wq (aJ (.bool false) rfl) rfl (aB (aC (aE (aE (aA ?_)))))))))))))
 refine wq (aD 0 dM rfl) rfl (wq (aM 1 (.int _ _) bW M3 rfl rfl rfl) rfl (wq (aD 0 dM rfl) rfl (wq (aM 0 (.int _ _) bW M3 rfl rfl rfl) rfl (cY rfl rfl rfl rfl (kH 14 rfl (by omega) ?_)))))
 refine aB (aC (cE rfl (aE (aA (wq (aX 1 bP M3 rfl rfl rfl) rfl (wq (aX 0 bP M3 rfl rfl rfl) rfl (bY aPr rfl rfl (aIe _ b a hb ha (by omega)) ?_)))))))
 rintro v4 w4 ⟨rfl, hb4⟩
 have M4 := M3.callB hb4
 refine wq (bN (.agg (List.toArray _)) rfl rfl) rfl (wq (bN (.bool _) rfl rfl) rfl (bI 2 _ eV M4 rfl rfl rfl rfl rfl (aR rfl) rfl (fun w5 M5 => (wq (aJ (.bool _) rfl) rfl (aB (aC (aO (cO (tH (v2 := .bool _) 2 eV M5 rfl rfl rfl rfl ?_)))))))))
 exact ⟨rfl, M5.below⟩
theorem aMy (w : World) (a b : Body) (ha : Okb a) (hb : Okb b) : Calls Tryz.prog 154 #[(.agg (aF a).toArray), (.agg (aF b).toArray)] w (fun ex w' => ∃ v, ex = .returned v ∧ (fun v w' => v = .tuple #[.agg (aLd (kT a b)).toArray, .bool (kT a b).isSome] ∧ Below w.heap.size w w') v w') := by
 unfold kT
 by_cases hk : b.key < a.key
 ·rw [if_pos hk]; exact aXv w a b ha hb hk
 ·rw [if_neg hk]; exact aIe w a b ha hb hk
set_option maxHeartbeats 4000000 in
theorem aBq (w : World) (s : Ch) (x y : Pt) (ba bb bl : Nat) (hx : PtI x) (hy : PtI y) (hO : Own [(some ba, bc (cH s.1) 37), (some bb, bc (cH s.2.1) 37), (some bl, bc [.int .u64 (s.2.2 : Int)] 237)] w) :
  Calls Tryz.prog 276 #[(.agg (cH x).toArray), (.agg (cH y).toArray), .pointer (some ⟨bl, 0, none⟩), .pointer (some ⟨ba, 0, none⟩), .pointer (some ⟨bb, 0, none⟩)] w (fun ex w' => ∃ v, ex = .returned v ∧ (fun v w' => v = .tuple #[] ∧ Mem w (cB [(some ba, bc (cH s.1) 37), (some bb, bc (cH s.2.1) 37), (some bl, bc [.int .u64 (s.2.2 : Int)] 237)]) [(some ba, bc (cH (fS s x y).1) 37), (some bb, bc (cH (fS s x y).2.1) 37), (some bl, bc [.int .u64 ((fS s x y).2.2 : Int)] 237)] w') v w') := by
 refine aI #[] 20 Tryz.func276 rfl Tryz.results276 Tryz.ntmps276 rfl ?_
 have M0 := hO.mem
 refine aE (aA (bJ (.agg (List.toArray _)) M0 rfl rfl rfl (fun b1 w1 M1 => (bJ (.agg (List.toArray _)) M1 rfl rfl rfl (fun b2 w2 M2 => (aB (aC (aE (aA (wq (aX 3 bM M2 rfl rfl rfl) rfl (wq (aX 4 bM M2 rfl rfl rfl) rfl ?_)))))))))))
 refine bY aEw rfl rfl (sM _ x y hx.i32 hy.i32) ?_
 rintro v3 w3 ⟨rfl, hb3⟩
 have M3 := M2.callB hb3
 refine wq (bN (.int _ _) rfl rfl) rfl (wq (bN (.int _ _) rfl rfl) rfl (bY aPi rfl rfl (rJ _ (y.1 - x.1) (y.2 - x.2) (hx.inX hy) (hx.inY hy)) ?_))
 rintro v4 w4 ⟨rfl, hb4⟩
 have M4 := M3.callB hb4
 refine bH rfl rfl (aB (aC (aE (aA (aP rfl rfl (wq (aM 2 (.int _ _) cQ M4 rfl rfl rfl) rfl (cY rfl rfl rfl rfl (aB (aC ?_)))))))))
 refine aW rfl (fun h16 => ?_) (fun h16 => ?_)
 ·refine bR [(0, 1), (1, 1), (2, 0), (3, 2), (4, 2), (5, 2)] mixed rfl (by kernel_rfl) (fun w5 hb5 hh5 => ?_)
  have M5 := M4.drew hb5 hh5
  refine bS rfl rfl rfl (aX 3 bM M5 rfl rfl rfl) (bS rfl rfl rfl (aX 4 bM M5 rfl rfl rfl) (eB rfl rfl rfl (dU [false, true] rfl (by kernel_rfl) (bI 0 _ bM M5 rfl rfl rfl rfl rfl (aR rfl) rfl (fun w6 M6 => ?_)))))
  refine aB (aC ⟨(eD (bL rfl (aX 4 bM M6 rfl rfl rfl)) dT), ?_⟩)
  refine dU [true] rfl (by kernel_rfl) (bI 1 _ bM M6 rfl rfl rfl rfl rfl (aR rfl) rfl (fun w7 M7 => ?_))
  refine aB (aC ⟨dT, ?_⟩)
  refine dU [] rfl (by kernel_rfl) (dB 2 (.int _ _) cQ M7 rfl rfl rfl rfl rfl rfl (fun w8 M8 => ?_))
  refine aB (aC ⟨dT, ?_⟩)
  refine bX (lB ?_)
  exact ⟨rfl, by unfold fS; first | (rw [if_pos (by omega)]; exact M8.keep [true, true, true, false, false]) | (rw [if_neg (by omega)]; exact M8.keep [true, true, true, false, false])⟩
 ·refine aL (lB ?_)
  exact ⟨rfl, by unfold fS; first | (rw [if_pos (by omega)]; exact M4.keep [true, true, true, false, false]) | (rw [if_neg (by omega)]; exact M4.keep [true, true, true, false, false])⟩
set_option maxHeartbeats 8000000 in
theorem aQg (w : World) (ap aq bp bq : Pt) (h1 : SgI ap aq) (h2 : SgI bp bq) :
  Calls Tryz.prog 259 #[(.agg (cH ap).toArray), (.agg (cH aq).toArray), (.agg (cH bp).toArray), (.agg (cH bq).toArray)] w (fun ex w' => ∃ v, ex = .returned v ∧ (fun v w' => v = .tuple #[(.agg (cH (mS ap aq bp bq).1).toArray), (.agg (cH (mS ap aq bp bq).2.1).toArray), .int .u64 ((mS ap aq bp bq).2.2 : Int)] ∧ Below w.heap.size w w') v w') := by
 refine aI #[.cell 8 37, .cell 9 37, .cell 10 237] 48 Tryz.func259 rfl Tryz.results259 Tryz.ntmps259 rfl ?_
 have M0 := Mem.refl w
 refine aE (aA (bJ (.agg (List.toArray _)) M0 rfl rfl rfl (fun b1 w1 M1 => (bJ (.agg (List.toArray _)) M1 rfl rfl rfl (fun b2 w2 M2 => (bJ (.agg (List.toArray _)) M2 rfl rfl rfl (fun b3 w3 M3 => (bJ (.agg (List.toArray _)) M3 rfl rfl rfl (fun b4 w4 M4 => (aT iF M4 rfl rfl (fun b5 w5 M5 => ?_)))))))))))
 refine aT iF M5 rfl rfl (fun b6 w6 M6 => (aT bHt M6 rfl rfl (fun b7 w7 M7 => (aB (aC (aE (aA (dB 6 (.int _ _) cQ M7 rfl rfl rfl rfl rfl rfl (fun w8 M8 => (aB (aC (aE (aA ?_)))))))))))))
 obtain ⟨s, hS⟩ : ∃ z, z = ch0 := ⟨_, rfl⟩
 have hC : ChI s := by rw [hS]; exact bDg
 have M9 : Mem _ _ [_, _, _, _, (some b5, bc (cH ch0.1) 37), (some b6, bc (cH ch0.2.1) 37), (some b7, bc [.int .u64 (ch0.2.2 : Int)] 237)] _ := M8
 rw [← hS] at M9
 refine wq (dR [] [.pointer _, .pointer _, .pointer _] rfl rfl) rfl (wq (aJ (.func _ _ _) rfl) rfl (aB (aC (aE (aE (aA (wq (aX 0 bM M9 rfl rfl rfl) rfl (wq (aX 1 bM M9 rfl rfl rfl) rfl (wq (tA [.agg (List.toArray _), .agg (List.toArray _)] zE aUc rfl rfl (dD rfl)) rfl ?_)))))))))
 refine aP rfl rfl (aB (aC (aQ (iU 3 (fI (aE (aA (cY rfl rfl rfl rfl (kH 21 rfl (by first | decide | omega) ?_)))))))))
 refine aB (aC (aE (cE rfl (aL (aC (aE (aQ (aE (aA (wq (qC 0 _ zE bM rfl rfl (by decide) (by decide) rfl rfl) rfl (aT iF M9 rfl rfl (fun b10 w10 M10 => (bI 7 _ bM M10 rfl rfl rfl rfl rfl (aR rfl) rfl (fun w11 M11 => ?_))))))))))))))
 refine aB (aC (bR [(0, 0), (1, 1), (2, 1), (3, 1), (4, 1), (5, 2), (6, 2)] mixed rfl (by kernel_rfl) (fun w12 hb12 hh12 => ?_)))
 have M12 := M11.drew hb12 hh12
 refine aU rfl rfl rfl (fun _ => aH (.func _ _ _) rfl) (bS rfl rfl rfl (aX 7 bM M12 rfl rfl rfl) (bS rfl rfl rfl (aX 2 bM M12 rfl rfl rfl) (bS rfl rfl rfl (aX 3 bM M12 rfl rfl rfl) (bS rfl rfl rfl (aX 7 bM M12 rfl rfl rfl) (dU [true, true, true, false] rfl (by kernel_rfl) ?_)))))
 refine bY aJk rfl rfl (mU _ bp bq ap h2 h1.hp) ?_
 rintro v13 w13 ⟨rfl, hb13⟩
 have M13 := M12.callB hb13
 refine aB (aC ⟨(eD (bL rfl (aX 7 bM M13 rfl rfl rfl)) dT), ?_⟩)
 refine dU [true] rfl (by kernel_rfl) (bY aKs rfl rfl (aBq _ s ap (cC bp bq ap) _ _ _ h1.hp (eT h2) (M13.ownSeg 4 3)) ?_)
 rintro v14 w14 ⟨rfl, hM14⟩
 have M14 : Mem _ _ [_, _, _, _, _, _, _, _] _ := M13.seg 4 3 hM14
 obtain ⟨s, hs⟩ : ∃ z, z = fS s ap (cC bp bq ap) := ⟨_, rfl⟩
 rw [← hs] at M14
 replace hC := hC.step (x := ap) (y := (cC bp bq ap)) h1.hp (eT h2)
 rw [← hs] at hC
 replace hS := hs.trans (congrArg (fun z => fS z ap (cC bp bq ap)) hS)
 refine aB (aC ⟨dT, ?_⟩)
 refine bX (cT (aC (aA (wq (aY rfl rfl (by first | decide | omega) (by first | decide | omega)) rfl (aK 30 (.int .i64 1) (iE (by first | decide | omega)) (aP rfl rfl ?_))))))
 refine aB (aC (fI (aE (aA (cY rfl rfl rfl rfl (kH 21 rfl (by first | decide | omega) (aB (aC (aE ?_)))))))))
 refine cE rfl (aL (aC (aE (aQ (aE (aA (wq (qC 1 _ zE bM rfl rfl (by decide) (by decide) rfl rfl) rfl (aT iF M14 rfl rfl (fun b15 w15 M15 => (bI 8 _ bM M15 rfl rfl rfl rfl rfl (aR rfl) rfl (fun w16 M16 => (aB (aC ?_)))))))))))))
 refine bR [(0, 0), (1, 1), (2, 1), (3, 1), (4, 1), (5, 2), (6, 2)] mixed rfl (by kernel_rfl) (fun w17 hb17 hh17 => ?_)
 have M17 := M16.drew hb17 hh17
 refine aU rfl rfl rfl (fun _ => aH (.func _ _ _) rfl) (bS rfl rfl rfl (aX 8 bM M17 rfl rfl rfl) (bS rfl rfl rfl (aX 2 bM M17 rfl rfl rfl) (bS rfl rfl rfl (aX 3 bM M17 rfl rfl rfl) (bS rfl rfl rfl (aX 8 bM M17 rfl rfl rfl) (dU [true, true, true, false] rfl (by kernel_rfl) ?_)))))
 refine bY aJk rfl rfl (mU _ bp bq aq h2 h1.hq) ?_
 rintro v18 w18 ⟨rfl, hb18⟩
 have M18 := M17.callB hb18
 refine aB (aC ⟨(eD (bL rfl (aX 8 bM M18 rfl rfl rfl)) dT), ?_⟩)
 refine dU [true] rfl (by kernel_rfl) (bY aKs rfl rfl (aBq _ s aq (cC bp bq aq) _ _ _ h1.hq (eT h2) (M18.ownSeg 4 3)) ?_)
 rintro v19 w19 ⟨rfl, hM19⟩
 have M19 : Mem _ _ [_, _, _, _, _, _, _, _, _] _ := M18.seg 4 3 hM19
 obtain ⟨s, hs⟩ : ∃ z, z = fS s aq (cC bp bq aq) := ⟨_, rfl⟩
 rw [← hs] at M19
 replace hC := hC.step (x := aq) (y := (cC bp bq aq)) h1.hq (eT h2)
 rw [← hs] at hC
 replace hS := hs.trans (congrArg (fun z => fS z aq (cC bp bq aq)) hS)
 refine aB (aC ⟨dT, ?_⟩)
 refine bX (cT (aC (aA (wq (aY rfl rfl (by first | decide | omega) (by first | decide | omega)) rfl (aK 30 (.int .i64 2) (iE (by first | decide | omega)) (aP rfl rfl ?_))))))
 refine aB (aC (fI (aE (aA (cY rfl rfl rfl rfl (oG 21 rfl (by first | decide | omega) (aB (aC (aE ?_)))))))))
 refine cJ rfl (cW (dE (dE (eS (aC (aE (aE (aA (wq (aX 2 bM M19 rfl rfl rfl) rfl ?_)))))))))
 refine wq (aX 3 bM M19 rfl rfl rfl) rfl (wq (tA [.agg (List.toArray _), .agg (List.toArray _)] zE aUc rfl rfl (dD rfl)) rfl (aP rfl rfl (aB (aC (aQ (iU 3 (fI (aE (aA ?_)))))))))
 refine cY rfl rfl rfl rfl (kH 35 rfl (by first | decide | omega) (aB (aC (aE (cE rfl (aL (aC (aE (aQ (aE (aA (wq (qC 0 _ zE bM rfl rfl (by decide) (by decide) rfl rfl) rfl ?_))))))))))))
 refine aT iF M19 rfl rfl (fun b20 w20 M20 => (bI 9 _ bM M20 rfl rfl rfl rfl rfl (aR rfl) rfl (fun w21 M21 => (aB (aC (bR [(0, 0), (1, 1), (2, 1), (3, 1), (5, 1), (4, 2), (6, 2)] mixed rfl (by kernel_rfl) (fun w22 hb22 hh22 => ?_)))))))
 have M22 := M21.drew hb22 hh22
 refine aU rfl rfl rfl (fun _ => aH (.func _ _ _) rfl) (bS rfl rfl rfl (aX 0 bM M22 rfl rfl rfl) (bS rfl rfl rfl (aX 1 bM M22 rfl rfl rfl) (bS rfl rfl rfl (aX 9 bM M22 rfl rfl rfl) (bS rfl rfl rfl (aX 9 bM M22 rfl rfl rfl) (dU [false, true, true, true] rfl (by kernel_rfl) ?_)))))
 refine bY aJk rfl rfl (mU _ ap aq bp h1 h2.hp) ?_
 rintro v23 w23 ⟨rfl, hb23⟩
 have M23 := M22.callB hb23
 refine aB (aC ⟨(eD (bL rfl (aX 9 bM M23 rfl rfl rfl)) dT), ?_⟩)
 refine dU [true] rfl (by kernel_rfl) (bY aKs rfl rfl (aBq _ s (cC ap aq bp) bp _ _ _ (eT h1) h2.hp (M23.ownSeg 4 3)) ?_)
 rintro v24 w24 ⟨rfl, hM24⟩
 have M24 : Mem _ _ [_, _, _, _, _, _, _, _, _, _] _ := M23.seg 4 3 hM24
 obtain ⟨s, hs⟩ : ∃ z, z = fS s (cC ap aq bp) bp := ⟨_, rfl⟩
 rw [← hs] at M24
 replace hC := hC.step (x := (cC ap aq bp)) (y := bp) (eT h1) h2.hp
 rw [← hs] at hC
 replace hS := hs.trans (congrArg (fun z => fS z (cC ap aq bp) bp) hS)
 refine aB (aC ⟨dT, ?_⟩)
 refine bX (cT (aC (aA (wq (aY rfl rfl (by first | decide | omega) (by first | decide | omega)) rfl (aK 44 (.int .i64 1) (iE (by first | decide | omega)) (aP rfl rfl ?_))))))
 refine aB (aC (fI (aE (aA (cY rfl rfl rfl rfl (kH 35 rfl (by first | decide | omega) (aB (aC (aE ?_)))))))))
 refine cE rfl (aL (aC (aE (aQ (aE (aA (wq (qC 1 _ zE bM rfl rfl (by decide) (by decide) rfl rfl) rfl (aT iF M24 rfl rfl (fun b25 w25 M25 => (bI 10 _ bM M25 rfl rfl rfl rfl rfl (aR rfl) rfl (fun w26 M26 => (aB (aC ?_)))))))))))))
 refine bR [(0, 0), (1, 1), (2, 1), (3, 1), (5, 1), (4, 2), (6, 2)] mixed rfl (by kernel_rfl) (fun w27 hb27 hh27 => ?_)
 have M27 := M26.drew hb27 hh27
 refine aU rfl rfl rfl (fun _ => aH (.func _ _ _) rfl) (bS rfl rfl rfl (aX 0 bM M27 rfl rfl rfl) (bS rfl rfl rfl (aX 1 bM M27 rfl rfl rfl) (bS rfl rfl rfl (aX 10 bM M27 rfl rfl rfl) (bS rfl rfl rfl (aX 10 bM M27 rfl rfl rfl) (dU [false, true, true, true] rfl (by kernel_rfl) ?_)))))
 refine bY aJk rfl rfl (mU _ ap aq bq h1 h2.hq) ?_
 rintro v28 w28 ⟨rfl, hb28⟩
 have M28 := M27.callB hb28
 refine aB (aC ⟨(eD (bL rfl (aX 10 bM M28 rfl rfl rfl)) dT), ?_⟩)
 refine dU [true] rfl (by kernel_rfl) (bY aKs rfl rfl (aBq _ s (cC ap aq bq) bq _ _ _ (eT h1) h2.hq (M28.ownSeg 4 3)) ?_)
 rintro v29 w29 ⟨rfl, hM29⟩
 have M29 : Mem _ _ [_, _, _, _, _, _, _, _, _, _, _] _ := M28.seg 4 3 hM29
 obtain ⟨s, hs⟩ : ∃ z, z = fS s (cC ap aq bq) bq := ⟨_, rfl⟩
 rw [← hs] at M29
 replace hC := hC.step (x := (cC ap aq bq)) (y := bq) (eT h1) h2.hq
 rw [← hs] at hC
 replace hS := hs.trans (congrArg (fun z => fS z (cC ap aq bq) bq) hS)
 refine aB (aC ⟨dT, ?_⟩)
 refine bX (cT (aC (aA (wq (aY rfl rfl (by first | decide | omega) (by first | decide | omega)) rfl (aK 44 (.int .i64 2) (iE (by first | decide | omega)) (aP rfl rfl ?_))))))
 refine aB (aC (fI (aE (aA (cY rfl rfl rfl rfl (oG 35 rfl (by first | decide | omega) (aB (aC (aE ?_)))))))))
 refine cJ rfl (cW (dE (dE (eS (aC (aE (bR [(0, 1), (1, 1), (2, 1), (3, 2), (4, 2), (5, 2)] mixed rfl (by kernel_rfl) (fun w30 hb30 hh30 => ?_))))))))
 have M30 := M29.drew hb30 hh30
 refine bS rfl rfl rfl (aX 4 bM M30 rfl rfl rfl) (bS rfl rfl rfl (aX 5 bM M30 rfl rfl rfl) (bS rfl rfl rfl (aM 6 (.int _ _) cQ M30 rfl rfl rfl) (dU [false, false, true] rfl (by kernel_rfl) (bI 4 _ bM M30 rfl rfl rfl rfl rfl (aR rfl) rfl (fun w31 M31 => ?_)))))
 refine aB (aC ⟨(eD (bL rfl (aM 6 (.int _ _) cQ M31 rfl rfl rfl)) (eD (bL rfl (aX 5 bM M31 rfl rfl rfl)) dT)), ?_⟩)
 refine dU [false, true] rfl (by kernel_rfl) (bI 5 _ bM M31 rfl rfl rfl rfl rfl (aR rfl) rfl (fun w32 M32 => ?_))
 refine aB (aC ⟨(eD (bL rfl (aM 6 (.int _ _) cQ M32 rfl rfl rfl)) dT), ?_⟩)
 refine dU [true] rfl (by kernel_rfl) (dB 6 (.int _ _) cQ M32 rfl rfl rfl rfl rfl rfl (fun w33 M33 => ?_))
 refine aB (aC ⟨dT, ?_⟩)
 refine bX (aC (aO (bNq 4 5 6 bM cQ M33 rfl rfl rfl rfl rfl rfl rfl rfl ?_)))
 exact ⟨by rw [show s = mS ap aq bp bq from hS], M33.below⟩
set_option maxHeartbeats 4000000 in
theorem aSb (w : World) (ap aq bp bq : Pt) (h1 : SgI ap aq) (h2 : SgI bp bq) :
  Calls Tryz.prog 238 #[(.agg (cH ap).toArray), (.agg (cH aq).toArray), (.agg (cH bp).toArray), (.agg (cH bq).toArray)] w (fun ex w' => ∃ v, ex = .returned v ∧ (fun v w' => v = .tuple #[(.agg (cH (mS ap aq bp bq).1).toArray), (.agg (cH (mS ap aq bp bq).2.1).toArray)] ∧ Below w.heap.size w w') v w') := by
 refine aI #[.cell 8 37, .cell 9 37] 21 Tryz.func238 rfl Tryz.results238 Tryz.ntmps238 rfl ?_
 have M0 := Mem.refl w
 refine aE (aA (bJ (.agg (List.toArray _)) M0 rfl rfl rfl (fun b1 w1 M1 => (bJ (.agg (List.toArray _)) M1 rfl rfl rfl (fun b2 w2 M2 => (bJ (.agg (List.toArray _)) M2 rfl rfl rfl (fun b3 w3 M3 => (bJ (.agg (List.toArray _)) M3 rfl rfl rfl (fun b4 w4 M4 => (aT iF M4 rfl rfl (fun b5 w5 M5 => ?_)))))))))))
 refine aT iF M5 rfl rfl (fun b6 w6 M6 => (aB (aC (aE (aA (wq (aX 0 bM M6 rfl rfl rfl) rfl (wq (aX 1 bM M6 rfl rfl rfl) rfl (wq (aX 2 bM M6 rfl rfl rfl) rfl (wq (aX 3 bM M6 rfl rfl rfl) rfl ?_)))))))))
 refine bY bMf rfl rfl (aQg _ ap aq bp bq h1 h2) ?_
 rintro v7 w7 ⟨rfl, hb7⟩
 have M7 := M6.callB hb7
 refine wq (aH (.tuple (List.toArray _)) rfl) rfl (wq (bN (.agg (List.toArray _)) rfl rfl) rfl (wq (bN (.agg (List.toArray _)) rfl rfl) rfl (wq (bN (.int _ _) rfl rfl) rfl (bI 4 _ bM M7 rfl rfl rfl rfl rfl (aR rfl) rfl (fun w8 M8 => (bI 5 _ bM M8 rfl rfl rfl rfl rfl (aR rfl) rfl (fun w9 M9 => ?_)))))))
 refine aB (aC (aE (bR [(0, 1), (1, 1), (2, 2), (3, 2)] mixed rfl (by kernel_rfl) (fun w10 hb10 hh10 => ?_))))
 have M10 := M9.drew hb10 hh10
 refine bS rfl rfl rfl (aX 4 bM M10 rfl rfl rfl) (bS rfl rfl rfl (aX 5 bM M10 rfl rfl rfl) (dU [false, true] rfl (by kernel_rfl) (bI 4 _ bM M10 rfl rfl rfl rfl rfl (aR rfl) rfl (fun w11 M11 => ?_))))
 refine aB (aC ⟨(eD (bL rfl (aX 5 bM M11 rfl rfl rfl)) dT), ?_⟩)
 refine dU [true] rfl (by kernel_rfl) (bI 5 _ bM M11 rfl rfl rfl rfl rfl (aR rfl) rfl (fun w12 M12 => ?_))
 refine aB (aC ⟨dT, ?_⟩)
 refine bX (aC (aO (aSt 4 5 bM M12 rfl rfl rfl rfl rfl rfl ?_)))
 exact ⟨rfl, M12.below⟩
end Go.Proofs.YtaoaknafiegfoaaGreatDoor
