/- Part of the proof of the laws of this seat: S20a, S20b. No conditions. -/
import Derived.Test.YtlmcphcgiclanaaGreatDoorK2
import Derived.Test.YtlmcphcgiclanaaGreatDoorK5
import Derived.Test.YtlmcphcgiclanaaGreatDoorK12
import Derived.Test.YtlmcphcgiclanaaGreatDoorK14
import Derived.Test.YtlmcphcgiclanaaGreatDoorK18
import Derived.Test.YtlmcphcgiclanaaGreatDoorK19
import Derived.Shelf.Spec.BitsCarry
set_option linter.unusedVariables false
set_option linter.unusedSimpArgs false
set_option linter.unnecessarySimpa false
namespace Go.Proofs.YtlmcphcgiclanaaGreatDoor
open Go.Bil
open Go.RowKit (Below)
open Go.Proofs
theorem bLd (x y : Nat) {w : World} : (callFunc 248 #[.int .u64 (x : Int), .int .u64 (y : Int), .int .u64 0]).run Tryz.prog w = .ok (.value (.tuple #[.int .u64 (((x + y) % 18446744073709551616 : Nat) : Int), .int .u64 (((x + y) / 18446744073709551616 : Nat) : Int)])) w := Any7.bits_Add64 aUj x y 0 (by omega) w
set_option maxHeartbeats 8000000 in
theorem aHm (w : World) (a n d : Int) (ha : 0 ≤ a) (hn : 0 ≤ n) (ha2 : a ≤ 4611686018427387904) (hn2 : n ≤ 4611686018427387904) (hp : a * n ≤ 4611686018427387904) (hd0 : 0 < d) (hd : d ≤ 9223372036854775807) :
  Calls Tryz.prog 141 #[.int .i64 a, .int .i64 n, .int .i64 d] w (fun ex w' => ∃ v, ex = .returned v ∧ (fun v w' => v = .tuple #[.int .i64 (a * n / d), .int .i64 0] ∧ Below w.heap.size w w') v w') := by
 obtain ⟨k, rfl⟩ := Int.eq_ofNat_of_zero_le ha
 obtain ⟨m, rfl⟩ := Int.eq_ofNat_of_zero_le hn
 obtain ⟨z, rfl⟩ := Int.eq_ofNat_of_zero_le (Int.le_of_lt hd0)
 obtain ⟨p, hpp⟩ : ∃ p, k * m = p := ⟨_, rfl⟩
 have hpi : (k : Int) * (m : Int) = (p : Int) := by rw [← hpp, Int.natCast_mul]
 rw [hpi] at hp
 have hql : p / z ≤ p := Nat.div_le_self _ _
 refine aI #[.tmp 6, .tmp 7] 65 Tryz.func141 rfl Tryz.results141 Tryz.ntmps141 rfl ?_
 have M0 := Mem.refl w
 refine aE (aA (bC rfl rfl (bC rfl rfl (aB (aC (aE (aE (aA (aO rfl rfl (cX rfl rfl rfl rfl ?_))))))))))
 refine pA 17 rfl (by omega) (aB (aC (cM rfl (aL (aC (aE (aA (aO rfl rfl (bZ sC rfl rfl (lJ _ (k : Int) (by omega) (by omega)) ?_)))))))))
 rintro v1 w1 ⟨rfl, hb1⟩
 have M1 := M0.callB hb1
 refine aK 20 (.int .u64 (k : Int)) (iE (by omega)) (aO rfl rfl (bZ sC rfl rfl (lJ _ (m : Int) (by omega) (by omega)) ?_))
 rintro v2 w2 ⟨rfl, hb2⟩
 have M2 := M1.callB hb2
 refine aK 22 (.int .u64 (m : Int)) (iE (by omega)) (bZ aPj rfl rfl (aZn _ k m (by omega) (by omega)) ?_)
 rintro v3 w3 ⟨rfl, hb3⟩
 have M3 := M2.callB hb3
 refine wq (aH (.tuple (List.toArray _)) rfl) rfl (wq (bO (.int _ _) rfl rfl) rfl (aK 24 (.int .u64 ((0 : Nat) : Int)) (iE (congrArg _ (by rw [hpp]; exact Nat.div_eq_of_lt (by omega)))) (wq (bO (.int _ _) rfl rfl) rfl (aK 25 (.int .u64 (p : Int)) (iE (congrArg _ (by rw [hpp]; exact Nat.mod_eq_of_lt (by omega)))) ?_))))
 refine bC rfl rfl (bC rfl rfl (aB (aC (aE (aA (aO rfl rfl (bZ sC rfl rfl (lJ _ (z : Int) (by omega) (by omega)) ?_)))))))
 rintro v4 w4 ⟨rfl, hb4⟩
 have M4 := M3.callB hb4
 refine aK 27 (.int .u64 (z : Int)) (iE (by omega)) (bC rfl rfl (aB (aC (aE (aE (aA (aO rfl rfl (aO rfl rfl (cX rfl rfl rfl rfl ?_)))))))))
 refine pA 30 rfl (by omega) (aB (aC (cM rfl (aL (aC (aE (aA (aO rfl rfl (aO rfl rfl ?_)))))))))
 refine aO rfl rfl (bZ aYc rfl rfl (bFa _ 0 p z (by omega) (by omega) (by omega)) ?_)
 rintro v5 w5 ⟨rfl, hb5⟩
 have M5 := M4.callB hb5
 refine wq (aH (.tuple (List.toArray _)) rfl) rfl (wq (bO (.int _ _) rfl rfl) rfl (aK 36 (.int .u64 ((p / z : Nat) : Int)) (iE (by rw [Nat.zero_mul, Nat.zero_add])) (wq (bO (.int _ _) rfl rfl) rfl (bC rfl rfl (bC rfl rfl ?_)))))
 refine aB (aC (aE (aA (aO rfl rfl (cX rfl rfl rfl rfl (pA 39 rfl (by omega) (aO rfl rfl (cX rfl rfl rfl rfl ?_))))))))
 refine pA 41 rfl (by omega) (wq (qL _ Tryz.underlying4 rfl rfl rfl) rfl (aK 42 (.bool false) rfl (aO rfl rfl (cX rfl rfl rfl rfl (pA 44 rfl (by omega) ?_)))))
 refine wq (qL _ Tryz.underlying4 rfl rfl rfl) rfl (aK 45 (.bool false) rfl (wq (aJ (.bool false) rfl) rfl (aB (aC (aE (aE (aA (wq (aH (.bool false) rfl) rfl (wq (aH (.bool false) rfl) rfl ?_)))))))))
 refine aN rfl rfl (aN rfl rfl (wq (bM false (.bool false) rfl rfl) rfl (aB (aC (cM rfl (aL (aC (aE (aA ?_)))))))))
 refine wq (aH (.bool false) rfl) rfl (bZ aJa rfl rfl (aHk _ false) ?_)
 rintro v6 w6 ⟨bs, rfl, hM6⟩
 have M6 : Mem _ _ [_] _ := M5.call0 hM6
 refine aO rfl rfl (bZ aIw rfl rfl (aAh _ (p / z) false bs (by omega) (oM 0 M6 rfl rfl)) ?_)
 rintro v7 w7 ⟨rfl, hb7⟩
 have M7 := M6.callB hb7
 refine wq (aH (.tuple (List.toArray _)) rfl) rfl (wq (bO (.int _ _) rfl rfl) rfl (wq (bO (.bool true) rfl rfl) rfl (bC rfl rfl (wq (aJ (.bool true) rfl) rfl (aB (aC (aE (aE (aA ?_)))))))))
 refine wq (aH (.bool true) rfl) rfl (wq (iD false rfl rfl) rfl (aB (aC (cM rfl (aL (aC (aE (aA (aO rfl rfl ?_)))))))))
 refine bC rfl rfl (bC rfl rfl (aB (aC (aP (gA (.int _ _) (.int _ _) rfl rfl ?_)))))
 exact ⟨rN (iE (by rw [hpi]; simp)) rfl, M7.below⟩
set_option maxHeartbeats 8000000 in
theorem aZp (w : World) (a b : Int) (ha : 0 ≤ a) (ha2 : a ≤ 4611686018427387904) (hb0 : -4611686018427387904 ≤ b) (hb1 : b ≤ 4611686018427387904) (hp : -4611686018427387904 ≤ a * b ∧ a * b ≤ 4611686018427387904) :
  Calls Tryz.prog 246 #[.int .i64 a, .int .i64 b] w (fun ex w' => ∃ v, ex = .returned v ∧ (fun v w' => ∃ (h : Int) (l : Nat), v = .tuple #[.int .i64 h, .int .u64 (l : Int)] ∧ MulR a b h l ∧ Below w.heap.size w w') v w') := by
 obtain ⟨k, rfl⟩ := Int.eq_ofNat_of_zero_le ha
 obtain ⟨p, hpp⟩ : ∃ p, k * b.natAbs = p := ⟨_, rfl⟩
 have hpi : (k : Int) * (b.natAbs : Int) = (p : Int) := by rw [← hpp, Int.natCast_mul]
 have hneg : b < 0 → (k : Int) * b = -(p : Int) := fun g => by rw [← hpi, ← Int.mul_neg]; congr 1; omega
 have hpos : ¬ b < 0 → (k : Int) * b = (p : Int) := fun g => by rw [← hpi]; congr 1; omega
 have hpl : p ≤ 4611686018427387904 := by by_cases g : b < 0; (have := hneg g; omega); (have := hpos g; omega)
 refine aI #[.tmp 4, .tmp 5] 35 Tryz.func246 rfl Tryz.results246 Tryz.ntmps246 rfl ?_
 have M0 := Mem.refl w
 refine aE (aA (bC rfl rfl (bC rfl rfl (aB (aC (aE (aA (aO rfl rfl (bZ sC rfl rfl (lJ _ (k : Int) (by omega) (by omega)) ?_)))))))))
 rintro v1 w1 ⟨rfl, hb1⟩
 have M1 := M0.callB hb1
 refine aK 11 (.int .u64 (k : Int)) (iE (by omega)) (aO rfl rfl (bZ sC rfl rfl (lJ _ b (by omega) (by omega)) ?_))
 rintro v2 w2 ⟨rfl, hb2⟩
 have M2 := M1.callB hb2
 refine bZ aPj rfl rfl (aZn _ k b.natAbs (by omega) (by omega)) ?_
 rintro v3 w3 ⟨rfl, hb3⟩
 have M3 := M2.callB hb3
 refine wq (aH (.tuple (List.toArray _)) rfl) rfl (wq (bO (.int _ _) rfl rfl) rfl (aK 15 (.int .u64 ((0 : Nat) : Int)) (iE (congrArg _ (by rw [hpp]; exact Nat.div_eq_of_lt (by omega)))) (wq (bO (.int _ _) rfl rfl) rfl (aK 16 (.int .u64 (p : Int)) (iE (congrArg _ (by rw [hpp]; exact Nat.mod_eq_of_lt (by omega)))) ?_))))
 refine bC rfl rfl (bC rfl rfl (aB (aC (aE (aE (aA (aO rfl rfl (cX rfl rfl rfl rfl (pA 18 rfl (by omega) ?_)))))))))
 refine aO rfl rfl (cX rfl rfl rfl rfl (wq (qL _ Tryz.underlying4 rfl rfl rfl) rfl (aK 21 (.bool (decide (b < 0))) (bv rfl (by simp)) (aB (aC ?_)))))
 refine aS rfl (fun h21 => ?_) (fun h21 => ?_)
 ·refine aE (aA (bC rfl rfl (aB (aC (aE (aA (aO rfl rfl (wq (aRu rfl) rfl (aK 24 (.int .u64 ((18446744073709551615 - p : Nat) : Int)) (iE (aPz p (by omega))) ?_)))))))))
  refine wq (aVz rfl (bLd (18446744073709551615 - p) 1)) rfl (wq (aH (.tuple (List.toArray _)) rfl) rfl (wq (bO (.int _ _) rfl rfl) rfl (aK 26 (.int .u64 (((18446744073709551616 - p) % 18446744073709551616 : Nat) : Int)) (iE (by omega)) (wq (bO (.int _ _) rfl rfl) rfl (aK 27 (.int .u64 ((if p = 0 then 1 else 0 : Nat) : Int)) (iE (by split <;> omega)) ?_)))))
  refine bC rfl rfl (bC rfl rfl (aB (aC (aA (aO rfl rfl (wq (aRu rfl) rfl (aK 29 (.int .u64 ((18446744073709551615 : Nat) : Int)) (iE (aPz 0 (by omega))) ?_)))))))
  refine aO rfl rfl (wq (cA (.int _ _) rfl rfl rfl) rfl (aK 31 (.int .u64 ((if p = 0 then 0 else 18446744073709551615 : Nat) : Int)) (iE (by rw [fZ]; split <;> omega)) (bC rfl rfl (aB (aC (aE (aA (aO rfl rfl ?_))))))))
  refine wq (dA uI Tryz.underlying2 rfl) rfl (aK 33 (.int .i64 (if p = 0 then 0 else -1)) (iE (by rw [wrI]; split <;> omega)) (aO rfl rfl (bC rfl rfl (bC rfl rfl (aB (aC (aP ?_)))))))
  refine gA (.int _ _) (.int _ _) rfl rfl ?_
  exact ⟨_, _, rfl, MulR.neg (hneg h21) hpl, M3.below⟩
 ·refine aL (aC (aE (aA (aO rfl rfl (wq (dA uI Tryz.underlying2 rfl) rfl (aK 33 (.int .i64 0) (iE (by rw [wrI]; omega)) (aO rfl rfl (bC rfl rfl ?_))))))))
  refine bC rfl rfl (aB (aC (aP (gA (.int _ _) (.int _ _) rfl rfl ?_))))
  exact ⟨_, _, rfl, MulR.pos (hpos h21) hpl, M3.below⟩
set_option maxHeartbeats 8000000 in
theorem aEf (w : World) (a b : Int) (ha : 0 ≤ a) (ha2 : a ≤ 4611686018427387904) (hb0 : -4611686018427387904 ≤ b) (hb1 : b ≤ 4611686018427387904) (hp : -4611686018427387904 ≤ a * b ∧ a * b ≤ 4611686018427387904) :
  Calls Tryz.prog 240 #[.int .i64 a, .int .i64 b, .int .i64 16] w (fun ex w' => ∃ v, ex = .returned v ∧ (fun v w' => v = .tuple #[.int .i64 (a * b / 65536), .int .i64 0] ∧ Below w.heap.size w w') v w') := by
 refine aI #[.tmp 6, .tmp 7] 47 Tryz.func240 rfl Tryz.results240 Tryz.ntmps240 rfl ?_
 have M0 := Mem.refl w
 refine aE (aA (bC rfl rfl (bC rfl rfl (aB (aC (aE (aE (aA (aO rfl rfl (cX rfl rfl rfl rfl ?_))))))))))
 refine pA 12 rfl (by first | decide | omega) (wq (aH (.bool false) rfl) rfl (aO rfl rfl (cX rfl rfl rfl rfl (pA 15 rfl (by first | decide | omega) (wq (bM false (.bool false) rfl rfl) rfl ?_)))))
 refine aB (aC (cM rfl (aL (aC (aE (aA (aO rfl rfl (aO rfl rfl (bZ bGd rfl rfl (aZp _ a b ha ha2 hb0 hb1 hp) ?_)))))))))
 rintro v1 w1 ⟨h, l, rfl, hml, hb1⟩
 have M1 := M0.callB hb1
 have hll := hml.low
 obtain ⟨H, B, hH, hB, ⟨q, hq⟩, hl4, hBl, hlo, hh1, hh2⟩ := hml.high
 refine wq (aH (.tuple (List.toArray _)) rfl) rfl (wq (bO (.int _ _) rfl rfl) rfl (wq (bO (.int _ _) rfl rfl) rfl (bC rfl rfl (bC rfl rfl (aB (aC (aE (aA ?_))))))))
 refine aO rfl rfl (aO rfl rfl (wq (aZ us3 Tryz.underlying136 rfl (kH _ (by omega) (by omega))) rfl (wq (jH rfl rfl (by omega)) rfl (aK 26 (.int .u64 ((l / 65536 : Nat) : Int)) (iE (aFi l 16 _ rfl (by omega))) (aO rfl rfl ?_)))))
 refine wq (dA lK Tryz.underlying170 rfl) rfl (aK 28 (.int .u64 (H : Int)) (iE hH) (aO rfl rfl (wq (fX rfl rfl (by first | decide | omega) (by first | decide | omega)) rfl (aK 30 (.int .i64 48) (iE (by first | decide | omega)) (wq (aZ us3 Tryz.underlying136 rfl (kH _ (by omega) (by omega))) rfl ?_)))))
 refine wq (vH rfl rfl (by omega)) rfl (aK 32 (.int .u64 (B : Int)) (iE ((aWf H 48 _ rfl (by omega)).trans (congrArg _ hB))) (wq (cA (.int _ _) rfl rfl rfl) rfl (aK 33 (.int .u64 ((l / 65536 + B : Nat) : Int)) (iE (bKy (l / 65536) q B 48 hq hl4 hBl)) (wq (dA uI Tryz.underlying2 rfl) rfl ?_))))
 refine aK 34 (.int .i64 (a * b / 65536)) (iE hlo) (bC rfl rfl (aB (aC (aE (aE (aA (aO rfl rfl (cX rfl rfl rfl rfl (pA 36 rfl (by first | decide | omega) ?_)))))))))
 refine aB (aC (cM rfl (aL (aC (aE (aE (aA (aO rfl rfl (aO rfl rfl (wq (aZ us3 Tryz.underlying136 rfl (kH _ (by omega) (by omega))) rfl ?_))))))))))
 refine wq (jH rfl rfl (by omega)) rfl (aK 42 (.int .i64 h) (iE ((oO h).trans hh1)) (aO rfl rfl (wq (jH rfl rfl (by decide)) rfl (aK 44 (.int .i64 h) (iE ((bBl _).trans hh2)) (cX rfl rfl rfl rfl ?_)))))
 refine pA 45 rfl (fun g => g rfl) (aB (aC (cM rfl (aL (aC (aE (aA (aO rfl rfl (bC rfl rfl ?_)))))))))
 refine bC rfl rfl (aB (aC (aP (gA (.int _ _) (.int _ _) rfl rfl ?_))))
 exact ⟨rfl, M1.below⟩
set_option maxHeartbeats 4000000 in
theorem yW (w : World) (a b : Int) (ha : 0 ≤ a) (ha2 : a ≤ 4611686018427387904) (hb0 : -4611686018427387904 ≤ b) (hb1 : b ≤ 4611686018427387904) (hp : -4611686018427387904 ≤ a * b ∧ a * b ≤ 4611686018427387904) :
  Calls Tryz.prog 224 #[.int .i64 a, .int .i64 b] w (fun ex w' => ∃ v, ex = .returned v ∧ (fun v w' => v = .int .i64 (a * b / 65536) ∧ Below w.heap.size w w') v w') := by
 refine aI #[.tmp 4] 14 Tryz.func224 rfl Tryz.results224 Tryz.ntmps224 rfl ?_
 have M0 := Mem.refl w
 refine aE (aA (bC rfl rfl (aB (aC (aE (aA (aO rfl rfl (aO rfl rfl (bZ bHg rfl rfl (aEf _ a b ha ha2 hb0 hb1 hp) ?_)))))))))
 rintro v1 w1 ⟨rfl, hb1⟩
 have M1 := M0.callB hb1
 refine wq (aH (.tuple (List.toArray _)) rfl) rfl (wq (bO (.int _ _) rfl rfl) rfl (wq (bO (.int _ _) rfl rfl) rfl (bC rfl rfl (bC rfl rfl (aB (aC (aE (aA ?_))))))))
 refine aO rfl rfl (bC rfl rfl (aB (aC (aP (cE (.int _ _) rfl ?_)))))
 exact ⟨rfl, M1.below⟩
set_option maxHeartbeats 4000000 in
theorem aHv (w : World) (c : Con) (a b : Body) (hc : Okn c) (ha : Okb a) (hb : Okb b) :
  Calls Tryz.prog 222 #[.agg (cG c).toArray, (.agg (aF a).toArray), (.agg (aF b).toArray)] w (fun ex w' => ∃ v, ex = .returned v ∧ (fun v w' => v = .int .i64 (uS c a b) ∧ Below w.heap.size w w') v w') := by
 have hr := wS hc ha hb
 have hv1 := ha.v
 have hv2 := hb.v
 have hx := hc.x
 have hy := hc.y
 refine aI #[.tmp 6] 41 Tryz.func222 rfl Tryz.results222 Tryz.ntmps222 rfl ?_
 have M0 := Mem.refl w
 refine aE (aA (bP (.agg (List.toArray _)) M0 rfl rfl rfl (fun b1 w1 M1 => (bP (.agg (List.toArray _)) M1 rfl rfl rfl (fun b2 w2 M2 => (bP (.agg (List.toArray _)) M2 rfl rfl rfl (fun b3 w3 M3 => (bC rfl rfl (aB (aC (aE ?_)))))))))))
 refine bR [(0, 0), (1, 0), (2, 1), (3, 0), (4, 0), (5, 0), (6, 1), (7, 0), (8, 0), (9, 0), (10, 0), (11, 1), (12, 0), (13, 0), (14, 0), (15, 1), (16, 0), (17, 0), (18, 0), (19, 0)] mixed rfl (by kernel_rfl) (fun w4 hb4 hh4 => ?_)
 have M4 := M3.drew hb4 hh4
 refine aX rfl rfl rfl (fun _ => aD 8 dP rfl) (aX rfl rfl rfl (fun _ => aD 0 cQ rfl) (bV rfl rfl rfl (aM 2 (.int _ _) aR M4 rfl rfl rfl) (aX rfl rfl rfl (fun _ => aZ dO Tryz.underlying2 rfl (fC _ (by omega) (by omega))) (aX rfl rfl rfl (fun _ => aD 8 dP rfl) ?_))))
 refine aX rfl rfl rfl (fun _ => aD 0 cQ rfl) (bV rfl rfl rfl (aM 1 (.int _ _) aR M4 rfl rfl rfl) (aX rfl rfl rfl (fun _ => aZ dO Tryz.underlying2 rfl (fC _ (by omega) (by omega))) (aX rfl rfl rfl (fun _ => fX rfl rfl (by omega) (by omega)) (aX rfl rfl rfl (fun _ => aD 8 dP rfl) ?_))))
 refine aX rfl rfl rfl (fun _ => aD 1 cK rfl) (bV rfl rfl rfl (aM 2 (.int _ _) aR M4 rfl rfl rfl) (aX rfl rfl rfl (fun _ => aZ dO Tryz.underlying2 rfl (fC _ (by omega) (by omega))) (aX rfl rfl rfl (fun _ => aD 8 dP rfl) (aX rfl rfl rfl (fun _ => aD 1 cK rfl) ?_))))
 refine bV rfl rfl rfl (aM 1 (.int _ _) aR M4 rfl rfl rfl) (aX rfl rfl rfl (fun _ => aZ dO Tryz.underlying2 rfl (fC _ (by omega) (by omega))) (aX rfl rfl rfl (fun _ => fX rfl rfl (by omega) (by omega)) (lM rfl rfl rfl (lM rfl rfl rfl (bY ?_)))))
 refine aC (aE (aA (aO rfl rfl (wq (aD 2 gP rfl) rfl (wq (aD 0 cQ rfl) rfl (wq (aM 0 (.int _ _) aR M4 rfl rfl rfl) rfl (wq (aZ dO Tryz.underlying2 rfl (fC _ (by omega) (by omega))) rfl ?_)))))))
 refine wq (eS rfl rfl (by omega) (by omega)) rfl (aO rfl rfl (wq (aD 2 gP rfl) rfl (wq (aD 1 cK rfl) rfl (wq (aM 0 (.int _ _) aR M4 rfl rfl rfl) rfl (wq (aZ dO Tryz.underlying2 rfl (fC _ (by omega) (by omega))) rfl ?_)))))
 refine wq (eS rfl rfl (by omega) (by omega)) rfl (wq (aY rfl rfl (by omega) (by omega)) rfl (wq (jH rfl rfl (by decide)) rfl (aK 40 (.int .i64 (uS c a b)) (iE (oO _)) (bC rfl rfl (aB (aC (aP ?_)))))))
 refine cE (.int _ _) rfl ?_
 exact ⟨rfl, M4.below⟩
set_option maxHeartbeats 4000000 in
theorem aMw (w : World) (a b : Body) :
  Calls Tryz.prog 223 #[(.agg (aF a).toArray), (.agg (aF b).toArray)] w (fun ex w' => ∃ v, ex = .returned v ∧ (fun v w' => v = .int .i32 (max a.bounce b.bounce) ∧ Below w.heap.size w w') v w') := by
 refine aI #[.tmp 4] 10 Tryz.func223 rfl Tryz.results223 Tryz.ntmps223 rfl ?_
 have M0 := Mem.refl w
 refine aE (aA (bP (.agg (List.toArray _)) M0 rfl rfl rfl (fun b1 w1 M1 => (bP (.agg (List.toArray _)) M1 rfl rfl rfl (fun b2 w2 M2 => (bC rfl rfl (aB (aC (aE (aA (wq (aD 5 mK rfl) rfl ?_)))))))))))
 refine wq (aM 0 (.int _ _) aR M2 rfl rfl rfl) rfl (wq (aD 5 mK rfl) rfl (wq (aM 1 (.int _ _) aR M2 rfl rfl rfl) rfl (wq (pE rfl rfl ) rfl (bC rfl rfl (aB (aC (aP ?_)))))))
 refine cE (.int _ _) rfl ?_
 exact ⟨iE (by first | rfl | omega), M2.below⟩
set_option maxHeartbeats 4000000 in
theorem aHw (w : World) (c : Con) (a b : Body) (hc : Okn c) (ha : Okb a) (hb : Okb b) :
  Calls Tryz.prog 204 #[.agg (cG c).toArray, (.agg (aF a).toArray), (.agg (aF b).toArray)] w (fun ex w' => ∃ v, ex = .returned v ∧ (fun v w' => v = .int .i64 (jZ c a b) ∧ Below w.heap.size w w') v w') := by
 have hr := wS hc ha hb
 have hm1 := ha.m
 have hm2 := hb.m
 have hc1 := ha.c
 have hc2 := hb.c
 refine aI #[.tmp 6] 41 Tryz.func204 rfl Tryz.results204 Tryz.ntmps204 rfl ?_
 have M0 := Mem.refl w
 refine aE (aA (bP (.agg (List.toArray _)) M0 rfl rfl rfl (fun b1 w1 M1 => (bP (.agg (List.toArray _)) M1 rfl rfl rfl (fun b2 w2 M2 => (bP (.agg (List.toArray _)) M2 rfl rfl rfl (fun b3 w3 M3 => (bC rfl rfl (aB (aC (aE (aA ?_))))))))))))
 refine wq (aU 0 eL M3 rfl rfl rfl) rfl (wq (aU 1 bK M3 rfl rfl rfl) rfl (wq (aU 2 bK M3 rfl rfl rfl) rfl (bZ bIp rfl rfl (aHv _ c a b hc ha hb) ?_)))
 rintro v4 w4 ⟨rfl, hb4⟩
 have M4 := M3.callB hb4
 refine bC rfl rfl (aB (aC (aE (aA (wq (aD 4 eC rfl) rfl (wq (aM 1 (.int _ _) aR M4 rfl rfl rfl) rfl (wq (aZ dO Tryz.underlying2 rfl (fC _ (by omega) (by omega))) rfl (wq (aD 4 eC rfl) rfl ?_))))))))
 refine wq (aM 2 (.int _ _) aR M4 rfl rfl rfl) rfl (wq (aZ dO Tryz.underlying2 rfl (fC _ (by omega) (by omega))) rfl (wq (aY rfl rfl (by omega) (by omega)) rfl (bC rfl rfl (aB (aC (aE (aE (aA (aO rfl rfl ?_)))))))))
 refine cX rfl rfl rfl rfl (wq (aH (.bool (decide _)) rfl) rfl ?_)
 refine dI 24 rfl (fun g24 => ?_) (fun g24 => ?_)
 ·refine aN rfl rfl (aN rfl rfl (wq (bM true (.bool true) rfl rfl) rfl (aB (aC (cC rfl (aE (aA ?_)))))))
  refine bC rfl rfl (aB (aC (aP (cH (cE (.int _ _) rfl ?_)))))
  exact ⟨iE (by unfold jZ; rw [if_pos (.inl (by omega))]), M4.below⟩
 ·refine aO rfl rfl (cX rfl rfl rfl rfl (wq (bM false (.bool (decide _)) rfl rfl) rfl (aB (aC ?_))))
  refine aS rfl (fun h27 => ?_) (fun h27 => ?_)
  ·refine aE (aA (bC rfl rfl (aB (aC (aP (cH (cE (.int _ _) rfl ?_)))))))
   exact ⟨iE (by unfold jZ; rw [if_pos (.inr (by omega))]), M4.below⟩
  ·have hsp := aBz hc ha hb (by omega)
   refine aL (aC (aE (aA (aO rfl rfl (wq (pG rfl (fC _ (by omega) (by omega))) rfl (wq (aU 1 bK M4 rfl rfl rfl) rfl (wq (aU 2 bK M4 rfl rfl rfl) rfl (bZ bGc rfl rfl (aMw _ a b) ?_))))))))
   rintro v5 w5 ⟨rfl, hb5⟩
   have M5 := M4.callB hb5
   refine wq (aZ dO Tryz.underlying2 rfl (fC _ (by omega) (by omega))) rfl (wq (aY rfl rfl (by omega) (by omega)) rfl (aO rfl rfl (bZ aIz rfl rfl (aHm _ (-uS c a b) (65536 + max a.bounce b.bounce) (a.mass + b.mass) (by omega) (by omega) (by omega) (by omega) (by omega) (by omega) (by omega)) ?_)))
   rintro v6 w6 ⟨rfl, hb6⟩
   have M6 := M5.callB hb6
   refine wq (aH (.tuple (List.toArray _)) rfl) rfl (wq (bO (.int _ _) rfl rfl) rfl (wq (bO (.int _ _) rfl rfl) rfl (bC rfl rfl (bC rfl rfl (aB (aC (aE (aA ?_))))))))
   refine aO rfl rfl (bC rfl rfl (aB (aC (aP (cE (.int _ _) rfl ?_)))))
   exact ⟨iE (by unfold jZ; rw [if_neg (fun g => by omega)]), M6.below⟩
set_option maxHeartbeats 4000000 in
theorem yV (w : World) (k n : Int) (b : Nat) (K : Rd w 1 (some ⟨b, 0, none⟩) 1 [[.int .i64 k]]) (hk : 0 ≤ k ∧ k ≤ 134217728) (hn : -65536 ≤ n ∧ n ≤ 65536) (hp : -8796093022208 ≤ k * n ∧ k * n ≤ 8796093022208) :
  Calls Tryz.prog 225 #[.int .i32 n, .pointer (some ⟨b, 0, none⟩)] w (fun ex w' => ∃ v, ex = .returned v ∧ (fun v w' => v = .int .i64 (k * n / 65536) ∧ Below w.heap.size w w') v w') := by
 rw [← gJ b]
 refine aI #[.tmp 3] 8 Tryz.func225 rfl Tryz.results225 Tryz.ntmps225 rfl ?_
 have M0 := Mem.refl w
 refine aE (aA (bC rfl rfl (aB (aC (aE (aA (wq (dV (o := 0) (.int _ _) iR (K.mem M0) (show ([[.int .i64 k]] : List (List Value))[0]? = some [.int .i64 k] from rfl) rfl rfl) rfl (aO rfl rfl (wq (aZ dO Tryz.underlying2 rfl (fC _ (by omega) (by omega))) rfl ?_)))))))))
 refine bZ aZb rfl rfl (yW _ k n (by omega) (by omega) (by omega) (by omega) (by omega)) ?_
 rintro v1 w1 ⟨rfl, hb1⟩
 have M1 := M0.callB hb1
 refine bC rfl rfl (aB (aC (aP (cE (.int _ _) rfl ?_))))
 exact ⟨rfl, M1.below⟩
set_option maxHeartbeats 4000000 in
theorem aDd (w : World) (j m x y : Int) (hj : 0 ≤ j ∧ j ≤ 8796093022208) (hm : 0 ≤ m ∧ m ≤ 1048576) (hp : 0 ≤ j * m ∧ j * m ≤ 8796093022208) (hx : -65536 ≤ x ∧ x ≤ 65536) (hy : -65536 ≤ y ∧ y ≤ 65536) :
  Calls Tryz.prog 205 #[.int .i64 j, .int .i32 m, .agg [.int .i32 x, .int .i32 y].toArray] w (fun ex w' => ∃ v, ex = .returned v ∧ (fun v w' => v = .tuple #[.int .i64 (mP j m x), .int .i64 (mP j m y)] ∧ Below w.heap.size w w') v w') := by
 have r1 := kG hp hx
 have r2 := kG hp hy
 have hkk := r1.1
 refine aI #[.tmp 6, .tmp 7] 23 Tryz.func205 rfl Tryz.results205 Tryz.ntmps205 rfl ?_
 have M0 := Mem.refl w
 refine aE (aA (bP (.agg (List.toArray _)) M0 rfl rfl rfl (fun b1 w1 M1 => (bC rfl rfl (bC rfl rfl (aB (aC (aE (aA (aO rfl rfl ?_))))))))))
 refine aO rfl rfl (wq (aZ dO Tryz.underlying2 rfl (fC _ (by omega) (by omega))) rfl (bZ aZb rfl rfl (yW _ j m (by omega) (by omega) (by omega) (by omega) (by omega)) ?_))
 rintro v2 w2 ⟨rfl, hb2⟩
 have M2 := M1.callB hb2
 refine aV aCo M2 rfl rfl (fun b3 w3 M3 => (cZ 1 (.int _ _) iR M3 rfl rfl rfl rfl rfl rfl (fun w4 M4 => (aB (aC (aE (aA (wq (dU [] [.pointer _] rfl rfl) rfl (wq (aJ (.func _ _ _) rfl) rfl (aB (aC (aE ?_))))))))))))
 refine bR [(0, 0), (1, 0), (2, 1), (4, 0), (5, 0), (6, 1), (3, 2), (7, 2), (8, 0), (9, 0)] mixed rfl (by kernel_rfl) (fun w5 hb5 hh5 => ?_)
 have M5 := M4.drew hb5 hh5
 refine aX rfl rfl rfl (fun _ => aH (.func _ _ _) rfl) (aX rfl rfl rfl (fun _ => aD 0 cQ rfl) (bV rfl rfl rfl (aM 0 (.int _ _) aR M5 rfl rfl rfl) (aX rfl rfl rfl (fun _ => aH (.func _ _ _) rfl) (aX rfl rfl rfl (fun _ => aD 1 cK rfl) (bV rfl rfl rfl (aM 0 (.int _ _) aR M5 rfl rfl rfl) ?_)))))
 refine dS [false, true] rfl (by kernel_rfl) (bZ bAg rfl rfl (yV _ (j * m / 65536) x b3 (oM 1 M5 rfl rfl) hkk hx r1.2.1) ?_)
 rintro v6 w6 ⟨rfl, hb6⟩
 have M6 := M5.callB hb6
 refine aB (aC ⟨(eD (bL rfl (aM 0 (.int _ _) aR M6 rfl rfl rfl)) dT), ?_⟩)
 refine dS [true] rfl (by kernel_rfl) (bZ bAg rfl rfl (yV _ (j * m / 65536) y b3 (oM 1 M6 rfl rfl) hkk hy r2.2.1) ?_)
 rintro v7 w7 ⟨rfl, hb7⟩
 have M7 := M6.callB hb7
 refine aB (aC ⟨dT, ?_⟩)
 refine lM rfl rfl rfl (lM rfl rfl rfl (bY (aC (aP (gA (.int _ _) (.int _ _) rfl rfl ?_)))))
 exact ⟨rfl, M7.below⟩
set_option maxHeartbeats 4000000 in
theorem aDj (w : World) (a l : Int) (hl : 0 ≤ l ∧ l ≤ 2147483648) :
  Calls Tryz.prog 118 #[.int .i64 a, .int .i64 l] w (fun ex w' => ∃ v, ex = .returned v ∧ (fun v w' => v = .tuple #[.int .i64 (iI a l), .bool (decide (iI a l ≠ a))] ∧ Below w.heap.size w w') v w') := by
 refine aI #[.tmp 4, .tmp 5] 17 Tryz.func118 rfl Tryz.results118 Tryz.ntmps118 rfl ?_
 have M0 := Mem.refl w
 refine aE (aA (bC rfl rfl (wq (aJ (.bool false) rfl) rfl (aB (aC (aE (aA (aO rfl rfl (wq (pG rfl (fC _ (by omega) (by omega))) rfl ?_)))))))))
 refine aO rfl rfl (aO rfl rfl (wq (aBx rfl rfl ) rfl (wq (pE rfl rfl ) rfl (aK 12 (.int .i64 (iI a l)) rfl (bC rfl rfl ?_)))))
 refine aB (aC (aE (aA (aO rfl rfl (aO rfl rfl (aO rfl rfl (cX rfl rfl rfl rfl (bC rfl rfl ?_))))))))
 refine wq (aJ (.bool (decide _)) rfl) rfl (aB (aC (aP (gA (.int _ _) (.bool (decide _)) rfl rfl ?_))))
 exact ⟨rfl, M0.below⟩
end Go.Proofs.YtlmcphcgiclanaaGreatDoor
