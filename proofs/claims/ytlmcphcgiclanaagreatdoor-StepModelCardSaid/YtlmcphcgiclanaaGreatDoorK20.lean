/- Part of the proof of the laws of this seat: S20a, S20b. No conditions. -/
import Derived.Test.YtlmcphcgiclanaaGreatDoorK5
import Derived.Test.YtlmcphcgiclanaaGreatDoorK12
import Derived.Test.YtlmcphcgiclanaaGreatDoorK14
import Derived.Test.YtlmcphcgiclanaaGreatDoorK18
import Derived.Test.YtlmcphcgiclanaaGreatDoorK19
import Derived.Shelf.Spec.BitsCarry
set_option linter.unusedVariables false
set_option linter.unusedSimpArgs false
set_option linter.unnecessarySimpa false
namespace Go.Proofs.YtlmcphcgiclanaaGreatDoor
open Go.Bil
open Go.RowKit (Below)
open Go.Proofs
theorem bCf (x y : Nat) {w : World} : (callFunc 248 #[.int .u64 (x : Int), .int .u64 (y : Int), .int .u64 0]).run Tryz.prog w = .ok (.value (.tuple #[.int .u64 (((x + y) % 18446744073709551616 : Nat) : Int), .int .u64 (((x + y) / 18446744073709551616 : Nat) : Int)])) w := Any7.bits_Add64 aMg x y 0 (by omega) w
set_option maxHeartbeats 8000000 in
theorem aCd (w : World) (a n d : Int) (ha : 0 ≤ a) (hn : 0 ≤ n) (ha2 : a ≤ 4611686018427387904) (hn2 : n ≤ 4611686018427387904) (hp : a * n ≤ 4611686018427387904) (hd0 : 0 < d) (hd : d ≤ 9223372036854775807) :
    Calls Tryz.prog 141 #[.int .i64 a, .int .i64 n, .int .i64 d] w (fun ex w' => ∃ v, ex = .returned v ∧ (fun v w' => v = .tuple #[.int .i64 (a * n / d), .int .i64 0] ∧ Below w.heap.size w w') v w') := by
  obtain ⟨k, rfl⟩ := Int.eq_ofNat_of_zero_le ha
  obtain ⟨m, rfl⟩ := Int.eq_ofNat_of_zero_le hn
  obtain ⟨z, rfl⟩ := Int.eq_ofNat_of_zero_le (Int.le_of_lt hd0)
  obtain ⟨p, hpp⟩ : ∃ p, k * m = p := ⟨_, rfl⟩
  have hpi : (k : Int) * (m : Int) = (p : Int) := by rw [← hpp, Int.natCast_mul]
  rw [hpi] at hp
  have hql : p / z ≤ p := Nat.div_le_self _ _
  refine aL #[.tmp 6, .tmp 7] 65 Tryz.func141 rfl Tryz.results141 Tryz.ntmps141 rfl ?_
  have M0 := Mem.refl w
  refine aH (aB ?_)
  refine aA (aD (.int _ _) rfl) rfl rfl ?_
  refine aA (aD (.int _ _) rfl) rfl rfl ?_
  refine aE (aF (aH (aH (aB ?_))))
  refine aA (aC (.int _ _) rfl) rfl rfl ?_
  refine aA (aN (.bool (decide _)) rfl rfl rfl) rfl rfl ?_
  refine aK 17 (.bool false) (bF (by omega)).symm ?_
  refine aE (aF ?_)
  refine cP rfl ?_
  refine aO (aF (aH (aB ?_)))
  refine aA (aC (.int _ _) rfl) rfl rfl ?_
  refine aM oS rfl rfl rfl ?_
  refine (jL _ (k : Int) (by omega) (by omega)).mono ?_
  rintro _ w1 ⟨v1, rfl, ⟨rfl, hb1⟩⟩
  refine ⟨_, rfl, ?_⟩
  have M1 := M0.callB hb1
  refine aK 20 (.int .u64 (k : Int)) (iE (by omega)) ?_
  refine aA (aC (.int _ _) rfl) rfl rfl ?_
  refine aM oS rfl rfl rfl ?_
  refine (jL _ (m : Int) (by omega) (by omega)).mono ?_
  rintro _ w2 ⟨v2, rfl, ⟨rfl, hb2⟩⟩
  refine ⟨_, rfl, ?_⟩
  have M2 := M1.callB hb2
  refine aK 22 (.int .u64 (m : Int)) (iE (by omega)) ?_
  refine aM aIu rfl rfl rfl ?_
  refine (aQp _ k m (by omega) (by omega)).mono ?_
  rintro _ w3 ⟨v3, rfl, ⟨rfl, hb3⟩⟩
  refine ⟨_, rfl, ?_⟩
  have M3 := M2.callB hb3
  refine aA (aC (.tuple (List.toArray _)) rfl) rfl rfl ?_
  refine aA (bI (.int _ _) rfl rfl) rfl rfl ?_
  refine aK 24 (.int .u64 ((0 : Nat) : Int)) (iE (congrArg _ (by rw [hpp]; exact Nat.div_eq_of_lt (by omega)))) ?_
  refine aA (bI (.int _ _) rfl rfl) rfl rfl ?_
  refine aK 25 (.int .u64 (p : Int)) (iE (congrArg _ (by rw [hpp]; exact Nat.mod_eq_of_lt (by omega)))) ?_
  refine aA (aD (.int _ _) rfl) rfl rfl ?_
  refine aA (aD (.int _ _) rfl) rfl rfl ?_
  refine aE (aF (aH (aB ?_)))
  refine aA (aC (.int _ _) rfl) rfl rfl ?_
  refine aM oS rfl rfl rfl ?_
  refine (jL _ (z : Int) (by omega) (by omega)).mono ?_
  rintro _ w4 ⟨v4, rfl, ⟨rfl, hb4⟩⟩
  refine ⟨_, rfl, ?_⟩
  have M4 := M3.callB hb4
  refine aK 27 (.int .u64 (z : Int)) (iE (by omega)) ?_
  refine aA (aD (.int _ _) rfl) rfl rfl ?_
  refine aE (aF (aH (aH (aB ?_))))
  refine aA (aC (.int _ _) rfl) rfl rfl ?_
  refine aA (aC (.int _ _) rfl) rfl rfl ?_
  refine aA (aN (.bool (decide _)) rfl rfl rfl) rfl rfl ?_
  refine aK 30 (.bool false) (bF (by omega)).symm ?_
  refine aE (aF ?_)
  refine cP rfl ?_
  refine aO (aF (aH (aB ?_)))
  refine aA (aC (.int _ _) rfl) rfl rfl ?_
  refine aA (aC (.int _ _) rfl) rfl rfl ?_
  refine aA (aC (.int _ _) rfl) rfl rfl ?_
  refine aM aPa rfl rfl rfl ?_
  refine (aXb _ 0 p z (by omega) (by omega) (by omega)).mono ?_
  rintro _ w5 ⟨v5, rfl, ⟨rfl, hb5⟩⟩
  refine ⟨_, rfl, ?_⟩
  have M5 := M4.callB hb5
  refine aA (aC (.tuple (List.toArray _)) rfl) rfl rfl ?_
  refine aA (bI (.int _ _) rfl rfl) rfl rfl ?_
  refine aK 36 (.int .u64 ((p / z : Nat) : Int)) (iE (by rw [Nat.zero_mul, Nat.zero_add])) ?_
  refine aA (bI (.int _ _) rfl rfl) rfl rfl ?_
  refine aA (aD (.int _ _) rfl) rfl rfl ?_
  refine aA (aD (.int _ _) rfl) rfl rfl ?_
  refine aE (aF (aH (aB ?_)))
  refine aA (aC (.int _ _) rfl) rfl rfl ?_
  refine aA (aN (.bool (decide _)) rfl rfl rfl) rfl rfl ?_
  refine aK 39 (.bool false) (bF (by omega)).symm ?_
  refine aA (aC (.int _ _) rfl) rfl rfl ?_
  refine aA (aN (.bool (decide _)) rfl rfl rfl) rfl rfl ?_
  refine aK 41 (.bool false) (bF (by omega)).symm ?_
  refine aA (nK _ Tryz.underlying4 rfl rfl rfl) rfl rfl ?_
  refine aK 42 (.bool false) rfl ?_
  refine aA (aC (.int _ _) rfl) rfl rfl ?_
  refine aA (aN (.bool (decide _)) rfl rfl rfl) rfl rfl ?_
  refine aK 44 (.bool false) (bF (by omega)).symm ?_
  refine aA (nK _ Tryz.underlying4 rfl rfl rfl) rfl rfl ?_
  refine aK 45 (.bool false) rfl ?_
  refine aA (aD (.bool false) rfl) rfl rfl ?_
  refine aE (aF (aH (aH (aB ?_))))
  refine aA (aC (.bool false) rfl) rfl rfl ?_
  refine aA (aC (.bool false) rfl) rfl rfl ?_
  refine aS rfl rfl ?_
  refine aS rfl rfl ?_
  refine aA (bQ false (.bool false) rfl rfl) rfl rfl ?_
  refine aE (aF ?_)
  refine cP rfl ?_
  refine aO (aF (aH (aB ?_)))
  refine aA (aC (.bool false) rfl) rfl rfl ?_
  refine aM aCy rfl rfl rfl ?_
  refine (aBq _ false).mono ?_
  rintro _ w6 ⟨v6, rfl, ⟨bs, rfl, hM6⟩⟩
  refine ⟨_, rfl, ?_⟩
  have M6 : Mem _ _ [_] _ := M5.call0 hM6
  refine aA (aC (.int _ _) rfl) rfl rfl ?_
  refine aM aCm rfl rfl rfl ?_
  refine (vL _ (p / z) false bs (by omega) (qI 0 M6 rfl rfl)).mono ?_
  rintro _ w7 ⟨v7, rfl, ⟨rfl, hb7⟩⟩
  refine ⟨_, rfl, ?_⟩
  have M7 := M6.callB hb7
  refine aA (aC (.tuple (List.toArray _)) rfl) rfl rfl ?_
  refine aA (bI (.int _ _) rfl rfl) rfl rfl ?_
  refine aA (bI (.bool true) rfl rfl) rfl rfl ?_
  refine aA (aD (.int _ _) rfl) rfl rfl ?_
  refine aA (aD (.bool true) rfl) rfl rfl ?_
  refine aE (aF (aH (aH (aB ?_))))
  refine aA (aC (.bool true) rfl) rfl rfl ?_
  refine aA (kF false rfl rfl) rfl rfl ?_
  refine aE (aF ?_)
  refine cP rfl ?_
  refine aO (aF (aH (aB ?_)))
  refine aA (aC (.int _ _) rfl) rfl rfl ?_
  refine aA (aD (.int _ _) rfl) rfl rfl ?_
  refine aA (aD (.int _ _) rfl) rfl rfl ?_
  refine aE (aF (aU ?_))
  refine fR (.int _ _) (.int _ _) rfl rfl ?_
  exact ⟨oA (iE (by rw [hpi]; simp)) rfl, M7.below⟩
set_option maxHeartbeats 8000000 in
theorem aOb (w : World) (a b : Int) (ha : 0 ≤ a) (ha2 : a ≤ 4611686018427387904) (hb0 : -4611686018427387904 ≤ b) (hb1 : b ≤ 4611686018427387904) (hp : -4611686018427387904 ≤ a * b ∧ a * b ≤ 4611686018427387904) :
    Calls Tryz.prog 246 #[.int .i64 a, .int .i64 b] w (fun ex w' => ∃ v, ex = .returned v ∧ (fun v w' => ∃ (h : Int) (l : Nat), v = .tuple #[.int .i64 h, .int .u64 (l : Int)] ∧ MulR a b h l ∧ Below w.heap.size w w') v w') := by
  obtain ⟨k, rfl⟩ := Int.eq_ofNat_of_zero_le ha
  obtain ⟨p, hpp⟩ : ∃ p, k * b.natAbs = p := ⟨_, rfl⟩
  have hpi : (k : Int) * (b.natAbs : Int) = (p : Int) := by rw [← hpp, Int.natCast_mul]
  have hneg : b < 0 → (k : Int) * b = -(p : Int) := fun g => by rw [← hpi, ← Int.mul_neg]; congr 1; omega
  have hpos : ¬ b < 0 → (k : Int) * b = (p : Int) := fun g => by rw [← hpi]; congr 1; omega
  have hpl : p ≤ 4611686018427387904 := by by_cases g : b < 0; (have := hneg g; omega); (have := hpos g; omega)
  refine aL #[.tmp 4, .tmp 5] 35 Tryz.func246 rfl Tryz.results246 Tryz.ntmps246 rfl ?_
  have M0 := Mem.refl w
  refine aH (aB ?_)
  refine aA (aD (.int _ _) rfl) rfl rfl ?_
  refine aA (aD (.int _ _) rfl) rfl rfl ?_
  refine aE (aF (aH (aB ?_)))
  refine aA (aC (.int _ _) rfl) rfl rfl ?_
  refine aM oS rfl rfl rfl ?_
  refine (jL _ (k : Int) (by omega) (by omega)).mono ?_
  rintro _ w1 ⟨v1, rfl, ⟨rfl, hb1⟩⟩
  refine ⟨_, rfl, ?_⟩
  have M1 := M0.callB hb1
  refine aK 11 (.int .u64 (k : Int)) (iE (by omega)) ?_
  refine aA (aC (.int _ _) rfl) rfl rfl ?_
  refine aM oS rfl rfl rfl ?_
  refine (jL _ b (by omega) (by omega)).mono ?_
  rintro _ w2 ⟨v2, rfl, ⟨rfl, hb2⟩⟩
  refine ⟨_, rfl, ?_⟩
  have M2 := M1.callB hb2
  refine aM aIu rfl rfl rfl ?_
  refine (aQp _ k b.natAbs (by omega) (by omega)).mono ?_
  rintro _ w3 ⟨v3, rfl, ⟨rfl, hb3⟩⟩
  refine ⟨_, rfl, ?_⟩
  have M3 := M2.callB hb3
  refine aA (aC (.tuple (List.toArray _)) rfl) rfl rfl ?_
  refine aA (bI (.int _ _) rfl rfl) rfl rfl ?_
  refine aK 15 (.int .u64 ((0 : Nat) : Int)) (iE (congrArg _ (by rw [hpp]; exact Nat.div_eq_of_lt (by omega)))) ?_
  refine aA (bI (.int _ _) rfl rfl) rfl rfl ?_
  refine aK 16 (.int .u64 (p : Int)) (iE (congrArg _ (by rw [hpp]; exact Nat.mod_eq_of_lt (by omega)))) ?_
  refine aA (aD (.int _ _) rfl) rfl rfl ?_
  refine aA (aD (.int _ _) rfl) rfl rfl ?_
  refine aE (aF (aH (aH (aB ?_))))
  refine aA (aC (.int _ _) rfl) rfl rfl ?_
  refine aA (aN (.bool (decide _)) rfl rfl rfl) rfl rfl ?_
  refine aK 18 (.bool false) (bF (by omega)).symm ?_
  refine aA (aC (.int _ _) rfl) rfl rfl ?_
  refine aA (aN (.bool (decide _)) rfl rfl rfl) rfl rfl ?_
  refine aA (nK _ Tryz.underlying4 rfl rfl rfl) rfl rfl ?_
  refine aK 21 (.bool (decide (b < 0))) (bv rfl (by simp)) ?_
  refine aE (aF ?_)
  refine aX rfl (fun h21 => ?_) (fun h21 => ?_)
  · refine aH (aB ?_)
    refine aA (aD (.int _ _) rfl) rfl rfl ?_
    refine aE (aF (aH (aB ?_)))
    refine aA (aC (.int _ _) rfl) rfl rfl ?_
    refine aA (aJr rfl) rfl rfl ?_
    refine aK 24 (.int .u64 ((18446744073709551615 - p : Nat) : Int)) (iE (aJt p (by omega))) ?_
    refine aA (aPm rfl (bCf (18446744073709551615 - p) 1)) rfl rfl ?_
    refine aA (aC (.tuple (List.toArray _)) rfl) rfl rfl ?_
    refine aA (bI (.int _ _) rfl rfl) rfl rfl ?_
    refine aK 26 (.int .u64 (((18446744073709551616 - p) % 18446744073709551616 : Nat) : Int)) (iE (by omega)) ?_
    refine aA (bI (.int _ _) rfl rfl) rfl rfl ?_
    refine aK 27 (.int .u64 ((if p = 0 then 1 else 0 : Nat) : Int)) (iE (by split <;> omega)) ?_
    refine aA (aD (.int _ _) rfl) rfl rfl ?_
    refine aA (aD (.int _ _) rfl) rfl rfl ?_
    refine aE (aF (aB ?_))
    refine aA (aC (.int _ _) rfl) rfl rfl ?_
    refine aA (aJr rfl) rfl rfl ?_
    refine aK 29 (.int .u64 ((18446744073709551615 : Nat) : Int)) (iE (aJt 0 (by omega))) ?_
    refine aA (aC (.int _ _) rfl) rfl rfl ?_
    refine aA (aN (.int _ _) rfl rfl rfl) rfl rfl ?_
    refine aK 31 (.int .u64 ((if p = 0 then 0 else 18446744073709551615 : Nat) : Int)) (iE (by rw [eX]; split <;> omega)) ?_
    refine aA (aD (.int _ _) rfl) rfl rfl ?_
    refine aE (aF (aH (aB ?_)))
    refine aA (aC (.int _ _) rfl) rfl rfl ?_
    refine aA (dH qT Tryz.underlying2 rfl) rfl rfl ?_
    refine aK 33 (.int .i64 (if p = 0 then 0 else -1)) (iE (by rw [wrI]; split <;> omega)) ?_
    refine aA (aC (.int _ _) rfl) rfl rfl ?_
    refine aA (aD (.int _ _) rfl) rfl rfl ?_
    refine aA (aD (.int _ _) rfl) rfl rfl ?_
    refine aE (aF (aU ?_))
    refine fR (.int _ _) (.int _ _) rfl rfl ?_
    exact ⟨_, _, rfl, MulR.neg (hneg h21) hpl, M3.below⟩
  · refine aO (aF (aH (aB ?_)))
    refine aA (aC (.int _ _) rfl) rfl rfl ?_
    refine aA (dH qT Tryz.underlying2 rfl) rfl rfl ?_
    refine aK 33 (.int .i64 0) (iE (by rw [wrI]; omega)) ?_
    refine aA (aC (.int _ _) rfl) rfl rfl ?_
    refine aA (aD (.int _ _) rfl) rfl rfl ?_
    refine aA (aD (.int _ _) rfl) rfl rfl ?_
    refine aE (aF (aU ?_))
    refine fR (.int _ _) (.int _ _) rfl rfl ?_
    exact ⟨_, _, rfl, MulR.pos (hpos h21) hpl, M3.below⟩
set_option maxHeartbeats 8000000 in
theorem zB (w : World) (a b : Int) (ha : 0 ≤ a) (ha2 : a ≤ 4611686018427387904) (hb0 : -4611686018427387904 ≤ b) (hb1 : b ≤ 4611686018427387904) (hp : -4611686018427387904 ≤ a * b ∧ a * b ≤ 4611686018427387904) :
    Calls Tryz.prog 240 #[.int .i64 a, .int .i64 b, .int .i64 16] w (fun ex w' => ∃ v, ex = .returned v ∧ (fun v w' => v = .tuple #[.int .i64 (a * b / 65536), .int .i64 0] ∧ Below w.heap.size w w') v w') := by
  refine aL #[.tmp 6, .tmp 7] 47 Tryz.func240 rfl Tryz.results240 Tryz.ntmps240 rfl ?_
  have M0 := Mem.refl w
  refine aH (aB ?_)
  refine aA (aD (.int _ _) rfl) rfl rfl ?_
  refine aA (aD (.int _ _) rfl) rfl rfl ?_
  refine aE (aF (aH (aH (aB ?_))))
  refine aA (aC (.int _ _) rfl) rfl rfl ?_
  refine aA (aN (.bool (decide _)) rfl rfl rfl) rfl rfl ?_
  refine aK 12 (.bool false) (bF (by first | decide | omega)).symm ?_
  refine aA (aC (.bool false) rfl) rfl rfl ?_
  refine aA (aC (.int _ _) rfl) rfl rfl ?_
  refine aA (aN (.bool (decide _)) rfl rfl rfl) rfl rfl ?_
  refine aK 15 (.bool false) (bF (by first | decide | omega)).symm ?_
  refine aA (bQ false (.bool false) rfl rfl) rfl rfl ?_
  refine aE (aF ?_)
  refine cP rfl ?_
  refine aO (aF (aH (aB ?_)))
  refine aA (aC (.int _ _) rfl) rfl rfl ?_
  refine aA (aC (.int _ _) rfl) rfl rfl ?_
  refine aM aXp rfl rfl rfl ?_
  refine (aOb _ a b ha ha2 hb0 hb1 hp).mono ?_
  rintro _ w1 ⟨v1, rfl, ⟨h, l, rfl, hml, hb1⟩⟩
  refine ⟨_, rfl, ?_⟩
  have M1 := M0.callB hb1
  have hll := hml.low
  obtain ⟨H, B, hH, hB, ⟨q, hq⟩, hl4, hBl, hlo, hh1, hh2⟩ := hml.high
  refine aA (aC (.tuple (List.toArray _)) rfl) rfl rfl ?_
  refine aA (bI (.int _ _) rfl rfl) rfl rfl ?_
  refine aA (bI (.int _ _) rfl rfl) rfl rfl ?_
  refine aA (aD (.int _ _) rfl) rfl rfl ?_
  refine aA (aD (.int _ _) rfl) rfl rfl ?_
  refine aE (aF (aH (aB ?_)))
  refine aA (aC (.int _ _) rfl) rfl rfl ?_
  refine aA (aC (.int _ _) rfl) rfl rfl ?_
  refine aA (bC us3 Tryz.underlying136 rfl (iR _ (by omega) (by omega))) rfl rfl ?_
  refine aA (jN rfl rfl (by omega)) rfl rfl ?_
  refine aK 26 (.int .u64 ((l / 65536 : Nat) : Int)) (iE (aAp l 16 _ rfl (by omega))) ?_
  refine aA (aC (.int _ _) rfl) rfl rfl ?_
  refine aA (dH lD Tryz.underlying170 rfl) rfl rfl ?_
  refine aK 28 (.int .u64 (H : Int)) (iE hH) ?_
  refine aA (aC (.int _ _) rfl) rfl rfl ?_
  refine aA (fC rfl rfl (by first | decide | omega) (by first | decide | omega)) rfl rfl ?_
  refine aK 30 (.int .i64 48) (iE (by first | decide | omega)) ?_
  refine aA (bC us3 Tryz.underlying136 rfl (iR _ (by omega) (by omega))) rfl rfl ?_
  refine aA (zQ rfl rfl (by omega)) rfl rfl ?_
  refine aK 32 (.int .u64 (B : Int)) (iE ((aPc H 48 _ rfl (by omega)).trans (congrArg _ hB))) ?_
  refine aA (aN (.int _ _) rfl rfl rfl) rfl rfl ?_
  refine aK 33 (.int .u64 ((l / 65536 + B : Nat) : Int)) (iE (bBw (l / 65536) q B 48 hq hl4 hBl)) ?_
  refine aA (dH qT Tryz.underlying2 rfl) rfl rfl ?_
  refine aK 34 (.int .i64 (a * b / 65536)) (iE hlo) ?_
  refine aA (aD (.int _ _) rfl) rfl rfl ?_
  refine aE (aF (aH (aH (aB ?_))))
  refine aA (aC (.int _ _) rfl) rfl rfl ?_
  refine aA (aN (.bool (decide _)) rfl rfl rfl) rfl rfl ?_
  refine aK 36 (.bool false) (bF (by first | decide | omega)).symm ?_
  refine aE (aF ?_)
  refine cP rfl ?_
  refine aO (aF (aH (aH (aB ?_))))
  refine aA (aC (.int _ _) rfl) rfl rfl ?_
  refine aA (aC (.int _ _) rfl) rfl rfl ?_
  refine aA (bC us3 Tryz.underlying136 rfl (iR _ (by omega) (by omega))) rfl rfl ?_
  refine aA (jN rfl rfl (by omega)) rfl rfl ?_
  refine aK 42 (.int .i64 h) (iE ((pN h).trans hh1)) ?_
  refine aA (aC (.int _ _) rfl) rfl rfl ?_
  refine aA (jN rfl rfl (by decide)) rfl rfl ?_
  refine aK 44 (.int .i64 h) (iE ((aTg _).trans hh2)) ?_
  refine aA (aN (.bool (decide _)) rfl rfl rfl) rfl rfl ?_
  refine aK 45 (.bool false) (bF (fun g => g rfl)).symm ?_
  refine aE (aF ?_)
  refine cP rfl ?_
  refine aO (aF (aH (aB ?_)))
  refine aA (aC (.int _ _) rfl) rfl rfl ?_
  refine aA (aD (.int _ _) rfl) rfl rfl ?_
  refine aA (aD (.int _ _) rfl) rfl rfl ?_
  refine aE (aF (aU ?_))
  refine fR (.int _ _) (.int _ _) rfl rfl ?_
  exact ⟨rfl, M1.below⟩
set_option maxHeartbeats 4000000 in
theorem vB (w : World) (a b : Int) (ha : 0 ≤ a) (ha2 : a ≤ 4611686018427387904) (hb0 : -4611686018427387904 ≤ b) (hb1 : b ≤ 4611686018427387904) (hp : -4611686018427387904 ≤ a * b ∧ a * b ≤ 4611686018427387904) :
    Calls Tryz.prog 224 #[.int .i64 a, .int .i64 b] w (fun ex w' => ∃ v, ex = .returned v ∧ (fun v w' => v = .int .i64 (a * b / 65536) ∧ Below w.heap.size w w') v w') := by
  refine aL #[.tmp 4] 14 Tryz.func224 rfl Tryz.results224 Tryz.ntmps224 rfl ?_
  have M0 := Mem.refl w
  refine aH (aB ?_)
  refine aA (aD (.int _ _) rfl) rfl rfl ?_
  refine aE (aF (aH (aB ?_)))
  refine aA (aC (.int _ _) rfl) rfl rfl ?_
  refine aA (aC (.int _ _) rfl) rfl rfl ?_
  refine aM bAv rfl rfl rfl ?_
  refine (zB _ a b ha ha2 hb0 hb1 hp).mono ?_
  rintro _ w1 ⟨v1, rfl, ⟨rfl, hb1⟩⟩
  refine ⟨_, rfl, ?_⟩
  have M1 := M0.callB hb1
  refine aA (aC (.tuple (List.toArray _)) rfl) rfl rfl ?_
  refine aA (bI (.int _ _) rfl rfl) rfl rfl ?_
  refine aA (bI (.int _ _) rfl rfl) rfl rfl ?_
  refine aA (aD (.int _ _) rfl) rfl rfl ?_
  refine aA (aD (.int _ _) rfl) rfl rfl ?_
  refine aE (aF (aH (aB ?_)))
  refine aA (aC (.int _ _) rfl) rfl rfl ?_
  refine aA (aD (.int _ _) rfl) rfl rfl ?_
  refine aE (aF (aU ?_))
  refine cU (.int _ _) rfl ?_
  exact ⟨rfl, M1.below⟩
end Go.Proofs.YtlmcphcgiclanaaGreatDoor

namespace Go.Proofs.YtlmcphcgiclanaaGreatDoor
open Go.Bil
open Go.RowKit (Below)
open Go.Proofs
set_option maxHeartbeats 4000000 in
theorem aCo (w : World) (c : Con) (a b : Body) (hc : Okn c) (ha : Okb a) (hb : Okb b) :
    Calls Tryz.prog 222 #[.agg (bW c).toArray, (.agg (aI a).toArray), (.agg (aI b).toArray)] w (fun ex w' => ∃ v, ex = .returned v ∧ (fun v w' => v = .int .i64 (qY c a b) ∧ Below w.heap.size w w') v w') := by
  have hr := sF hc ha hb
  have hv1 := ha.v
  have hv2 := hb.v
  have hx := hc.x
  have hy := hc.y
  refine aL #[.tmp 6] 41 Tryz.func222 rfl Tryz.results222 Tryz.ntmps222 rfl ?_
  have M0 := Mem.refl w
  refine aH (aB ?_)
  refine bM (.agg (List.toArray _)) M0 rfl rfl rfl (fun b1 w1 M1 => ?_)
  refine bM (.agg (List.toArray _)) M1 rfl rfl rfl (fun b2 w2 M2 => ?_)
  refine bM (.agg (List.toArray _)) M2 rfl rfl rfl (fun b3 w3 M3 => ?_)
  refine aA (aD (.int _ _) rfl) rfl rfl ?_
  refine aE (aF (aH ?_))
  refine bY [(0, 0), (1, 0), (2, 1), (3, 0), (4, 0), (5, 0), (6, 1), (7, 0), (8, 0), (9, 0), (10, 0), (11, 1), (12, 0), (13, 0), (14, 0), (15, 1), (16, 0), (17, 0), (18, 0), (19, 0)] mixed rfl (by kernel_rfl) (fun w4 hb4 hh4 => ?_)
  have M4 := M3.drew hb4 hh4
  refine aP rfl rfl rfl (fun _ => aG 8 dN rfl) ?_
  refine aP rfl rfl rfl (fun _ => aG 0 cN rfl) ?_
  refine cB rfl rfl rfl (aQ 2 (.int _ _) aW M4 rfl rfl rfl) ?_
  refine aP rfl rfl rfl (fun _ => bC dJ Tryz.underlying2 rfl (eT _ (by omega) (by omega))) ?_
  refine aP rfl rfl rfl (fun _ => aG 8 dN rfl) ?_
  refine aP rfl rfl rfl (fun _ => aG 0 cN rfl) ?_
  refine cB rfl rfl rfl (aQ 1 (.int _ _) aW M4 rfl rfl rfl) ?_
  refine aP rfl rfl rfl (fun _ => bC dJ Tryz.underlying2 rfl (eT _ (by omega) (by omega))) ?_
  refine aP rfl rfl rfl (fun _ => fC rfl rfl (by omega) (by omega)) ?_
  refine aP rfl rfl rfl (fun _ => aG 8 dN rfl) ?_
  refine aP rfl rfl rfl (fun _ => aG 1 cJ rfl) ?_
  refine cB rfl rfl rfl (aQ 2 (.int _ _) aW M4 rfl rfl rfl) ?_
  refine aP rfl rfl rfl (fun _ => bC dJ Tryz.underlying2 rfl (eT _ (by omega) (by omega))) ?_
  refine aP rfl rfl rfl (fun _ => aG 8 dN rfl) ?_
  refine aP rfl rfl rfl (fun _ => aG 1 cJ rfl) ?_
  refine cB rfl rfl rfl (aQ 1 (.int _ _) aW M4 rfl rfl rfl) ?_
  refine aP rfl rfl rfl (fun _ => bC dJ Tryz.underlying2 rfl (eT _ (by omega) (by omega))) ?_
  refine aP rfl rfl rfl (fun _ => fC rfl rfl (by omega) (by omega)) ?_
  refine aP rfl rfl rfl (fun _ => aD (.int _ _) rfl) ?_
  refine aP rfl rfl rfl (fun _ => aD (.int _ _) rfl) ?_
  refine cI ?_
  refine aF (aH (aB ?_))
  refine aA (aC (.int _ _) rfl) rfl rfl ?_
  refine aA (aG 2 fN rfl) rfl rfl ?_
  refine aA (aG 0 cN rfl) rfl rfl ?_
  refine aA (aQ 0 (.int _ _) aW M4 rfl rfl rfl) rfl rfl ?_
  refine aA (bC dJ Tryz.underlying2 rfl (eT _ (by omega) (by omega))) rfl rfl ?_
  refine aA (fP rfl rfl (by omega) (by omega)) rfl rfl ?_
  refine aA (aC (.int _ _) rfl) rfl rfl ?_
  refine aA (aG 2 fN rfl) rfl rfl ?_
  refine aA (aG 1 cJ rfl) rfl rfl ?_
  refine aA (aQ 0 (.int _ _) aW M4 rfl rfl rfl) rfl rfl ?_
  refine aA (bC dJ Tryz.underlying2 rfl (eT _ (by omega) (by omega))) rfl rfl ?_
  refine aA (fP rfl rfl (by omega) (by omega)) rfl rfl ?_
  refine aA (aZ rfl rfl (by omega) (by omega)) rfl rfl ?_
  refine aA (jN rfl rfl (by decide)) rfl rfl ?_
  refine aK 40 (.int .i64 (qY c a b)) (iE (pN _)) ?_
  refine aA (aD (.int _ _) rfl) rfl rfl ?_
  refine aE (aF (aU ?_))
  refine cU (.int _ _) rfl ?_
  exact ⟨rfl, M4.below⟩
set_option maxHeartbeats 4000000 in
theorem aHq (w : World) (a b : Body) :
    Calls Tryz.prog 223 #[(.agg (aI a).toArray), (.agg (aI b).toArray)] w (fun ex w' => ∃ v, ex = .returned v ∧ (fun v w' => v = .int .i32 (max a.bounce b.bounce) ∧ Below w.heap.size w w') v w') := by
  refine aL #[.tmp 4] 10 Tryz.func223 rfl Tryz.results223 Tryz.ntmps223 rfl ?_
  have M0 := Mem.refl w
  refine aH (aB ?_)
  refine bM (.agg (List.toArray _)) M0 rfl rfl rfl (fun b1 w1 M1 => ?_)
  refine bM (.agg (List.toArray _)) M1 rfl rfl rfl (fun b2 w2 M2 => ?_)
  refine aA (aD (.int _ _) rfl) rfl rfl ?_
  refine aE (aF (aH (aB ?_)))
  refine aA (aG 5 pZ rfl) rfl rfl ?_
  refine aA (aQ 0 (.int _ _) aW M2 rfl rfl rfl) rfl rfl ?_
  refine aA (aG 5 pZ rfl) rfl rfl ?_
  refine aA (aQ 1 (.int _ _) aW M2 rfl rfl rfl) rfl rfl ?_
  refine aA (lJ rfl rfl ) rfl rfl ?_
  refine aA (aD (.int _ _) rfl) rfl rfl ?_
  refine aE (aF (aU ?_))
  refine cU (.int _ _) rfl ?_
  exact ⟨iE (by first | rfl | omega), M2.below⟩
set_option maxHeartbeats 4000000 in
theorem aCw (w : World) (c : Con) (a b : Body) (hc : Okn c) (ha : Okb a) (hb : Okb b) :
    Calls Tryz.prog 204 #[.agg (bW c).toArray, (.agg (aI a).toArray), (.agg (aI b).toArray)] w (fun ex w' => ∃ v, ex = .returned v ∧ (fun v w' => v = .int .i64 (iL c a b) ∧ Below w.heap.size w w') v w') := by
  have hr := sF hc ha hb
  have hm1 := ha.m
  have hm2 := hb.m
  have hc1 := ha.c
  have hc2 := hb.c
  refine aL #[.tmp 6] 41 Tryz.func204 rfl Tryz.results204 Tryz.ntmps204 rfl ?_
  have M0 := Mem.refl w
  refine aH (aB ?_)
  refine bM (.agg (List.toArray _)) M0 rfl rfl rfl (fun b1 w1 M1 => ?_)
  refine bM (.agg (List.toArray _)) M1 rfl rfl rfl (fun b2 w2 M2 => ?_)
  refine bM (.agg (List.toArray _)) M2 rfl rfl rfl (fun b3 w3 M3 => ?_)
  refine aA (aD (.int _ _) rfl) rfl rfl ?_
  refine aE (aF (aH (aB ?_)))
  refine aA (aR 0 dP M3 rfl rfl rfl) rfl rfl ?_
  refine aA (aR 1 bP M3 rfl rfl rfl) rfl rfl ?_
  refine aA (aR 2 bP M3 rfl rfl rfl) rfl rfl ?_
  refine aM aXv rfl rfl rfl ?_
  refine (aCo _ c a b hc ha hb).mono ?_
  rintro _ w4 ⟨v4, rfl, ⟨rfl, hb4⟩⟩
  refine ⟨_, rfl, ?_⟩
  have M4 := M3.callB hb4
  refine aA (aD (.int _ _) rfl) rfl rfl ?_
  refine aE (aF (aH (aB ?_)))
  refine aA (aG 4 eB rfl) rfl rfl ?_
  refine aA (aQ 1 (.int _ _) aW M4 rfl rfl rfl) rfl rfl ?_
  refine aA (bC dJ Tryz.underlying2 rfl (eT _ (by omega) (by omega))) rfl rfl ?_
  refine aA (aG 4 eB rfl) rfl rfl ?_
  refine aA (aQ 2 (.int _ _) aW M4 rfl rfl rfl) rfl rfl ?_
  refine aA (bC dJ Tryz.underlying2 rfl (eT _ (by omega) (by omega))) rfl rfl ?_
  refine aA (aZ rfl rfl (by omega) (by omega)) rfl rfl ?_
  refine aA (aD (.int _ _) rfl) rfl rfl ?_
  refine aE (aF (aH (aH (aB ?_))))
  refine aA (aC (.int _ _) rfl) rfl rfl ?_
  refine aA (aN (.bool (decide _)) rfl rfl rfl) rfl rfl ?_
  refine aA (aC (.bool (decide _)) rfl) rfl rfl ?_
  refine dT 24 rfl (fun g24 => ?_) (fun g24 => ?_)
  · refine aS rfl rfl ?_
    refine aS rfl rfl ?_
    refine aA (bQ true (.bool true) rfl rfl) rfl rfl ?_
    refine aE (aF ?_)
    refine cM rfl ?_
    refine aH (aB ?_)
    refine aA (aD (.int _ _) rfl) rfl rfl ?_
    refine aE (aF (aU (dC ?_)))
    refine cU (.int _ _) rfl ?_
    exact ⟨iE (by unfold iL; rw [if_pos (.inl (by omega))]), M4.below⟩
  · refine aA (aC (.int _ _) rfl) rfl rfl ?_
    refine aA (aN (.bool (decide _)) rfl rfl rfl) rfl rfl ?_
    refine aA (bQ false (.bool (decide _)) rfl rfl) rfl rfl ?_
    refine aE (aF ?_)
    refine aX rfl (fun h27 => ?_) (fun h27 => ?_)
    · refine aH (aB ?_)
      refine aA (aD (.int _ _) rfl) rfl rfl ?_
      refine aE (aF (aU (dC ?_)))
      refine cU (.int _ _) rfl ?_
      exact ⟨iE (by unfold iL; rw [if_pos (.inr (by omega))]), M4.below⟩
    · have hsp := wL hc ha hb (by omega)
      refine aO (aF (aH (aB ?_)))
      refine aA (aC (.int _ _) rfl) rfl rfl ?_
      refine aA (mQ rfl (eT _ (by omega) (by omega))) rfl rfl ?_
      refine aA (aR 1 bP M4 rfl rfl rfl) rfl rfl ?_
      refine aA (aR 2 bP M4 rfl rfl rfl) rfl rfl ?_
      refine aM aZv rfl rfl rfl ?_
      refine (aHq _ a b).mono ?_
      rintro _ w5 ⟨v5, rfl, ⟨rfl, hb5⟩⟩
      refine ⟨_, rfl, ?_⟩
      have M5 := M4.callB hb5
      refine aA (bC dJ Tryz.underlying2 rfl (eT _ (by omega) (by omega))) rfl rfl ?_
      refine aA (aZ rfl rfl (by omega) (by omega)) rfl rfl ?_
      refine aA (aC (.int _ _) rfl) rfl rfl ?_
      refine aM aBg rfl rfl rfl ?_
      refine (aCd _ (-qY c a b) (65536 + max a.bounce b.bounce) (a.mass + b.mass) (by omega) (by omega) (by omega) (by omega) (by omega) (by omega) (by omega)).mono ?_
      rintro _ w6 ⟨v6, rfl, ⟨rfl, hb6⟩⟩
      refine ⟨_, rfl, ?_⟩
      have M6 := M5.callB hb6
      refine aA (aC (.tuple (List.toArray _)) rfl) rfl rfl ?_
      refine aA (bI (.int _ _) rfl rfl) rfl rfl ?_
      refine aA (bI (.int _ _) rfl rfl) rfl rfl ?_
      refine aA (aD (.int _ _) rfl) rfl rfl ?_
      refine aA (aD (.int _ _) rfl) rfl rfl ?_
      refine aE (aF (aH (aB ?_)))
      refine aA (aC (.int _ _) rfl) rfl rfl ?_
      refine aA (aD (.int _ _) rfl) rfl rfl ?_
      refine aE (aF (aU ?_))
      refine cU (.int _ _) rfl ?_
      exact ⟨iE (by unfold iL; rw [if_neg (fun g => by omega)]), M6.below⟩
set_option maxHeartbeats 4000000 in
theorem uE (w : World) (k n : Int) (b : Nat) (K : Rd w 1 (some ⟨b, 0, none⟩) 1 [[.int .i64 k]]) (hk : 0 ≤ k ∧ k ≤ 134217728) (hn : -65536 ≤ n ∧ n ≤ 65536) (hp : -8796093022208 ≤ k * n ∧ k * n ≤ 8796093022208) :
    Calls Tryz.prog 225 #[.int .i32 n, .pointer (some ⟨b, 0, none⟩)] w (fun ex w' => ∃ v, ex = .returned v ∧ (fun v w' => v = .int .i64 (k * n / 65536) ∧ Below w.heap.size w w') v w') := by
  rw [← iJ b]
  refine aL #[.tmp 3] 8 Tryz.func225 rfl Tryz.results225 Tryz.ntmps225 rfl ?_
  have M0 := Mem.refl w
  refine aH (aB ?_)
  refine aA (aD (.int _ _) rfl) rfl rfl ?_
  refine aE (aF (aH (aB ?_)))
  refine aA (dR (o := 0) (.int _ _) gA (K.mem M0) (show ([[.int .i64 k]] : List (List Value))[0]? = some [.int .i64 k] from rfl) rfl rfl) rfl rfl ?_
  refine aA (aC (.int _ _) rfl) rfl rfl ?_
  refine aA (bC dJ Tryz.underlying2 rfl (eT _ (by omega) (by omega))) rfl rfl ?_
  refine aM aPn rfl rfl rfl ?_
  refine (vB _ k n (by omega) (by omega) (by omega) (by omega) (by omega)).mono ?_
  rintro _ w1 ⟨v1, rfl, ⟨rfl, hb1⟩⟩
  refine ⟨_, rfl, ?_⟩
  have M1 := M0.callB hb1
  refine aA (aD (.int _ _) rfl) rfl rfl ?_
  refine aE (aF (aU ?_))
  refine cU (.int _ _) rfl ?_
  exact ⟨rfl, M1.below⟩
set_option maxHeartbeats 4000000 in
theorem yR (w : World) (j m x y : Int) (hj : 0 ≤ j ∧ j ≤ 8796093022208) (hm : 0 ≤ m ∧ m ≤ 1048576) (hp : 0 ≤ j * m ∧ j * m ≤ 8796093022208) (hx : -65536 ≤ x ∧ x ≤ 65536) (hy : -65536 ≤ y ∧ y ≤ 65536) :
    Calls Tryz.prog 205 #[.int .i64 j, .int .i32 m, .agg [.int .i32 x, .int .i32 y].toArray] w (fun ex w' => ∃ v, ex = .returned v ∧ (fun v w' => v = .tuple #[.int .i64 (kR j m x), .int .i64 (kR j m y)] ∧ Below w.heap.size w w') v w') := by
  have r1 := iK hp hx
  have r2 := iK hp hy
  have hkk := r1.1
  refine aL #[.tmp 6, .tmp 7] 23 Tryz.func205 rfl Tryz.results205 Tryz.ntmps205 rfl ?_
  have M0 := Mem.refl w
  refine aH (aB ?_)
  refine bM (.agg (List.toArray _)) M0 rfl rfl rfl (fun b1 w1 M1 => ?_)
  refine aA (aD (.int _ _) rfl) rfl rfl ?_
  refine aA (aD (.int _ _) rfl) rfl rfl ?_
  refine aE (aF (aH (aB ?_)))
  refine aA (aC (.int _ _) rfl) rfl rfl ?_
  refine aA (aC (.int _ _) rfl) rfl rfl ?_
  refine aA (bC dJ Tryz.underlying2 rfl (eT _ (by omega) (by omega))) rfl rfl ?_
  refine aM aPn rfl rfl rfl ?_
  refine (vB _ j m (by omega) (by omega) (by omega) (by omega) (by omega)).mono ?_
  rintro _ w2 ⟨v2, rfl, ⟨rfl, hb2⟩⟩
  refine ⟨_, rfl, ?_⟩
  have M2 := M1.callB hb2
  refine aV wB M2 rfl rfl (fun b3 w3 M3 => ?_)
  refine cY 1 (.int _ _) gA M3 rfl rfl rfl rfl rfl rfl (fun w4 M4 => ?_)
  refine aE (aF (aH (aB ?_)))
  refine aA (eH [] [.pointer _] rfl rfl) rfl rfl ?_
  refine aA (aD (.func _ _ _) rfl) rfl rfl ?_
  refine aE (aF (aH ?_))
  refine bY [(0, 0), (1, 0), (2, 1), (4, 0), (5, 0), (6, 1), (3, 2), (7, 2), (8, 0), (9, 0)] mixed rfl (by kernel_rfl) (fun w5 hb5 hh5 => ?_)
  have M5 := M4.drew hb5 hh5
  refine aP rfl rfl rfl (fun _ => aC (.func _ _ _) rfl) ?_
  refine aP rfl rfl rfl (fun _ => aG 0 cN rfl) ?_
  refine cB rfl rfl rfl (aQ 0 (.int _ _) aW M5 rfl rfl rfl) ?_
  refine aP rfl rfl rfl (fun _ => aC (.func _ _ _) rfl) ?_
  refine aP rfl rfl rfl (fun _ => aG 1 cJ rfl) ?_
  refine cB rfl rfl rfl (aQ 0 (.int _ _) aW M5 rfl rfl rfl) ?_
  refine eN [false, true] rfl (by kernel_rfl) ?_
  refine aM aOr rfl rfl rfl ?_
  refine (uE _ (j * m / 65536) x b3 (qI 1 M5 rfl rfl) hkk hx r1.2.1).mono ?_
  rintro _ w6 ⟨v6, rfl, ⟨rfl, hb6⟩⟩
  refine ⟨_, rfl, ?_⟩
  have M6 := M5.callB hb6
  refine aE (aF ⟨(fH (cF rfl (aQ 0 (.int _ _) aW M6 rfl rfl rfl)) eM), ?_⟩)
  refine eN [true] rfl (by kernel_rfl) ?_
  refine aM aOr rfl rfl rfl ?_
  refine (uE _ (j * m / 65536) y b3 (qI 1 M6 rfl rfl) hkk hy r2.2.1).mono ?_
  rintro _ w7 ⟨v7, rfl, ⟨rfl, hb7⟩⟩
  refine ⟨_, rfl, ?_⟩
  have M7 := M6.callB hb7
  refine aE (aF ⟨eM, ?_⟩)
  refine aP rfl rfl rfl (fun _ => aD (.int _ _) rfl) ?_
  refine aP rfl rfl rfl (fun _ => aD (.int _ _) rfl) ?_
  refine cI ?_
  refine aF (aU ?_)
  refine fR (.int _ _) (.int _ _) rfl rfl ?_
  exact ⟨rfl, M7.below⟩
set_option maxHeartbeats 4000000 in
theorem yP (w : World) (a l : Int) (hl : 0 ≤ l ∧ l ≤ 2147483648) :
    Calls Tryz.prog 118 #[.int .i64 a, .int .i64 l] w (fun ex w' => ∃ v, ex = .returned v ∧ (fun v w' => v = .tuple #[.int .i64 (gV a l), .bool (decide (gV a l ≠ a))] ∧ Below w.heap.size w w') v w') := by
  refine aL #[.tmp 4, .tmp 5] 17 Tryz.func118 rfl Tryz.results118 Tryz.ntmps118 rfl ?_
  have M0 := Mem.refl w
  refine aH (aB ?_)
  refine aA (aD (.int _ _) rfl) rfl rfl ?_
  refine aA (aD (.bool false) rfl) rfl rfl ?_
  refine aE (aF (aH (aB ?_)))
  refine aA (aC (.int _ _) rfl) rfl rfl ?_
  refine aA (mQ rfl (eT _ (by omega) (by omega))) rfl rfl ?_
  refine aA (aC (.int _ _) rfl) rfl rfl ?_
  refine aA (aC (.int _ _) rfl) rfl rfl ?_
  refine aA (wM rfl rfl ) rfl rfl ?_
  refine aA (lJ rfl rfl ) rfl rfl ?_
  refine aK 12 (.int .i64 (gV a l)) rfl ?_
  refine aA (aD (.int _ _) rfl) rfl rfl ?_
  refine aE (aF (aH (aB ?_)))
  refine aA (aC (.int _ _) rfl) rfl rfl ?_
  refine aA (aC (.int _ _) rfl) rfl rfl ?_
  refine aA (aC (.int _ _) rfl) rfl rfl ?_
  refine aA (aN (.bool (decide _)) rfl rfl rfl) rfl rfl ?_
  refine aA (aD (.int _ _) rfl) rfl rfl ?_
  refine aA (aD (.bool (decide _)) rfl) rfl rfl ?_
  refine aE (aF (aU ?_))
  refine fR (.int _ _) (.bool (decide _)) rfl rfl ?_
  exact ⟨rfl, M0.below⟩
end Go.Proofs.YtlmcphcgiclanaaGreatDoor
