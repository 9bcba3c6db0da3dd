/- Part of the proof of the laws of this seat: S20a, S20b. No conditions. -/
import Derived.Test.YtlmcphcgiclanaaGreatDoorK5
import Derived.Test.YtlmcphcgiclanaaGreatDoorK12
import Derived.Test.YtlmcphcgiclanaaGreatDoorK14
import Derived.Test.YtlmcphcgiclanaaGreatDoorK18
import Derived.Test.YtlmcphcgiclanaaGreatDoorK19
import Derived.Shelf.Spec.BitsCarry
set_option linter.unusedVariables false
set_option linter.unusedSimpArgs false
set_option linter.unnecessarySimpa false
namespace Go.Proofs.YtlmcphcgiclanaaGreatDoor
open Go.Bil
open Go.RowKit (Below)
open Go.Proofs
theorem bDd (x y : Nat) {w : World} : (callFunc 248 #[.int .u64 (x : Int), .int .u64 (y : Int), .int .u64 0]).run Tryz.prog w = .ok (.value (.tuple #[.int .u64 (((x + y) % 18446744073709551616 : Nat) : Int), .int .u64 (((x + y) / 18446744073709551616 : Nat) : Int)])) w := Any7.bits_Add64 aOp x y 0 (by omega) w
set_option maxHeartbeats 8000000 in
theorem aCc (w : World) (a n d : Int) (ha : 0 ≤ a) (hn : 0 ≤ n) (ha2 : a ≤ 4611686018427387904) (hn2 : n ≤ 4611686018427387904) (hp : a * n ≤ 4611686018427387904) (hd0 : 0 < d) (hd : d ≤ 9223372036854775807) :
    Calls Tryz.prog 141 #[.int .i64 a, .int .i64 n, .int .i64 d] w (fun ex w' => ∃ v, ex = .returned v ∧ (fun v w' => v = .tuple #[.int .i64 (a * n / d), .int .i64 0] ∧ Below w.heap.size w w') v w') := by
  obtain ⟨k, rfl⟩ := Int.eq_ofNat_of_zero_le ha
  obtain ⟨m, rfl⟩ := Int.eq_ofNat_of_zero_le hn
  obtain ⟨z, rfl⟩ := Int.eq_ofNat_of_zero_le (Int.le_of_lt hd0)
  obtain ⟨p, hpp⟩ : ∃ p, k * m = p := ⟨_, rfl⟩
  have hpi : (k : Int) * (m : Int) = (p : Int) := by rw [← hpp, Int.natCast_mul]
  rw [hpi] at hp
  have hql : p / z ≤ p := Nat.div_le_self _ _
  refine aJ #[.tmp 6, .tmp 7] 65 Tryz.func141 rfl Tryz.results141 Tryz.ntmps141 rfl ?_
  have M0 := Mem.refl w
  refine aG (aB ?_)
  refine aA (aE (.int _ _) rfl) rfl rfl ?_
  refine aA (aE (.int _ _) rfl) rfl rfl ?_
  refine aC (aF (aG (aG (aB ?_))))
  refine aA (aD (.int _ _) rfl) rfl rfl ?_
  refine aA (aP (.bool (decide _)) rfl rfl rfl) rfl rfl ?_
  refine aM 17 (.bool false) (bF (by omega)).symm ?_
  refine aC (aF ?_)
  refine cH rfl ?_
  refine aN (aF (aG (aB ?_)))
  refine aA (aD (.int _ _) rfl) rfl rfl ?_
  refine aK oD rfl rfl rfl ?_
  refine (iO _ (k : Int) (by omega) (by omega)).mono ?_
  rintro _ w1 ⟨v1, rfl, ⟨rfl, hb1⟩⟩
  refine ⟨_, rfl, ?_⟩
  have M1 := M0.callB hb1
  refine aM 20 (.int .u64 (k : Int)) (iE (by omega)) ?_
  refine aA (aD (.int _ _) rfl) rfl rfl ?_
  refine aK oD rfl rfl rfl ?_
  refine (iO _ (m : Int) (by omega) (by omega)).mono ?_
  rintro _ w2 ⟨v2, rfl, ⟨rfl, hb2⟩⟩
  refine ⟨_, rfl, ?_⟩
  have M2 := M1.callB hb2
  refine aM 22 (.int .u64 (m : Int)) (iE (by omega)) ?_
  refine aK aJf rfl rfl rfl ?_
  refine (aPr _ k m (by omega) (by omega)).mono ?_
  rintro _ w3 ⟨v3, rfl, ⟨rfl, hb3⟩⟩
  refine ⟨_, rfl, ?_⟩
  have M3 := M2.callB hb3
  refine aA (aD (.tuple (List.toArray _)) rfl) rfl rfl ?_
  refine aA (bG (.int _ _) rfl rfl) rfl rfl ?_
  refine aM 24 (.int .u64 ((0 : Nat) : Int)) (iE (congrArg _ (by rw [hpp]; exact Nat.div_eq_of_lt (by omega)))) ?_
  refine aA (bG (.int _ _) rfl rfl) rfl rfl ?_
  refine aM 25 (.int .u64 (p : Int)) (iE (congrArg _ (by rw [hpp]; exact Nat.mod_eq_of_lt (by omega)))) ?_
  refine aA (aE (.int _ _) rfl) rfl rfl ?_
  refine aA (aE (.int _ _) rfl) rfl rfl ?_
  refine aC (aF (aG (aB ?_)))
  refine aA (aD (.int _ _) rfl) rfl rfl ?_
  refine aK oD rfl rfl rfl ?_
  refine (iO _ (z : Int) (by omega) (by omega)).mono ?_
  rintro _ w4 ⟨v4, rfl, ⟨rfl, hb4⟩⟩
  refine ⟨_, rfl, ?_⟩
  have M4 := M3.callB hb4
  refine aM 27 (.int .u64 (z : Int)) (iE (by omega)) ?_
  refine aA (aE (.int _ _) rfl) rfl rfl ?_
  refine aC (aF (aG (aG (aB ?_))))
  refine aA (aD (.int _ _) rfl) rfl rfl ?_
  refine aA (aD (.int _ _) rfl) rfl rfl ?_
  refine aA (aP (.bool (decide _)) rfl rfl rfl) rfl rfl ?_
  refine aM 30 (.bool false) (bF (by omega)).symm ?_
  refine aC (aF ?_)
  refine cH rfl ?_
  refine aN (aF (aG (aB ?_)))
  refine aA (aD (.int _ _) rfl) rfl rfl ?_
  refine aA (aD (.int _ _) rfl) rfl rfl ?_
  refine aA (aD (.int _ _) rfl) rfl rfl ?_
  refine aK aSs rfl rfl rfl ?_
  refine (aXy _ 0 p z (by omega) (by omega) (by omega)).mono ?_
  rintro _ w5 ⟨v5, rfl, ⟨rfl, hb5⟩⟩
  refine ⟨_, rfl, ?_⟩
  have M5 := M4.callB hb5
  refine aA (aD (.tuple (List.toArray _)) rfl) rfl rfl ?_
  refine aA (bG (.int _ _) rfl rfl) rfl rfl ?_
  refine aM 36 (.int .u64 ((p / z : Nat) : Int)) (iE (by rw [Nat.zero_mul, Nat.zero_add])) ?_
  refine aA (bG (.int _ _) rfl rfl) rfl rfl ?_
  refine aA (aE (.int _ _) rfl) rfl rfl ?_
  refine aA (aE (.int _ _) rfl) rfl rfl ?_
  refine aC (aF (aG (aB ?_)))
  refine aA (aD (.int _ _) rfl) rfl rfl ?_
  refine aA (aP (.bool (decide _)) rfl rfl rfl) rfl rfl ?_
  refine aM 39 (.bool false) (bF (by omega)).symm ?_
  refine aA (aD (.int _ _) rfl) rfl rfl ?_
  refine aA (aP (.bool (decide _)) rfl rfl rfl) rfl rfl ?_
  refine aM 41 (.bool false) (bF (by omega)).symm ?_
  refine aA (xA _ Tryz.underlying4 rfl rfl rfl) rfl rfl ?_
  refine aM 42 (.bool false) rfl ?_
  refine aA (aD (.int _ _) rfl) rfl rfl ?_
  refine aA (aP (.bool (decide _)) rfl rfl rfl) rfl rfl ?_
  refine aM 44 (.bool false) (bF (by omega)).symm ?_
  refine aA (xA _ Tryz.underlying4 rfl rfl rfl) rfl rfl ?_
  refine aM 45 (.bool false) rfl ?_
  refine aA (aE (.bool false) rfl) rfl rfl ?_
  refine aC (aF (aG (aG (aB ?_))))
  refine aA (aD (.bool false) rfl) rfl rfl ?_
  refine aA (aD (.bool false) rfl) rfl rfl ?_
  refine aS rfl rfl ?_
  refine aS rfl rfl ?_
  refine aA (bN false (.bool false) rfl rfl) rfl rfl ?_
  refine aC (aF ?_)
  refine cH rfl ?_
  refine aN (aF (aG (aB ?_)))
  refine aA (aD (.bool false) rfl) rfl rfl ?_
  refine aK aCb rfl rfl rfl ?_
  refine (aCw _ false).mono ?_
  rintro _ w6 ⟨v6, rfl, ⟨bs, rfl, hM6⟩⟩
  refine ⟨_, rfl, ?_⟩
  have M6 : Mem _ _ [_] _ := M5.call0 hM6
  refine aA (aD (.int _ _) rfl) rfl rfl ?_
  refine aK aBx rfl rfl rfl ?_
  refine (uU _ (p / z) false bs (by omega) (lL 0 M6 rfl rfl)).mono ?_
  rintro _ w7 ⟨v7, rfl, ⟨rfl, hb7⟩⟩
  refine ⟨_, rfl, ?_⟩
  have M7 := M6.callB hb7
  refine aA (aD (.tuple (List.toArray _)) rfl) rfl rfl ?_
  refine aA (bG (.int _ _) rfl rfl) rfl rfl ?_
  refine aA (bG (.bool true) rfl rfl) rfl rfl ?_
  refine aA (aE (.int _ _) rfl) rfl rfl ?_
  refine aA (aE (.bool true) rfl) rfl rfl ?_
  refine aC (aF (aG (aG (aB ?_))))
  refine aA (aD (.bool true) rfl) rfl rfl ?_
  refine aA (iZ false rfl rfl) rfl rfl ?_
  refine aC (aF ?_)
  refine cH rfl ?_
  refine aN (aF (aG (aB ?_)))
  refine aA (aD (.int _ _) rfl) rfl rfl ?_
  refine aA (aE (.int _ _) rfl) rfl rfl ?_
  refine aA (aE (.int _ _) rfl) rfl rfl ?_
  refine aC (aF (aR ?_))
  refine fZ (.int _ _) (.int _ _) rfl rfl ?_
  exact ⟨zJ (iE (by rw [hpi]; simp)) rfl, M7.below⟩
set_option maxHeartbeats 8000000 in
theorem aQq (w : World) (a b : Int) (ha : 0 ≤ a) (ha2 : a ≤ 4611686018427387904) (hb0 : -4611686018427387904 ≤ b) (hb1 : b ≤ 4611686018427387904) (hp : -4611686018427387904 ≤ a * b ∧ a * b ≤ 4611686018427387904) :
    Calls Tryz.prog 246 #[.int .i64 a, .int .i64 b] w (fun ex w' => ∃ v, ex = .returned v ∧ (fun v w' => ∃ (h : Int) (l : Nat), v = .tuple #[.int .i64 h, .int .u64 (l : Int)] ∧ MulR a b h l ∧ Below w.heap.size w w') v w') := by
  obtain ⟨k, rfl⟩ := Int.eq_ofNat_of_zero_le ha
  obtain ⟨p, hpp⟩ : ∃ p, k * b.natAbs = p := ⟨_, rfl⟩
  have hpi : (k : Int) * (b.natAbs : Int) = (p : Int) := by rw [← hpp, Int.natCast_mul]
  have hneg : b < 0 → (k : Int) * b = -(p : Int) := fun g => by rw [← hpi, ← Int.mul_neg]; congr 1; omega
  have hpos : ¬ b < 0 → (k : Int) * b = (p : Int) := fun g => by rw [← hpi]; congr 1; omega
  have hpl : p ≤ 4611686018427387904 := by by_cases g : b < 0; (have := hneg g; omega); (have := hpos g; omega)
  refine aJ #[.tmp 4, .tmp 5] 35 Tryz.func246 rfl Tryz.results246 Tryz.ntmps246 rfl ?_
  have M0 := Mem.refl w
  refine aG (aB ?_)
  refine aA (aE (.int _ _) rfl) rfl rfl ?_
  refine aA (aE (.int _ _) rfl) rfl rfl ?_
  refine aC (aF (aG (aB ?_)))
  refine aA (aD (.int _ _) rfl) rfl rfl ?_
  refine aK oD rfl rfl rfl ?_
  refine (iO _ (k : Int) (by omega) (by omega)).mono ?_
  rintro _ w1 ⟨v1, rfl, ⟨rfl, hb1⟩⟩
  refine ⟨_, rfl, ?_⟩
  have M1 := M0.callB hb1
  refine aM 11 (.int .u64 (k : Int)) (iE (by omega)) ?_
  refine aA (aD (.int _ _) rfl) rfl rfl ?_
  refine aK oD rfl rfl rfl ?_
  refine (iO _ b (by omega) (by omega)).mono ?_
  rintro _ w2 ⟨v2, rfl, ⟨rfl, hb2⟩⟩
  refine ⟨_, rfl, ?_⟩
  have M2 := M1.callB hb2
  refine aK aJf rfl rfl rfl ?_
  refine (aPr _ k b.natAbs (by omega) (by omega)).mono ?_
  rintro _ w3 ⟨v3, rfl, ⟨rfl, hb3⟩⟩
  refine ⟨_, rfl, ?_⟩
  have M3 := M2.callB hb3
  refine aA (aD (.tuple (List.toArray _)) rfl) rfl rfl ?_
  refine aA (bG (.int _ _) rfl rfl) rfl rfl ?_
  refine aM 15 (.int .u64 ((0 : Nat) : Int)) (iE (congrArg _ (by rw [hpp]; exact Nat.div_eq_of_lt (by omega)))) ?_
  refine aA (bG (.int _ _) rfl rfl) rfl rfl ?_
  refine aM 16 (.int .u64 (p : Int)) (iE (congrArg _ (by rw [hpp]; exact Nat.mod_eq_of_lt (by omega)))) ?_
  refine aA (aE (.int _ _) rfl) rfl rfl ?_
  refine aA (aE (.int _ _) rfl) rfl rfl ?_
  refine aC (aF (aG (aG (aB ?_))))
  refine aA (aD (.int _ _) rfl) rfl rfl ?_
  refine aA (aP (.bool (decide _)) rfl rfl rfl) rfl rfl ?_
  refine aM 18 (.bool false) (bF (by omega)).symm ?_
  refine aA (aD (.int _ _) rfl) rfl rfl ?_
  refine aA (aP (.bool (decide _)) rfl rfl rfl) rfl rfl ?_
  refine aA (xA _ Tryz.underlying4 rfl rfl rfl) rfl rfl ?_
  refine aM 21 (.bool (decide (b < 0))) (bv rfl (by simp)) ?_
  refine aC (aF ?_)
  refine aZ rfl (fun h21 => ?_) (fun h21 => ?_)
  · refine aG (aB ?_)
    refine aA (aE (.int _ _) rfl) rfl rfl ?_
    refine aC (aF (aG (aB ?_)))
    refine aA (aD (.int _ _) rfl) rfl rfl ?_
    refine aA (aKy rfl) rfl rfl ?_
    refine aM 24 (.int .u64 ((18446744073709551615 - p : Nat) : Int)) (iE (aKs p (by omega))) ?_
    refine aA (aRt rfl (bDd (18446744073709551615 - p) 1)) rfl rfl ?_
    refine aA (aD (.tuple (List.toArray _)) rfl) rfl rfl ?_
    refine aA (bG (.int _ _) rfl rfl) rfl rfl ?_
    refine aM 26 (.int .u64 (((18446744073709551616 - p) % 18446744073709551616 : Nat) : Int)) (iE (by omega)) ?_
    refine aA (bG (.int _ _) rfl rfl) rfl rfl ?_
    refine aM 27 (.int .u64 ((if p = 0 then 1 else 0 : Nat) : Int)) (iE (by split <;> omega)) ?_
    refine aA (aE (.int _ _) rfl) rfl rfl ?_
    refine aA (aE (.int _ _) rfl) rfl rfl ?_
    refine aC (aF (aB ?_))
    refine aA (aD (.int _ _) rfl) rfl rfl ?_
    refine aA (aKy rfl) rfl rfl ?_
    refine aM 29 (.int .u64 ((18446744073709551615 : Nat) : Int)) (iE (aKs 0 (by omega))) ?_
    refine aA (aD (.int _ _) rfl) rfl rfl ?_
    refine aA (aP (.int _ _) rfl rfl rfl) rfl rfl ?_
    refine aM 31 (.int .u64 ((if p = 0 then 0 else 18446744073709551615 : Nat) : Int)) (iE (by rw [qM]; split <;> omega)) ?_
    refine aA (aE (.int _ _) rfl) rfl rfl ?_
    refine aC (aF (aG (aB ?_)))
    refine aA (aD (.int _ _) rfl) rfl rfl ?_
    refine aA (dR aAg Tryz.underlying2 rfl) rfl rfl ?_
    refine aM 33 (.int .i64 (if p = 0 then 0 else -1)) (iE (by rw [wrI]; split <;> omega)) ?_
    refine aA (aD (.int _ _) rfl) rfl rfl ?_
    refine aA (aE (.int _ _) rfl) rfl rfl ?_
    refine aA (aE (.int _ _) rfl) rfl rfl ?_
    refine aC (aF (aR ?_))
    refine fZ (.int _ _) (.int _ _) rfl rfl ?_
    exact ⟨_, _, rfl, MulR.neg (hneg h21) hpl, M3.below⟩
  · refine aN (aF (aG (aB ?_)))
    refine aA (aD (.int _ _) rfl) rfl rfl ?_
    refine aA (dR aAg Tryz.underlying2 rfl) rfl rfl ?_
    refine aM 33 (.int .i64 0) (iE (by rw [wrI]; omega)) ?_
    refine aA (aD (.int _ _) rfl) rfl rfl ?_
    refine aA (aE (.int _ _) rfl) rfl rfl ?_
    refine aA (aE (.int _ _) rfl) rfl rfl ?_
    refine aC (aF (aR ?_))
    refine fZ (.int _ _) (.int _ _) rfl rfl ?_
    exact ⟨_, _, rfl, MulR.pos (hpos h21) hpl, M3.below⟩
set_option maxHeartbeats 8000000 in
theorem zG (w : World) (a b : Int) (ha : 0 ≤ a) (ha2 : a ≤ 4611686018427387904) (hb0 : -4611686018427387904 ≤ b) (hb1 : b ≤ 4611686018427387904) (hp : -4611686018427387904 ≤ a * b ∧ a * b ≤ 4611686018427387904) :
    Calls Tryz.prog 240 #[.int .i64 a, .int .i64 b, .int .i64 16] w (fun ex w' => ∃ v, ex = .returned v ∧ (fun v w' => v = .tuple #[.int .i64 (a * b / 65536), .int .i64 0] ∧ Below w.heap.size w w') v w') := by
  refine aJ #[.tmp 6, .tmp 7] 47 Tryz.func240 rfl Tryz.results240 Tryz.ntmps240 rfl ?_
  have M0 := Mem.refl w
  refine aG (aB ?_)
  refine aA (aE (.int _ _) rfl) rfl rfl ?_
  refine aA (aE (.int _ _) rfl) rfl rfl ?_
  refine aC (aF (aG (aG (aB ?_))))
  refine aA (aD (.int _ _) rfl) rfl rfl ?_
  refine aA (aP (.bool (decide _)) rfl rfl rfl) rfl rfl ?_
  refine aM 12 (.bool false) (bF (by first | decide | omega)).symm ?_
  refine aA (aD (.bool false) rfl) rfl rfl ?_
  refine aA (aD (.int _ _) rfl) rfl rfl ?_
  refine aA (aP (.bool (decide _)) rfl rfl rfl) rfl rfl ?_
  refine aM 15 (.bool false) (bF (by first | decide | omega)).symm ?_
  refine aA (bN false (.bool false) rfl rfl) rfl rfl ?_
  refine aC (aF ?_)
  refine cH rfl ?_
  refine aN (aF (aG (aB ?_)))
  refine aA (aD (.int _ _) rfl) rfl rfl ?_
  refine aA (aD (.int _ _) rfl) rfl rfl ?_
  refine aK aZm rfl rfl rfl ?_
  refine (aQq _ a b ha ha2 hb0 hb1 hp).mono ?_
  rintro _ w1 ⟨v1, rfl, ⟨h, l, rfl, hml, hb1⟩⟩
  refine ⟨_, rfl, ?_⟩
  have M1 := M0.callB hb1
  have hll := hml.low
  obtain ⟨H, B, hH, hB, ⟨q, hq⟩, hl4, hBl, hlo, hh1, hh2⟩ := hml.high
  refine aA (aD (.tuple (List.toArray _)) rfl) rfl rfl ?_
  refine aA (bG (.int _ _) rfl rfl) rfl rfl ?_
  refine aA (bG (.int _ _) rfl rfl) rfl rfl ?_
  refine aA (aE (.int _ _) rfl) rfl rfl ?_
  refine aA (aE (.int _ _) rfl) rfl rfl ?_
  refine aC (aF (aG (aB ?_)))
  refine aA (aD (.int _ _) rfl) rfl rfl ?_
  refine aA (aD (.int _ _) rfl) rfl rfl ?_
  refine aA (bV us3 Tryz.underlying136 rfl (gZ _ (by omega) (by omega))) rfl rfl ?_
  refine aA (gA rfl rfl (by omega)) rfl rfl ?_
  refine aM 26 (.int .u64 ((l / 65536 : Nat) : Int)) (iE (aAv l 16 _ rfl (by omega))) ?_
  refine aA (aD (.int _ _) rfl) rfl rfl ?_
  refine aA (dR us2 Tryz.underlying170 rfl) rfl rfl ?_
  refine aM 28 (.int .u64 (H : Int)) (iE hH) ?_
  refine aA (aD (.int _ _) rfl) rfl rfl ?_
  refine aA (mL rfl rfl (by first | decide | omega) (by first | decide | omega)) rfl rfl ?_
  refine aM 30 (.int .i64 48) (iE (by first | decide | omega)) ?_
  refine aA (bV us3 Tryz.underlying136 rfl (gZ _ (by omega) (by omega))) rfl rfl ?_
  refine aA (rP rfl rfl (by omega)) rfl rfl ?_
  refine aM 32 (.int .u64 (B : Int)) (iE ((aSq H 48 _ rfl (by omega)).trans (congrArg _ hB))) ?_
  refine aA (aP (.int _ _) rfl rfl rfl) rfl rfl ?_
  refine aM 33 (.int .u64 ((l / 65536 + B : Nat) : Int)) (iE (bDf (l / 65536) q B 48 hq hl4 hBl)) ?_
  refine aA (dR aAg Tryz.underlying2 rfl) rfl rfl ?_
  refine aM 34 (.int .i64 (a * b / 65536)) (iE hlo) ?_
  refine aA (aE (.int _ _) rfl) rfl rfl ?_
  refine aC (aF (aG (aG (aB ?_))))
  refine aA (aD (.int _ _) rfl) rfl rfl ?_
  refine aA (aP (.bool (decide _)) rfl rfl rfl) rfl rfl ?_
  refine aM 36 (.bool false) (bF (by first | decide | omega)).symm ?_
  refine aC (aF ?_)
  refine cH rfl ?_
  refine aN (aF (aG (aG (aB ?_))))
  refine aA (aD (.int _ _) rfl) rfl rfl ?_
  refine aA (aD (.int _ _) rfl) rfl rfl ?_
  refine aA (bV us3 Tryz.underlying136 rfl (gZ _ (by omega) (by omega))) rfl rfl ?_
  refine aA (gA rfl rfl (by omega)) rfl rfl ?_
  refine aM 42 (.int .i64 h) (iE ((lV h).trans hh1)) ?_
  refine aA (aD (.int _ _) rfl) rfl rfl ?_
  refine aA (gA rfl rfl (by decide)) rfl rfl ?_
  refine aM 44 (.int .i64 h) (iE ((aVi _).trans hh2)) ?_
  refine aA (aP (.bool (decide _)) rfl rfl rfl) rfl rfl ?_
  refine aM 45 (.bool false) (bF (fun g => g rfl)).symm ?_
  refine aC (aF ?_)
  refine cH rfl ?_
  refine aN (aF (aG (aB ?_)))
  refine aA (aD (.int _ _) rfl) rfl rfl ?_
  refine aA (aE (.int _ _) rfl) rfl rfl ?_
  refine aA (aE (.int _ _) rfl) rfl rfl ?_
  refine aC (aF (aR ?_))
  refine fZ (.int _ _) (.int _ _) rfl rfl ?_
  exact ⟨rfl, M1.below⟩
set_option maxHeartbeats 4000000 in
theorem tM (w : World) (a b : Int) (ha : 0 ≤ a) (ha2 : a ≤ 4611686018427387904) (hb0 : -4611686018427387904 ≤ b) (hb1 : b ≤ 4611686018427387904) (hp : -4611686018427387904 ≤ a * b ∧ a * b ≤ 4611686018427387904) :
    Calls Tryz.prog 224 #[.int .i64 a, .int .i64 b] w (fun ex w' => ∃ v, ex = .returned v ∧ (fun v w' => v = .int .i64 (a * b / 65536) ∧ Below w.heap.size w w') v w') := by
  refine aJ #[.tmp 4] 14 Tryz.func224 rfl Tryz.results224 Tryz.ntmps224 rfl ?_
  have M0 := Mem.refl w
  refine aG (aB ?_)
  refine aA (aE (.int _ _) rfl) rfl rfl ?_
  refine aC (aF (aG (aB ?_)))
  refine aA (aD (.int _ _) rfl) rfl rfl ?_
  refine aA (aD (.int _ _) rfl) rfl rfl ?_
  refine aK aZl rfl rfl rfl ?_
  refine (zG _ a b ha ha2 hb0 hb1 hp).mono ?_
  rintro _ w1 ⟨v1, rfl, ⟨rfl, hb1⟩⟩
  refine ⟨_, rfl, ?_⟩
  have M1 := M0.callB hb1
  refine aA (aD (.tuple (List.toArray _)) rfl) rfl rfl ?_
  refine aA (bG (.int _ _) rfl rfl) rfl rfl ?_
  refine aA (bG (.int _ _) rfl rfl) rfl rfl ?_
  refine aA (aE (.int _ _) rfl) rfl rfl ?_
  refine aA (aE (.int _ _) rfl) rfl rfl ?_
  refine aC (aF (aG (aB ?_)))
  refine aA (aD (.int _ _) rfl) rfl rfl ?_
  refine aA (aE (.int _ _) rfl) rfl rfl ?_
  refine aC (aF (aR ?_))
  refine bY (.int _ _) rfl ?_
  exact ⟨rfl, M1.below⟩
end Go.Proofs.YtlmcphcgiclanaaGreatDoor

namespace Go.Proofs.YtlmcphcgiclanaaGreatDoor
open Go.Bil
open Go.RowKit (Below)
open Go.Proofs
set_option maxHeartbeats 4000000 in
theorem aCx (w : World) (c : Con) (a b : Body) (hc : Okn c) (ha : Okb a) (hb : Okb b) :
    Calls Tryz.prog 222 #[.agg (cJ c).toArray, (.agg (aI a).toArray), (.agg (aI b).toArray)] w (fun ex w' => ∃ v, ex = .returned v ∧ (fun v w' => v = .int .i64 (sC c a b) ∧ Below w.heap.size w w') v w') := by
  have hr := aCi hc ha hb
  have hv1 := ha.v
  have hv2 := hb.v
  have hx := hc.x
  have hy := hc.y
  refine aJ #[.tmp 6] 41 Tryz.func222 rfl Tryz.results222 Tryz.ntmps222 rfl ?_
  have M0 := Mem.refl w
  refine aG (aB ?_)
  refine bL (.agg (List.toArray _)) M0 rfl rfl rfl (fun b1 w1 M1 => ?_)
  refine bL (.agg (List.toArray _)) M1 rfl rfl rfl (fun b2 w2 M2 => ?_)
  refine bL (.agg (List.toArray _)) M2 rfl rfl rfl (fun b3 w3 M3 => ?_)
  refine aA (aE (.int _ _) rfl) rfl rfl ?_
  refine aC (aF (aG ?_))
  refine bS [(0, 0), (1, 0), (2, 1), (3, 0), (4, 0), (5, 0), (6, 1), (7, 0), (8, 0), (9, 0), (10, 0), (11, 1), (12, 0), (13, 0), (14, 0), (15, 1), (16, 0), (17, 0), (18, 0), (19, 0)] mixed rfl (by kernel_rfl) (fun w4 hb4 hh4 => ?_)
  have M4 := M3.drew hb4 hh4
  refine aU rfl rfl rfl (fun _ => aH 8 eN rfl) ?_
  refine aU rfl rfl rfl (fun _ => aH 0 dG rfl) ?_
  refine cB rfl rfl rfl (aQ 2 (.int _ _) aX M4 rfl rfl rfl) ?_
  refine aU rfl rfl rfl (fun _ => bV fL Tryz.underlying2 rfl (jY _ (by omega) (by omega))) ?_
  refine aU rfl rfl rfl (fun _ => aH 8 eN rfl) ?_
  refine aU rfl rfl rfl (fun _ => aH 0 dG rfl) ?_
  refine cB rfl rfl rfl (aQ 1 (.int _ _) aX M4 rfl rfl rfl) ?_
  refine aU rfl rfl rfl (fun _ => bV fL Tryz.underlying2 rfl (jY _ (by omega) (by omega))) ?_
  refine aU rfl rfl rfl (fun _ => mL rfl rfl (by omega) (by omega)) ?_
  refine aU rfl rfl rfl (fun _ => aH 8 eN rfl) ?_
  refine aU rfl rfl rfl (fun _ => aH 1 dC rfl) ?_
  refine cB rfl rfl rfl (aQ 2 (.int _ _) aX M4 rfl rfl rfl) ?_
  refine aU rfl rfl rfl (fun _ => bV fL Tryz.underlying2 rfl (jY _ (by omega) (by omega))) ?_
  refine aU rfl rfl rfl (fun _ => aH 8 eN rfl) ?_
  refine aU rfl rfl rfl (fun _ => aH 1 dC rfl) ?_
  refine cB rfl rfl rfl (aQ 1 (.int _ _) aX M4 rfl rfl rfl) ?_
  refine aU rfl rfl rfl (fun _ => bV fL Tryz.underlying2 rfl (jY _ (by omega) (by omega))) ?_
  refine aU rfl rfl rfl (fun _ => mL rfl rfl (by omega) (by omega)) ?_
  refine aU rfl rfl rfl (fun _ => aE (.int _ _) rfl) ?_
  refine aU rfl rfl rfl (fun _ => aE (.int _ _) rfl) ?_
  refine cF ?_
  refine aF (aG (aB ?_))
  refine aA (aD (.int _ _) rfl) rfl rfl ?_
  refine aA (aH 2 mH rfl) rfl rfl ?_
  refine aA (aH 0 dG rfl) rfl rfl ?_
  refine aA (aQ 0 (.int _ _) aX M4 rfl rfl rfl) rfl rfl ?_
  refine aA (bV fL Tryz.underlying2 rfl (jY _ (by omega) (by omega))) rfl rfl ?_
  refine aA (fR rfl rfl (by omega) (by omega)) rfl rfl ?_
  refine aA (aD (.int _ _) rfl) rfl rfl ?_
  refine aA (aH 2 mH rfl) rfl rfl ?_
  refine aA (aH 1 dC rfl) rfl rfl ?_
  refine aA (aQ 0 (.int _ _) aX M4 rfl rfl rfl) rfl rfl ?_
  refine aA (bV fL Tryz.underlying2 rfl (jY _ (by omega) (by omega))) rfl rfl ?_
  refine aA (fR rfl rfl (by omega) (by omega)) rfl rfl ?_
  refine aA (bM rfl rfl (by omega) (by omega)) rfl rfl ?_
  refine aA (gA rfl rfl (by decide)) rfl rfl ?_
  refine aM 40 (.int .i64 (sC c a b)) (iE (lV _)) ?_
  refine aA (aE (.int _ _) rfl) rfl rfl ?_
  refine aC (aF (aR ?_))
  refine bY (.int _ _) rfl ?_
  exact ⟨rfl, M4.below⟩
set_option maxHeartbeats 4000000 in
theorem aIa (w : World) (a b : Body) :
    Calls Tryz.prog 223 #[(.agg (aI a).toArray), (.agg (aI b).toArray)] w (fun ex w' => ∃ v, ex = .returned v ∧ (fun v w' => v = .int .i32 (max a.bounce b.bounce) ∧ Below w.heap.size w w') v w') := by
  refine aJ #[.tmp 4] 10 Tryz.func223 rfl Tryz.results223 Tryz.ntmps223 rfl ?_
  have M0 := Mem.refl w
  refine aG (aB ?_)
  refine bL (.agg (List.toArray _)) M0 rfl rfl rfl (fun b1 w1 M1 => ?_)
  refine bL (.agg (List.toArray _)) M1 rfl rfl rfl (fun b2 w2 M2 => ?_)
  refine aA (aE (.int _ _) rfl) rfl rfl ?_
  refine aC (aF (aG (aB ?_)))
  refine aA (aH 5 nC rfl) rfl rfl ?_
  refine aA (aQ 0 (.int _ _) aX M2 rfl rfl rfl) rfl rfl ?_
  refine aA (aH 5 nC rfl) rfl rfl ?_
  refine aA (aQ 1 (.int _ _) aX M2 rfl rfl rfl) rfl rfl ?_
  refine aA (nE rfl rfl ) rfl rfl ?_
  refine aA (aE (.int _ _) rfl) rfl rfl ?_
  refine aC (aF (aR ?_))
  refine bY (.int _ _) rfl ?_
  exact ⟨iE (by first | rfl | omega), M2.below⟩
set_option maxHeartbeats 4000000 in
theorem aCk (w : World) (c : Con) (a b : Body) (hc : Okn c) (ha : Okb a) (hb : Okb b) :
    Calls Tryz.prog 204 #[.agg (cJ c).toArray, (.agg (aI a).toArray), (.agg (aI b).toArray)] w (fun ex w' => ∃ v, ex = .returned v ∧ (fun v w' => v = .int .i64 (lO c a b) ∧ Below w.heap.size w w') v w') := by
  have hr := aCi hc ha hb
  have hm1 := ha.m
  have hm2 := hb.m
  have hc1 := ha.c
  have hc2 := hb.c
  refine aJ #[.tmp 6] 41 Tryz.func204 rfl Tryz.results204 Tryz.ntmps204 rfl ?_
  have M0 := Mem.refl w
  refine aG (aB ?_)
  refine bL (.agg (List.toArray _)) M0 rfl rfl rfl (fun b1 w1 M1 => ?_)
  refine bL (.agg (List.toArray _)) M1 rfl rfl rfl (fun b2 w2 M2 => ?_)
  refine bL (.agg (List.toArray _)) M2 rfl rfl rfl (fun b3 w3 M3 => ?_)
  refine aA (aE (.int _ _) rfl) rfl rfl ?_
  refine aC (aF (aG (aB ?_)))
  refine aA (bE 0 fX M3 rfl rfl rfl) rfl rfl ?_
  refine aA (bE 1 bO M3 rfl rfl rfl) rfl rfl ?_
  refine aA (bE 2 bO M3 rfl rfl rfl) rfl rfl ?_
  refine aK bBi rfl rfl rfl ?_
  refine (aCx _ c a b hc ha hb).mono ?_
  rintro _ w4 ⟨v4, rfl, ⟨rfl, hb4⟩⟩
  refine ⟨_, rfl, ?_⟩
  have M4 := M3.callB hb4
  refine aA (aE (.int _ _) rfl) rfl rfl ?_
  refine aC (aF (aG (aB ?_)))
  refine aA (aH 4 eM rfl) rfl rfl ?_
  refine aA (aQ 1 (.int _ _) aX M4 rfl rfl rfl) rfl rfl ?_
  refine aA (bV fL Tryz.underlying2 rfl (jY _ (by omega) (by omega))) rfl rfl ?_
  refine aA (aH 4 eM rfl) rfl rfl ?_
  refine aA (aQ 2 (.int _ _) aX M4 rfl rfl rfl) rfl rfl ?_
  refine aA (bV fL Tryz.underlying2 rfl (jY _ (by omega) (by omega))) rfl rfl ?_
  refine aA (bM rfl rfl (by omega) (by omega)) rfl rfl ?_
  refine aA (aE (.int _ _) rfl) rfl rfl ?_
  refine aC (aF (aG (aG (aB ?_))))
  refine aA (aD (.int _ _) rfl) rfl rfl ?_
  refine aA (aP (.bool (decide _)) rfl rfl rfl) rfl rfl ?_
  refine aA (aD (.bool (decide _)) rfl) rfl rfl ?_
  refine cY 24 rfl (fun g24 => ?_) (fun g24 => ?_)
  · refine aS rfl rfl ?_
    refine aS rfl rfl ?_
    refine aA (bN true (.bool true) rfl rfl) rfl rfl ?_
    refine aC (aF ?_)
    refine cK rfl ?_
    refine aG (aB ?_)
    refine aA (aE (.int _ _) rfl) rfl rfl ?_
    refine aC (aF (aR (cC ?_)))
    refine bY (.int _ _) rfl ?_
    exact ⟨iE (by unfold lO; rw [if_pos (.inl (by omega))]), M4.below⟩
  · refine aA (aD (.int _ _) rfl) rfl rfl ?_
    refine aA (aP (.bool (decide _)) rfl rfl rfl) rfl rfl ?_
    refine aA (bN false (.bool (decide _)) rfl rfl) rfl rfl ?_
    refine aC (aF ?_)
    refine aZ rfl (fun h27 => ?_) (fun h27 => ?_)
    · refine aG (aB ?_)
      refine aA (aE (.int _ _) rfl) rfl rfl ?_
      refine aC (aF (aR (cC ?_)))
      refine bY (.int _ _) rfl ?_
      exact ⟨iE (by unfold lO; rw [if_pos (.inr (by omega))]), M4.below⟩
    · have hsp := aEf hc ha hb (by omega)
      refine aN (aF (aG (aB ?_)))
      refine aA (aD (.int _ _) rfl) rfl rfl ?_
      refine aA (aHp rfl (jY _ (by omega) (by omega))) rfl rfl ?_
      refine aA (bE 1 bO M4 rfl rfl rfl) rfl rfl ?_
      refine aA (bE 2 bO M4 rfl rfl rfl) rfl rfl ?_
      refine aK aZx rfl rfl rfl ?_
      refine (aIa _ a b).mono ?_
      rintro _ w5 ⟨v5, rfl, ⟨rfl, hb5⟩⟩
      refine ⟨_, rfl, ?_⟩
      have M5 := M4.callB hb5
      refine aA (bV fL Tryz.underlying2 rfl (jY _ (by omega) (by omega))) rfl rfl ?_
      refine aA (bM rfl rfl (by omega) (by omega)) rfl rfl ?_
      refine aA (aD (.int _ _) rfl) rfl rfl ?_
      refine aK aBn rfl rfl rfl ?_
      refine (aCc _ (-sC c a b) (65536 + max a.bounce b.bounce) (a.mass + b.mass) (by omega) (by omega) (by omega) (by omega) (by omega) (by omega) (by omega)).mono ?_
      rintro _ w6 ⟨v6, rfl, ⟨rfl, hb6⟩⟩
      refine ⟨_, rfl, ?_⟩
      have M6 := M5.callB hb6
      refine aA (aD (.tuple (List.toArray _)) rfl) rfl rfl ?_
      refine aA (bG (.int _ _) rfl rfl) rfl rfl ?_
      refine aA (bG (.int _ _) rfl rfl) rfl rfl ?_
      refine aA (aE (.int _ _) rfl) rfl rfl ?_
      refine aA (aE (.int _ _) rfl) rfl rfl ?_
      refine aC (aF (aG (aB ?_)))
      refine aA (aD (.int _ _) rfl) rfl rfl ?_
      refine aA (aE (.int _ _) rfl) rfl rfl ?_
      refine aC (aF (aR ?_))
      refine bY (.int _ _) rfl ?_
      exact ⟨iE (by unfold lO; rw [if_neg (fun g => by omega)]), M6.below⟩
set_option maxHeartbeats 4000000 in
theorem uA (w : World) (k n : Int) (b : Nat) (K : Rd w 1 (some ⟨b, 0, none⟩) 1 [[.int .i64 k]]) (hk : 0 ≤ k ∧ k ≤ 134217728) (hn : -65536 ≤ n ∧ n ≤ 65536) (hp : -8796093022208 ≤ k * n ∧ k * n ≤ 8796093022208) :
    Calls Tryz.prog 225 #[.int .i32 n, .pointer (some ⟨b, 0, none⟩)] w (fun ex w' => ∃ v, ex = .returned v ∧ (fun v w' => v = .int .i64 (k * n / 65536) ∧ Below w.heap.size w w') v w') := by
  rw [← eK b]
  refine aJ #[.tmp 3] 8 Tryz.func225 rfl Tryz.results225 Tryz.ntmps225 rfl ?_
  have M0 := Mem.refl w
  refine aG (aB ?_)
  refine aA (aE (.int _ _) rfl) rfl rfl ?_
  refine aC (aF (aG (aB ?_)))
  refine aA (eH (o := 0) (.int _ _) lB (K.mem M0) (show ([[.int .i64 k]] : List (List Value))[0]? = some [.int .i64 k] from rfl) rfl rfl) rfl rfl ?_
  refine aA (aD (.int _ _) rfl) rfl rfl ?_
  refine aA (bV fL Tryz.underlying2 rfl (jY _ (by omega) (by omega))) rfl rfl ?_
  refine aK aSl rfl rfl rfl ?_
  refine (tM _ k n (by omega) (by omega) (by omega) (by omega) (by omega)).mono ?_
  rintro _ w1 ⟨v1, rfl, ⟨rfl, hb1⟩⟩
  refine ⟨_, rfl, ?_⟩
  have M1 := M0.callB hb1
  refine aA (aE (.int _ _) rfl) rfl rfl ?_
  refine aC (aF (aR ?_))
  refine bY (.int _ _) rfl ?_
  exact ⟨rfl, M1.below⟩
set_option maxHeartbeats 4000000 in
theorem wK (w : World) (j m x y : Int) (hj : 0 ≤ j ∧ j ≤ 8796093022208) (hm : 0 ≤ m ∧ m ≤ 1048576) (hp : 0 ≤ j * m ∧ j * m ≤ 8796093022208) (hx : -65536 ≤ x ∧ x ≤ 65536) (hy : -65536 ≤ y ∧ y ≤ 65536) :
    Calls Tryz.prog 205 #[.int .i64 j, .int .i32 m, .agg [.int .i32 x, .int .i32 y].toArray] w (fun ex w' => ∃ v, ex = .returned v ∧ (fun v w' => v = .tuple #[.int .i64 (oC j m x), .int .i64 (oC j m y)] ∧ Below w.heap.size w w') v w') := by
  have r1 := lX hp hx
  have r2 := lX hp hy
  have hkk := r1.1
  refine aJ #[.tmp 6, .tmp 7] 23 Tryz.func205 rfl Tryz.results205 Tryz.ntmps205 rfl ?_
  have M0 := Mem.refl w
  refine aG (aB ?_)
  refine bL (.agg (List.toArray _)) M0 rfl rfl rfl (fun b1 w1 M1 => ?_)
  refine aA (aE (.int _ _) rfl) rfl rfl ?_
  refine aA (aE (.int _ _) rfl) rfl rfl ?_
  refine aC (aF (aG (aB ?_)))
  refine aA (aD (.int _ _) rfl) rfl rfl ?_
  refine aA (aD (.int _ _) rfl) rfl rfl ?_
  refine aA (bV fL Tryz.underlying2 rfl (jY _ (by omega) (by omega))) rfl rfl ?_
  refine aK aSl rfl rfl rfl ?_
  refine (tM _ j m (by omega) (by omega) (by omega) (by omega) (by omega)).mono ?_
  rintro _ w2 ⟨v2, rfl, ⟨rfl, hb2⟩⟩
  refine ⟨_, rfl, ?_⟩
  have M2 := M1.callB hb2
  refine aW wH M2 rfl rfl (fun b3 w3 M3 => ?_)
  refine dX 1 (.int _ _) lB M3 rfl rfl rfl rfl rfl rfl (fun w4 M4 => ?_)
  refine aC (aF (aG (aB ?_)))
  refine aA (cQ [] [.pointer _] rfl rfl) rfl rfl ?_
  refine aA (aE (.func _ _ _) rfl) rfl rfl ?_
  refine aC (aF (aG ?_))
  refine bS [(0, 0), (1, 0), (2, 1), (4, 0), (5, 0), (6, 1), (3, 2), (7, 2), (8, 0), (9, 0)] mixed rfl (by kernel_rfl) (fun w5 hb5 hh5 => ?_)
  have M5 := M4.drew hb5 hh5
  refine aU rfl rfl rfl (fun _ => aD (.func _ _ _) rfl) ?_
  refine aU rfl rfl rfl (fun _ => aH 0 dG rfl) ?_
  refine cB rfl rfl rfl (aQ 0 (.int _ _) aX M5 rfl rfl rfl) ?_
  refine aU rfl rfl rfl (fun _ => aD (.func _ _ _) rfl) ?_
  refine aU rfl rfl rfl (fun _ => aH 1 dC rfl) ?_
  refine cB rfl rfl rfl (aQ 0 (.int _ _) aX M5 rfl rfl rfl) ?_
  refine dU [false, true] rfl (by kernel_rfl) ?_
  refine aK aOu rfl rfl rfl ?_
  refine (uA _ (j * m / 65536) x b3 (lL 1 M5 rfl rfl) hkk hx r1.2.1).mono ?_
  rintro _ w6 ⟨v6, rfl, ⟨rfl, hb6⟩⟩
  refine ⟨_, rfl, ?_⟩
  have M6 := M5.callB hb6
  refine aC (aF ⟨(eS (bQ rfl (aQ 0 (.int _ _) aX M6 rfl rfl rfl)) dV), ?_⟩)
  refine dU [true] rfl (by kernel_rfl) ?_
  refine aK aOu rfl rfl rfl ?_
  refine (uA _ (j * m / 65536) y b3 (lL 1 M6 rfl rfl) hkk hy r2.2.1).mono ?_
  rintro _ w7 ⟨v7, rfl, ⟨rfl, hb7⟩⟩
  refine ⟨_, rfl, ?_⟩
  have M7 := M6.callB hb7
  refine aC (aF ⟨dV, ?_⟩)
  refine aU rfl rfl rfl (fun _ => aE (.int _ _) rfl) ?_
  refine aU rfl rfl rfl (fun _ => aE (.int _ _) rfl) ?_
  refine cF ?_
  refine aF (aR ?_)
  refine fZ (.int _ _) (.int _ _) rfl rfl ?_
  exact ⟨rfl, M7.below⟩
set_option maxHeartbeats 4000000 in
theorem yE (w : World) (a l : Int) (hl : 0 ≤ l ∧ l ≤ 2147483648) :
    Calls Tryz.prog 118 #[.int .i64 a, .int .i64 l] w (fun ex w' => ∃ v, ex = .returned v ∧ (fun v w' => v = .tuple #[.int .i64 (hJ a l), .bool (decide (hJ a l ≠ a))] ∧ Below w.heap.size w w') v w') := by
  refine aJ #[.tmp 4, .tmp 5] 17 Tryz.func118 rfl Tryz.results118 Tryz.ntmps118 rfl ?_
  have M0 := Mem.refl w
  refine aG (aB ?_)
  refine aA (aE (.int _ _) rfl) rfl rfl ?_
  refine aA (aE (.bool false) rfl) rfl rfl ?_
  refine aC (aF (aG (aB ?_)))
  refine aA (aD (.int _ _) rfl) rfl rfl ?_
  refine aA (aHp rfl (jY _ (by omega) (by omega))) rfl rfl ?_
  refine aA (aD (.int _ _) rfl) rfl rfl ?_
  refine aA (aD (.int _ _) rfl) rfl rfl ?_
  refine aA (wY rfl rfl ) rfl rfl ?_
  refine aA (nE rfl rfl ) rfl rfl ?_
  refine aM 12 (.int .i64 (hJ a l)) rfl ?_
  refine aA (aE (.int _ _) rfl) rfl rfl ?_
  refine aC (aF (aG (aB ?_)))
  refine aA (aD (.int _ _) rfl) rfl rfl ?_
  refine aA (aD (.int _ _) rfl) rfl rfl ?_
  refine aA (aD (.int _ _) rfl) rfl rfl ?_
  refine aA (aP (.bool (decide _)) rfl rfl rfl) rfl rfl ?_
  refine aA (aE (.int _ _) rfl) rfl rfl ?_
  refine aA (aE (.bool (decide _)) rfl) rfl rfl ?_
  refine aC (aF (aR ?_))
  refine fZ (.int _ _) (.bool (decide _)) rfl rfl ?_
  exact ⟨rfl, M0.below⟩
end Go.Proofs.YtlmcphcgiclanaaGreatDoor
