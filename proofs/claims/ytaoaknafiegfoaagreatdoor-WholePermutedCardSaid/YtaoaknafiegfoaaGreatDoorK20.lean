/- Part of the proof of the laws of this seat: S20a, S20b. No conditions. -/
import Derived.Test.YtaoaknafiegfoaaGreatDoorK2
import Derived.Test.YtaoaknafiegfoaaGreatDoorK5
import Derived.Test.YtaoaknafiegfoaaGreatDoorK12
import Derived.Test.YtaoaknafiegfoaaGreatDoorK14
import Derived.Test.YtaoaknafiegfoaaGreatDoorK18
import Derived.Test.YtaoaknafiegfoaaGreatDoorK19
import Derived.Shelf.Spec.BitsCarry
set_option linter.unusedVariables false
set_option linter.unusedSimpArgs false
set_option linter.unnecessarySimpa false
namespace Go.Proofs.YtaoaknafiegfoaaGreatDoor
open Go.Bil
open Go.RowKit (Below)
open Go.Proofs
theorem bJs (x y : Nat) {w : World} : (callFunc 286 #[.int .u64 (x : Int), .int .u64 (y : Int), .int .u64 0]).run Tryz.prog w = .ok (.value (.tuple #[.int .u64 (((x + y) % 18446744073709551616 : Nat) : Int), .int .u64 (((x + y) / 18446744073709551616 : Nat) : Int)])) w := Any7.bits_Add64 aPd x y 0 (by omega) w
set_option maxHeartbeats 8000000 in
theorem aEk (w : World) (a n d : Int) (ha : 0 ≤ a) (hn : 0 ≤ n) (ha2 : a ≤ 4611686018427387904) (hn2 : n ≤ 4611686018427387904) (hp : a * n ≤ 4611686018427387904) (hd0 : 0 < d) (hd : d ≤ 9223372036854775807) :
  Calls Tryz.prog 189 #[.int .i64 a, .int .i64 n, .int .i64 d] w (fun ex w' => ∃ v, ex = .returned v ∧ (fun v w' => v = .tuple #[.int .i64 (a * n / d), .int .i64 0] ∧ Below w.heap.size w w') v w') := by
 obtain ⟨k, rfl⟩ := Int.eq_ofNat_of_zero_le ha
 obtain ⟨m, rfl⟩ := Int.eq_ofNat_of_zero_le hn
 obtain ⟨z, rfl⟩ := Int.eq_ofNat_of_zero_le (Int.le_of_lt hd0)
 obtain ⟨p, hpp⟩ : ∃ p, k * m = p := ⟨_, rfl⟩
 have hpi : (k : Int) * (m : Int) = (p : Int) := by rw [← hpp, Int.natCast_mul]
 rw [hpi] at hp
 have hql : p / z ≤ p := Nat.div_le_self _ _
 refine aH #[.tmp 6, .tmp 7] 65 Tryz.func189 rfl Tryz.results189 Tryz.ntmps189 rfl ?_
 have M0 := Mem.refl w
 refine aD (aA (bP rfl rfl (bP rfl rfl (aB (aC (aD (aD (aA (aY rfl rfl (dA rfl rfl rfl rfl ?_))))))))))
 refine uZ 17 rfl (by omega) (aB (aC (cB rfl (aK (aC (aD (aA (aY rfl rfl (bX pV rfl rfl (jJ _ (k : Int) (by omega) (by omega)) ?_)))))))))
 rintro v1 w1 ⟨rfl, hb1⟩
 have M1 := M0.callB hb1
 refine aT 20 (.int .u64 (k : Int)) (iE (by omega)) (aY rfl rfl (bX pV rfl rfl (jJ _ (m : Int) (by omega) (by omega)) ?_))
 rintro v2 w2 ⟨rfl, hb2⟩
 have M2 := M1.callB hb2
 refine aT 22 (.int .u64 (m : Int)) (iE (by omega)) (bX aJq rfl rfl (aWj _ k m (by omega) (by omega)) ?_)
 rintro v3 w3 ⟨rfl, hb3⟩
 have M3 := M2.callB hb3
 refine wq (aG (.tuple (List.toArray _)) rfl) rfl (wq (bE (.int _ _) rfl rfl) rfl (aT 24 (.int .u64 ((0 : Nat) : Int)) (iE (congrArg _ (by rw [hpp]; exact Nat.div_eq_of_lt (by omega)))) (wq (bE (.int _ _) rfl rfl) rfl (aT 25 (.int .u64 (p : Int)) (iE (congrArg _ (by rw [hpp]; exact Nat.mod_eq_of_lt (by omega)))) ?_))))
 refine bP rfl rfl (bP rfl rfl (aB (aC (aD (aA (aY rfl rfl (bX pV rfl rfl (jJ _ (z : Int) (by omega) (by omega)) ?_)))))))
 rintro v4 w4 ⟨rfl, hb4⟩
 have M4 := M3.callB hb4
 refine aT 27 (.int .u64 (z : Int)) (iE (by omega)) (bP rfl rfl (aB (aC (aD (aD (aA (aY rfl rfl (aY rfl rfl (dA rfl rfl rfl rfl ?_)))))))))
 refine uZ 30 rfl (by omega) (aB (aC (cB rfl (aK (aC (aD (aA (aY rfl rfl (aY rfl rfl ?_)))))))))
 refine aY rfl rfl (bX aUl rfl rfl (bCj _ 0 p z (by omega) (by omega) (by omega)) ?_)
 rintro v5 w5 ⟨rfl, hb5⟩
 have M5 := M4.callB hb5
 refine wq (aG (.tuple (List.toArray _)) rfl) rfl (wq (bE (.int _ _) rfl rfl) rfl (aT 36 (.int .u64 ((p / z : Nat) : Int)) (iE (by rw [Nat.zero_mul, Nat.zero_add])) (wq (bE (.int _ _) rfl rfl) rfl (bP rfl rfl (bP rfl rfl ?_)))))
 refine aB (aC (aD (aA (aY rfl rfl (dA rfl rfl rfl rfl (uZ 39 rfl (by omega) (aY rfl rfl (dA rfl rfl rfl rfl ?_))))))))
 refine uZ 41 rfl (by omega) (wq (uP _ Tryz.underlying4 rfl rfl rfl) rfl (aT 42 (.bool false) rfl (aY rfl rfl (dA rfl rfl rfl rfl (uZ 44 rfl (by omega) ?_)))))
 refine wq (uP _ Tryz.underlying4 rfl rfl rfl) rfl (aT 45 (.bool false) rfl (wq (aI (.bool false) rfl) rfl (aB (aC (aD (aD (aA (wq (aG (.bool false) rfl) rfl (wq (aG (.bool false) rfl) rfl ?_)))))))))
 refine aN rfl rfl (aN rfl rfl (wq (bQ false (.bool false) rfl rfl) rfl (aB (aC (cB rfl (aK (aC (aD (aA ?_)))))))))
 refine wq (aG (.bool false) rfl) rfl (bX aEv rfl rfl (aEg _ false) ?_)
 rintro v6 w6 ⟨bs, rfl, hM6⟩
 have M6 : Mem _ _ [_] _ := M5.call0 hM6
 refine aY rfl rfl (bX aDv rfl rfl (xE _ (p / z) false bs (by omega) (mI 0 M6 rfl rfl)) ?_)
 rintro v7 w7 ⟨rfl, hb7⟩
 have M7 := M6.callB hb7
 refine wq (aG (.tuple (List.toArray _)) rfl) rfl (wq (bE (.int _ _) rfl rfl) rfl (wq (bE (.bool true) rfl rfl) rfl (bP rfl rfl (wq (aI (.bool true) rfl) rfl (aB (aC (aD (aD (aA ?_)))))))))
 refine wq (aG (.bool true) rfl) rfl (wq (fO false rfl rfl) rfl (aB (aC (cB rfl (aK (aC (aD (aA (aY rfl rfl ?_)))))))))
 refine bP rfl rfl (bP rfl rfl (aB (aC (aM (iH (.int _ _) (.int _ _) rfl rfl ?_)))))
 exact ⟨aAu (iE (by rw [hpi]; simp)) rfl, M7.below⟩
set_option maxHeartbeats 8000000 in
theorem aWw (w : World) (a b : Int) (ha : 0 ≤ a) (ha2 : a ≤ 4611686018427387904) (hb0 : -4611686018427387904 ≤ b) (hb1 : b ≤ 4611686018427387904) (hp : -4611686018427387904 ≤ a * b ∧ a * b ≤ 4611686018427387904) :
  Calls Tryz.prog 284 #[.int .i64 a, .int .i64 b] w (fun ex w' => ∃ v, ex = .returned v ∧ (fun v w' => ∃ (h : Int) (l : Nat), v = .tuple #[.int .i64 h, .int .u64 (l : Int)] ∧ MulR a b h l ∧ Below w.heap.size w w') v w') := by
 obtain ⟨k, rfl⟩ := Int.eq_ofNat_of_zero_le ha
 obtain ⟨p, hpp⟩ : ∃ p, k * b.natAbs = p := ⟨_, rfl⟩
 have hpi : (k : Int) * (b.natAbs : Int) = (p : Int) := by rw [← hpp, Int.natCast_mul]
 have hneg : b < 0 → (k : Int) * b = -(p : Int) := fun g => by rw [← hpi, ← Int.mul_neg]; congr 1; omega
 have hpos : ¬ b < 0 → (k : Int) * b = (p : Int) := fun g => by rw [← hpi]; congr 1; omega
 have hpl : p ≤ 4611686018427387904 := by by_cases g : b < 0; (have := hneg g; omega); (have := hpos g; omega)
 refine aH #[.tmp 4, .tmp 5] 35 Tryz.func284 rfl Tryz.results284 Tryz.ntmps284 rfl ?_
 have M0 := Mem.refl w
 refine aD (aA (bP rfl rfl (bP rfl rfl (aB (aC (aD (aA (aY rfl rfl (bX pV rfl rfl (jJ _ (k : Int) (by omega) (by omega)) ?_)))))))))
 rintro v1 w1 ⟨rfl, hb1⟩
 have M1 := M0.callB hb1
 refine aT 11 (.int .u64 (k : Int)) (iE (by omega)) (aY rfl rfl (bX pV rfl rfl (jJ _ b (by omega) (by omega)) ?_))
 rintro v2 w2 ⟨rfl, hb2⟩
 have M2 := M1.callB hb2
 refine bX aJq rfl rfl (aWj _ k b.natAbs (by omega) (by omega)) ?_
 rintro v3 w3 ⟨rfl, hb3⟩
 have M3 := M2.callB hb3
 refine wq (aG (.tuple (List.toArray _)) rfl) rfl (wq (bE (.int _ _) rfl rfl) rfl (aT 15 (.int .u64 ((0 : Nat) : Int)) (iE (congrArg _ (by rw [hpp]; exact Nat.div_eq_of_lt (by omega)))) (wq (bE (.int _ _) rfl rfl) rfl (aT 16 (.int .u64 (p : Int)) (iE (congrArg _ (by rw [hpp]; exact Nat.mod_eq_of_lt (by omega)))) ?_))))
 refine bP rfl rfl (bP rfl rfl (aB (aC (aD (aD (aA (aY rfl rfl (dA rfl rfl rfl rfl (uZ 18 rfl (by omega) ?_)))))))))
 refine aY rfl rfl (dA rfl rfl rfl rfl (wq (uP _ Tryz.underlying4 rfl rfl rfl) rfl (aT 21 (.bool (decide (b < 0))) (bv rfl (by simp)) (aB (aC ?_)))))
 refine aZ rfl (fun h21 => ?_) (fun h21 => ?_)
 ·refine aD (aA (bP rfl rfl (aB (aC (aD (aA (aY rfl rfl (wq (aOj rfl) rfl (aT 24 (.int .u64 ((18446744073709551615 - p : Nat) : Int)) (iE (aNg p (by omega))) ?_)))))))))
  refine wq (aTi rfl (bJs (18446744073709551615 - p) 1)) rfl (wq (aG (.tuple (List.toArray _)) rfl) rfl (wq (bE (.int _ _) rfl rfl) rfl (aT 26 (.int .u64 (((18446744073709551616 - p) % 18446744073709551616 : Nat) : Int)) (iE (by omega)) (wq (bE (.int _ _) rfl rfl) rfl (aT 27 (.int .u64 ((if p = 0 then 1 else 0 : Nat) : Int)) (iE (by split <;> omega)) ?_)))))
  refine bP rfl rfl (bP rfl rfl (aB (aC (aA (aY rfl rfl (wq (aOj rfl) rfl (aT 29 (.int .u64 ((18446744073709551615 : Nat) : Int)) (iE (aNg 0 (by omega))) ?_)))))))
  refine aY rfl rfl (wq (dO (.int _ _) rfl rfl rfl) rfl (aT 31 (.int .u64 ((if p = 0 then 0 else 18446744073709551615 : Nat) : Int)) (iE (by rw [rT]; split <;> omega)) (bP rfl rfl (aB (aC (aD (aA (aY rfl rfl ?_))))))))
  refine wq (dU aCi Tryz.underlying2 rfl) rfl (aT 33 (.int .i64 (if p = 0 then 0 else -1)) (iE (by rw [wrI]; split <;> omega)) (aY rfl rfl (bP rfl rfl (bP rfl rfl (aB (aC (aM ?_)))))))
  refine iH (.int _ _) (.int _ _) rfl rfl ?_
  exact ⟨_, _, rfl, MulR.neg (hneg h21) hpl, M3.below⟩
 ·refine aK (aC (aD (aA (aY rfl rfl (wq (dU aCi Tryz.underlying2 rfl) rfl (aT 33 (.int .i64 0) (iE (by rw [wrI]; omega)) (aY rfl rfl (bP rfl rfl ?_))))))))
  refine bP rfl rfl (aB (aC (aM (iH (.int _ _) (.int _ _) rfl rfl ?_))))
  exact ⟨_, _, rfl, MulR.pos (hpos h21) hpl, M3.below⟩
set_option maxHeartbeats 8000000 in
theorem aAy (w : World) (a b : Int) (ha : 0 ≤ a) (ha2 : a ≤ 4611686018427387904) (hb0 : -4611686018427387904 ≤ b) (hb1 : b ≤ 4611686018427387904) (hp : -4611686018427387904 ≤ a * b ∧ a * b ≤ 4611686018427387904) :
  Calls Tryz.prog 278 #[.int .i64 a, .int .i64 b, .int .i64 16] w (fun ex w' => ∃ v, ex = .returned v ∧ (fun v w' => v = .tuple #[.int .i64 (a * b / 65536), .int .i64 0] ∧ Below w.heap.size w w') v w') := by
 refine aH #[.tmp 6, .tmp 7] 47 Tryz.func278 rfl Tryz.results278 Tryz.ntmps278 rfl ?_
 have M0 := Mem.refl w
 refine aD (aA (bP rfl rfl (bP rfl rfl (aB (aC (aD (aD (aA (aY rfl rfl (dA rfl rfl rfl rfl ?_))))))))))
 refine uZ 12 rfl (by first | decide | omega) (wq (aG (.bool false) rfl) rfl (aY rfl rfl (dA rfl rfl rfl rfl (uZ 15 rfl (by first | decide | omega) (wq (bQ false (.bool false) rfl rfl) rfl ?_)))))
 refine aB (aC (cB rfl (aK (aC (aD (aA (aY rfl rfl (aY rfl rfl (bX bHh rfl rfl (aWw _ a b ha ha2 hb0 hb1 hp) ?_)))))))))
 rintro v1 w1 ⟨h, l, rfl, hml, hb1⟩
 have M1 := M0.callB hb1
 have hll := hml.low
 obtain ⟨H, B, hH, hB, ⟨q, hq⟩, hl4, hBl, hlo, hh1, hh2⟩ := hml.high
 refine wq (aG (.tuple (List.toArray _)) rfl) rfl (wq (bE (.int _ _) rfl rfl) rfl (wq (bE (.int _ _) rfl rfl) rfl (bP rfl rfl (bP rfl rfl (aB (aC (aD (aA ?_))))))))
 refine aY rfl rfl (aY rfl rfl (wq (bZ us3 Tryz.underlying178 rfl (iP _ (by omega) (by omega))) rfl (wq (gM rfl rfl (by omega)) rfl (aT 26 (.int .u64 ((l / 65536 : Nat) : Int)) (iE (aCa l 16 _ rfl (by omega))) (aY rfl rfl ?_)))))
 refine wq (dU us2 Tryz.underlying237 rfl) rfl (aT 28 (.int .u64 (H : Int)) (iE hH) (aY rfl rfl (wq (mD rfl rfl (by first | decide | omega) (by first | decide | omega)) rfl (aT 30 (.int .i64 48) (iE (by first | decide | omega)) (wq (bZ us3 Tryz.underlying178 rfl (iP _ (by omega) (by omega))) rfl ?_)))))
 refine wq (tK rfl rfl (by omega)) rfl (aT 32 (.int .u64 (B : Int)) (iE ((aVe H 48 _ rfl (by omega)).trans (congrArg _ hB))) (wq (dO (.int _ _) rfl rfl rfl) rfl (aT 33 (.int .u64 ((l / 65536 + B : Nat) : Int)) (iE (bIm (l / 65536) q B 48 hq hl4 hBl)) (wq (dU aCi Tryz.underlying2 rfl) rfl ?_))))
 refine aT 34 (.int .i64 (a * b / 65536)) (iE hlo) (bP rfl rfl (aB (aC (aD (aD (aA (aY rfl rfl (dA rfl rfl rfl rfl (uZ 36 rfl (by first | decide | omega) ?_)))))))))
 refine aB (aC (cB rfl (aK (aC (aD (aD (aA (aY rfl rfl (aY rfl rfl (wq (bZ us3 Tryz.underlying178 rfl (iP _ (by omega) (by omega))) rfl ?_))))))))))
 refine wq (gM rfl rfl (by omega)) rfl (aT 42 (.int .i64 h) (iE ((mU h).trans hh1)) (aY rfl rfl (wq (gM rfl rfl (by decide)) rfl (aT 44 (.int .i64 h) (iE ((aZm _).trans hh2)) (dA rfl rfl rfl rfl ?_)))))
 refine uZ 45 rfl (fun g => g rfl) (aB (aC (cB rfl (aK (aC (aD (aA (aY rfl rfl (bP rfl rfl ?_)))))))))
 refine bP rfl rfl (aB (aC (aM (iH (.int _ _) (.int _ _) rfl rfl ?_))))
 exact ⟨rfl, M1.below⟩
set_option maxHeartbeats 4000000 in
theorem wG (w : World) (a b : Int) (ha : 0 ≤ a) (ha2 : a ≤ 4611686018427387904) (hb0 : -4611686018427387904 ≤ b) (hb1 : b ≤ 4611686018427387904) (hp : -4611686018427387904 ≤ a * b ∧ a * b ≤ 4611686018427387904) :
  Calls Tryz.prog 262 #[.int .i64 a, .int .i64 b] w (fun ex w' => ∃ v, ex = .returned v ∧ (fun v w' => v = .int .i64 (a * b / 65536) ∧ Below w.heap.size w w') v w') := by
 refine aH #[.tmp 4] 14 Tryz.func262 rfl Tryz.results262 Tryz.ntmps262 rfl ?_
 have M0 := Mem.refl w
 refine aD (aA (bP rfl rfl (aB (aC (aD (aA (aY rfl rfl (aY rfl rfl (bX bEh rfl rfl (aAy _ a b ha ha2 hb0 hb1 hp) ?_)))))))))
 rintro v1 w1 ⟨rfl, hb1⟩
 have M1 := M0.callB hb1
 refine wq (aG (.tuple (List.toArray _)) rfl) rfl (wq (bE (.int _ _) rfl rfl) rfl (wq (bE (.int _ _) rfl rfl) rfl (bP rfl rfl (bP rfl rfl (aB (aC (aD (aA ?_))))))))
 refine aY rfl rfl (bP rfl rfl (aB (aC (aM (bW (.int _ _) rfl ?_)))))
 exact ⟨rfl, M1.below⟩
set_option maxHeartbeats 4000000 in
theorem aDz (w : World) (c : Con) (a b : Body) (hc : Okn c) (ha : Okb a) (hb : Okb b) :
  Calls Tryz.prog 260 #[.agg (cN c).toArray, (.agg (aF a).toArray), (.agg (aF b).toArray)] w (fun ex w' => ∃ v, ex = .returned v ∧ (fun v w' => v = .int .i64 (vG c a b) ∧ Below w.heap.size w w') v w') := by
 have hr := aFs hc ha hb
 have hv1 := ha.v
 have hv2 := hb.v
 have hx := hc.x
 have hy := hc.y
 refine aH #[.tmp 6] 41 Tryz.func260 rfl Tryz.results260 Tryz.ntmps260 rfl ?_
 have M0 := Mem.refl w
 refine aD (aA (bG (.agg (List.toArray _)) M0 rfl rfl rfl (fun b1 w1 M1 => (bG (.agg (List.toArray _)) M1 rfl rfl rfl (fun b2 w2 M2 => (bG (.agg (List.toArray _)) M2 rfl rfl rfl (fun b3 w3 M3 => (bP rfl rfl (aB (aC (aD ?_)))))))))))
 refine bO [(0, 0), (1, 0), (2, 1), (3, 0), (4, 0), (5, 0), (6, 1), (7, 0), (8, 0), (9, 0), (10, 0), (11, 1), (12, 0), (13, 0), (14, 0), (15, 1), (16, 0), (17, 0), (18, 0), (19, 0)] mixed rfl (by kernel_rfl) (fun w4 hb4 hh4 => ?_)
 have M4 := M3.drew hb4 hh4
 refine aV rfl rfl rfl (fun _ => aE 8 fA rfl) (aV rfl rfl rfl (fun _ => aE 0 dR rfl) (bV rfl rfl rfl (aL 2 (.int _ _) aU M4 rfl rfl rfl) (aV rfl rfl rfl (fun _ => bZ fW Tryz.underlying2 rfl (kQ _ (by omega) (by omega))) (aV rfl rfl rfl (fun _ => aE 8 fA rfl) ?_))))
 refine aV rfl rfl rfl (fun _ => aE 0 dR rfl) (bV rfl rfl rfl (aL 1 (.int _ _) aU M4 rfl rfl rfl) (aV rfl rfl rfl (fun _ => bZ fW Tryz.underlying2 rfl (kQ _ (by omega) (by omega))) (aV rfl rfl rfl (fun _ => mD rfl rfl (by omega) (by omega)) (aV rfl rfl rfl (fun _ => aE 8 fA rfl) ?_))))
 refine aV rfl rfl rfl (fun _ => aE 1 dJ rfl) (bV rfl rfl rfl (aL 2 (.int _ _) aU M4 rfl rfl rfl) (aV rfl rfl rfl (fun _ => bZ fW Tryz.underlying2 rfl (kQ _ (by omega) (by omega))) (aV rfl rfl rfl (fun _ => aE 8 fA rfl) (aV rfl rfl rfl (fun _ => aE 1 dJ rfl) ?_))))
 refine bV rfl rfl rfl (aL 1 (.int _ _) aU M4 rfl rfl rfl) (aV rfl rfl rfl (fun _ => bZ fW Tryz.underlying2 rfl (kQ _ (by omega) (by omega))) (aV rfl rfl rfl (fun _ => mD rfl rfl (by omega) (by omega)) (qN rfl rfl rfl (qN rfl rfl rfl (cD ?_)))))
 refine aC (aD (aA (aY rfl rfl (wq (aE 2 oC rfl) rfl (wq (aE 0 dR rfl) rfl (wq (aL 0 (.int _ _) aU M4 rfl rfl rfl) rfl (wq (bZ fW Tryz.underlying2 rfl (kQ _ (by omega) (by omega))) rfl ?_)))))))
 refine wq (gE rfl rfl (by omega) (by omega)) rfl (aY rfl rfl (wq (aE 2 oC rfl) rfl (wq (aE 1 dJ rfl) rfl (wq (aL 0 (.int _ _) aU M4 rfl rfl rfl) rfl (wq (bZ fW Tryz.underlying2 rfl (kQ _ (by omega) (by omega))) rfl ?_)))))
 refine wq (gE rfl rfl (by omega) (by omega)) rfl (wq (bU rfl rfl (by omega) (by omega)) rfl (wq (gM rfl rfl (by decide)) rfl (aT 40 (.int .i64 (vG c a b)) (iE (mU _)) (bP rfl rfl (aB (aC (aM ?_)))))))
 refine bW (.int _ _) rfl ?_
 exact ⟨rfl, M4.below⟩
set_option maxHeartbeats 4000000 in
theorem aMo (w : World) (a b : Body) :
  Calls Tryz.prog 261 #[(.agg (aF a).toArray), (.agg (aF b).toArray)] w (fun ex w' => ∃ v, ex = .returned v ∧ (fun v w' => v = .int .i32 (max a.bounce b.bounce) ∧ Below w.heap.size w w') v w') := by
 refine aH #[.tmp 4] 10 Tryz.func261 rfl Tryz.results261 Tryz.ntmps261 rfl ?_
 have M0 := Mem.refl w
 refine aD (aA (bG (.agg (List.toArray _)) M0 rfl rfl rfl (fun b1 w1 M1 => (bG (.agg (List.toArray _)) M1 rfl rfl rfl (fun b2 w2 M2 => (bP rfl rfl (aB (aC (aD (aA (wq (aE 5 oX rfl) rfl ?_)))))))))))
 refine wq (aL 0 (.int _ _) aU M2 rfl rfl rfl) rfl (wq (aE 5 oX rfl) rfl (wq (aL 1 (.int _ _) aU M2 rfl rfl rfl) rfl (wq (oR rfl rfl ) rfl (bP rfl rfl (aB (aC (aM ?_)))))))
 refine bW (.int _ _) rfl ?_
 exact ⟨iE (by first | rfl | omega), M2.below⟩
set_option maxHeartbeats 4000000 in
theorem aFp (w : World) (c : Con) (a b : Body) (hc : Okn c) (ha : Okb a) (hb : Okb b) :
  Calls Tryz.prog 243 #[.agg (cN c).toArray, (.agg (aF a).toArray), (.agg (aF b).toArray)] w (fun ex w' => ∃ v, ex = .returned v ∧ (fun v w' => v = .int .i64 (mH c a b) ∧ Below w.heap.size w w') v w') := by
 have hr := aFs hc ha hb
 have hm1 := ha.m
 have hm2 := hb.m
 have hc1 := ha.c
 have hc2 := hb.c
 refine aH #[.tmp 6] 41 Tryz.func243 rfl Tryz.results243 Tryz.ntmps243 rfl ?_
 have M0 := Mem.refl w
 refine aD (aA (bG (.agg (List.toArray _)) M0 rfl rfl rfl (fun b1 w1 M1 => (bG (.agg (List.toArray _)) M1 rfl rfl rfl (fun b2 w2 M2 => (bG (.agg (List.toArray _)) M2 rfl rfl rfl (fun b3 w3 M3 => (bP rfl rfl (aB (aC (aD (aA ?_))))))))))))
 refine wq (bC 0 gI M3 rfl rfl rfl) rfl (wq (bC 1 bS M3 rfl rfl rfl) rfl (wq (bC 2 bS M3 rfl rfl rfl) rfl (bX bEa rfl rfl (aDz _ c a b hc ha hb) ?_)))
 rintro v4 w4 ⟨rfl, hb4⟩
 have M4 := M3.callB hb4
 refine bP rfl rfl (aB (aC (aD (aA (wq (aE 4 fB rfl) rfl (wq (aL 1 (.int _ _) aU M4 rfl rfl rfl) rfl (wq (bZ fW Tryz.underlying2 rfl (kQ _ (by omega) (by omega))) rfl (wq (aE 4 fB rfl) rfl ?_))))))))
 refine wq (aL 2 (.int _ _) aU M4 rfl rfl rfl) rfl (wq (bZ fW Tryz.underlying2 rfl (kQ _ (by omega) (by omega))) rfl (wq (bU rfl rfl (by omega) (by omega)) rfl (bP rfl rfl (aB (aC (aD (aD (aA (aY rfl rfl ?_)))))))))
 refine dA rfl rfl rfl rfl (wq (aG (.bool (decide _)) rfl) rfl ?_)
 refine cU 24 rfl (fun g24 => ?_) (fun g24 => ?_)
 ·refine aN rfl rfl (aN rfl rfl (wq (bQ true (.bool true) rfl rfl) rfl (aB (aC (cM rfl (aD (aA ?_)))))))
  refine bP rfl rfl (aB (aC (aM (cE (bW (.int _ _) rfl ?_)))))
  exact ⟨iE (by unfold mH; rw [if_pos (.inl (by omega))]), M4.below⟩
 ·refine aY rfl rfl (dA rfl rfl rfl rfl (wq (bQ false (.bool (decide _)) rfl rfl) rfl (aB (aC ?_))))
  refine aZ rfl (fun h27 => ?_) (fun h27 => ?_)
  ·refine aD (aA (bP rfl rfl (aB (aC (aM (cE (bW (.int _ _) rfl ?_)))))))
   exact ⟨iE (by unfold mH; rw [if_pos (.inr (by omega))]), M4.below⟩
  ·have hsp := aIm hc ha hb (by omega)
   refine aK (aC (aD (aA (aY rfl rfl (wq (aLr rfl (kQ _ (by omega) (by omega))) rfl (wq (bC 1 bS M4 rfl rfl rfl) rfl (wq (bC 2 bS M4 rfl rfl rfl) rfl (bX bFn rfl rfl (aMo _ a b) ?_))))))))
   rintro v5 w5 ⟨rfl, hb5⟩
   have M5 := M4.callB hb5
   refine wq (bZ fW Tryz.underlying2 rfl (kQ _ (by omega) (by omega))) rfl (wq (bU rfl rfl (by omega) (by omega)) rfl (aY rfl rfl (bX aFn rfl rfl (aEk _ (-vG c a b) (65536 + max a.bounce b.bounce) (a.mass + b.mass) (by omega) (by omega) (by omega) (by omega) (by omega) (by omega) (by omega)) ?_)))
   rintro v6 w6 ⟨rfl, hb6⟩
   have M6 := M5.callB hb6
   refine wq (aG (.tuple (List.toArray _)) rfl) rfl (wq (bE (.int _ _) rfl rfl) rfl (wq (bE (.int _ _) rfl rfl) rfl (bP rfl rfl (bP rfl rfl (aB (aC (aD (aA ?_))))))))
   refine aY rfl rfl (bP rfl rfl (aB (aC (aM (bW (.int _ _) rfl ?_)))))
   exact ⟨iE (by unfold mH; rw [if_neg (fun g => by omega)]), M6.below⟩
set_option maxHeartbeats 4000000 in
theorem wA (w : World) (k n : Int) (b : Nat) (K : Rd w 1 (some ⟨b, 0, none⟩) 1 [[.int .i64 k]]) (hk : 0 ≤ k ∧ k ≤ 134217728) (hn : -65536 ≤ n ∧ n ≤ 65536) (hp : -8796093022208 ≤ k * n ∧ k * n ≤ 8796093022208) :
  Calls Tryz.prog 263 #[.int .i32 n, .pointer (some ⟨b, 0, none⟩)] w (fun ex w' => ∃ v, ex = .returned v ∧ (fun v w' => v = .int .i64 (k * n / 65536) ∧ Below w.heap.size w w') v w') := by
 rw [← eT b]
 refine aH #[.tmp 3] 8 Tryz.func263 rfl Tryz.results263 Tryz.ntmps263 rfl ?_
 have M0 := Mem.refl w
 refine aD (aA (bP rfl rfl (aB (aC (aD (aA (wq (eJ (o := 0) (.int _ _) lS (K.mem M0) (show ([[.int .i64 k]] : List (List Value))[0]? = some [.int .i64 k] from rfl) rfl rfl) rfl (aY rfl rfl (wq (bZ fW Tryz.underlying2 rfl (kQ _ (by omega) (by omega))) rfl ?_)))))))))
 refine bX aVr rfl rfl (wG _ k n (by omega) (by omega) (by omega) (by omega) (by omega)) ?_
 rintro v1 w1 ⟨rfl, hb1⟩
 have M1 := M0.callB hb1
 refine bP rfl rfl (aB (aC (aM (bW (.int _ _) rfl ?_))))
 exact ⟨rfl, M1.below⟩
set_option maxHeartbeats 4000000 in
theorem aAb (w : World) (j m x y : Int) (hj : 0 ≤ j ∧ j ≤ 8796093022208) (hm : 0 ≤ m ∧ m ≤ 1048576) (hp : 0 ≤ j * m ∧ j * m ≤ 8796093022208) (hx : -65536 ≤ x ∧ x ≤ 65536) (hy : -65536 ≤ y ∧ y ≤ 65536) :
  Calls Tryz.prog 244 #[.int .i64 j, .int .i32 m, .agg [.int .i32 x, .int .i32 y].toArray] w (fun ex w' => ∃ v, ex = .returned v ∧ (fun v w' => v = .tuple #[.int .i64 (pR j m x), .int .i64 (pR j m y)] ∧ Below w.heap.size w w') v w') := by
 have r1 := mM hp hx
 have r2 := mM hp hy
 have hkk := r1.1
 refine aH #[.tmp 6, .tmp 7] 23 Tryz.func244 rfl Tryz.results244 Tryz.ntmps244 rfl ?_
 have M0 := Mem.refl w
 refine aD (aA (bG (.agg (List.toArray _)) M0 rfl rfl rfl (fun b1 w1 M1 => (bP rfl rfl (bP rfl rfl (aB (aC (aD (aA (aY rfl rfl ?_))))))))))
 refine aY rfl rfl (wq (bZ fW Tryz.underlying2 rfl (kQ _ (by omega) (by omega))) rfl (bX aVr rfl rfl (wG _ j m (by omega) (by omega) (by omega) (by omega) (by omega)) ?_))
 rintro v2 w2 ⟨rfl, hb2⟩
 have M2 := M1.callB hb2
 refine aQ xV M2 rfl rfl (fun b3 w3 M3 => (dX 1 (.int _ _) lS M3 rfl rfl rfl rfl rfl rfl (fun w4 M4 => (aB (aC (aD (aA (wq (cO [] [.pointer _] rfl rfl) rfl (wq (aI (.func _ _ _) rfl) rfl (aB (aC (aD ?_))))))))))))
 refine bO [(0, 0), (1, 0), (2, 1), (4, 0), (5, 0), (6, 1), (3, 2), (7, 2), (8, 0), (9, 0)] mixed rfl (by kernel_rfl) (fun w5 hb5 hh5 => ?_)
 have M5 := M4.drew hb5 hh5
 refine aV rfl rfl rfl (fun _ => aG (.func _ _ _) rfl) (aV rfl rfl rfl (fun _ => aE 0 dR rfl) (bV rfl rfl rfl (aL 0 (.int _ _) aU M5 rfl rfl rfl) (aV rfl rfl rfl (fun _ => aG (.func _ _ _) rfl) (aV rfl rfl rfl (fun _ => aE 1 dJ rfl) (bV rfl rfl rfl (aL 0 (.int _ _) aU M5 rfl rfl rfl) ?_)))))
 refine dG [false, true] rfl (by kernel_rfl) (bX aWr rfl rfl (wA _ (j * m / 65536) x b3 (mI 1 M5 rfl rfl) hkk hx r1.2.1) ?_)
 rintro v6 w6 ⟨rfl, hb6⟩
 have M6 := M5.callB hb6
 refine aB (aC ⟨(eF (bK rfl (aL 0 (.int _ _) aU M6 rfl rfl rfl)) dH), ?_⟩)
 refine dG [true] rfl (by kernel_rfl) (bX aWr rfl rfl (wA _ (j * m / 65536) y b3 (mI 1 M6 rfl rfl) hkk hy r2.2.1) ?_)
 rintro v7 w7 ⟨rfl, hb7⟩
 have M7 := M6.callB hb7
 refine aB (aC ⟨dH, ?_⟩)
 refine qN rfl rfl rfl (qN rfl rfl rfl (cD (aC (aM (iH (.int _ _) (.int _ _) rfl rfl ?_)))))
 exact ⟨rfl, M7.below⟩
set_option maxHeartbeats 4000000 in
theorem zL (w : World) (a l : Int) (hl : 0 ≤ l ∧ l ≤ 2147483648) :
  Calls Tryz.prog 148 #[.int .i64 a, .int .i64 l] w (fun ex w' => ∃ v, ex = .returned v ∧ (fun v w' => v = .tuple #[.int .i64 (iU a l), .bool (decide (iU a l ≠ a))] ∧ Below w.heap.size w w') v w') := by
 refine aH #[.tmp 4, .tmp 5] 17 Tryz.func148 rfl Tryz.results148 Tryz.ntmps148 rfl ?_
 have M0 := Mem.refl w
 refine aD (aA (bP rfl rfl (wq (aI (.bool false) rfl) rfl (aB (aC (aD (aA (aY rfl rfl (wq (aLr rfl (kQ _ (by omega) (by omega))) rfl ?_)))))))))
 refine aY rfl rfl (aY rfl rfl (wq (zB rfl rfl ) rfl (wq (oR rfl rfl ) rfl (aT 12 (.int .i64 (iU a l)) rfl (bP rfl rfl ?_)))))
 refine aB (aC (aD (aA (aY rfl rfl (aY rfl rfl (aY rfl rfl (dA rfl rfl rfl rfl (bP rfl rfl ?_))))))))
 refine wq (aI (.bool (decide _)) rfl) rfl (aB (aC (aM (iH (.int _ _) (.bool (decide _)) rfl rfl ?_))))
 exact ⟨rfl, M0.below⟩
end Go.Proofs.YtaoaknafiegfoaaGreatDoor
