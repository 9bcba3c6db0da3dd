/- Part of the proof of the laws of this seat: S20a, S20b. No conditions. -/
import Derived.Test.YtlmcphcgiclanaaGreatDoorK2
import Derived.Test.YtlmcphcgiclanaaGreatDoorK5
import Derived.Test.YtlmcphcgiclanaaGreatDoorK12
import Derived.Test.YtlmcphcgiclanaaGreatDoorK14
import Derived.Test.YtlmcphcgiclanaaGreatDoorK18
import Derived.Test.YtlmcphcgiclanaaGreatDoorK19
import Derived.Shelf.Spec.BitsCarry
set_option linter.unusedVariables false
set_option linter.unusedSimpArgs false
set_option linter.unnecessarySimpa false
namespace Go.Proofs.YtlmcphcgiclanaaGreatDoor
open Go.Bil
open Go.RowKit (Below)
open Go.Proofs
theorem bDo (x y : Nat) {w : World} : (callFunc 248 #[.int .u64 (x : Int), .int .u64 (y : Int), .int .u64 0]).run Tryz.prog w = .ok (.value (.tuple #[.int .u64 (((x + y) % 18446744073709551616 : Nat) : Int), .int .u64 (((x + y) / 18446744073709551616 : Nat) : Int)])) w := Any7.bits_Add64 aMa x y 0 (by omega) w
set_option maxHeartbeats 8000000 in
theorem aBt (w : World) (a n d : Int) (ha : 0 ≤ a) (hn : 0 ≤ n) (ha2 : a ≤ 4611686018427387904) (hn2 : n ≤ 4611686018427387904) (hp : a * n ≤ 4611686018427387904) (hd0 : 0 < d) (hd : d ≤ 9223372036854775807) :
  Calls Tryz.prog 141 #[.int .i64 a, .int .i64 n, .int .i64 d] w (fun ex w' => ∃ v, ex = .returned v ∧ (fun v w' => v = .tuple #[.int .i64 (a * n / d), .int .i64 0] ∧ Below w.heap.size w w') v w') := by
 obtain ⟨k, rfl⟩ := Int.eq_ofNat_of_zero_le ha
 obtain ⟨m, rfl⟩ := Int.eq_ofNat_of_zero_le hn
 obtain ⟨z, rfl⟩ := Int.eq_ofNat_of_zero_le (Int.le_of_lt hd0)
 obtain ⟨p, hpp⟩ : ∃ p, k * m = p := ⟨_, rfl⟩
 have hpi : (k : Int) * (m : Int) = (p : Int) := by rw [← hpp, Int.natCast_mul]
 rw [hpi] at hp
 have hql : p / z ≤ p := Nat.div_le_self _ _
 refine aH #[.tmp 6, .tmp 7] 65 Tryz.func141 rfl Tryz.results141 Tryz.ntmps141 rfl ?_
 have M0 := Mem.refl w
 refine aD (aA (bI rfl rfl (bI rfl rfl (aB (aC (aD (aD (aA (aV rfl rfl (cS rfl rfl rfl rfl ?_))))))))))
 refine uH 17 rfl (by omega) (aB (aC (cC rfl (aL (aC (aD (aA (aV rfl rfl (bY oX rfl rfl (iT _ (k : Int) (by omega) (by omega)) ?_)))))))))
 rintro v1 w1 ⟨rfl, hb1⟩
 have M1 := M0.callB hb1
 refine aS 20 (.int .u64 (k : Int)) (iE (by omega)) (aV rfl rfl (bY oX rfl rfl (iT _ (m : Int) (by omega) (by omega)) ?_))
 rintro v2 w2 ⟨rfl, hb2⟩
 have M2 := M1.callB hb2
 refine aS 22 (.int .u64 (m : Int)) (iE (by omega)) (bY aIe rfl rfl (aRa _ k m (by omega) (by omega)) ?_)
 rintro v3 w3 ⟨rfl, hb3⟩
 have M3 := M2.callB hb3
 refine wq (aG (.tuple (List.toArray _)) rfl) rfl (wq (bE (.int _ _) rfl rfl) rfl (aS 24 (.int .u64 ((0 : Nat) : Int)) (iE (congrArg _ (by rw [hpp]; exact Nat.div_eq_of_lt (by omega)))) (wq (bE (.int _ _) rfl rfl) rfl (aS 25 (.int .u64 (p : Int)) (iE (congrArg _ (by rw [hpp]; exact Nat.mod_eq_of_lt (by omega)))) ?_))))
 refine bI rfl rfl (bI rfl rfl (aB (aC (aD (aA (aV rfl rfl (bY oX rfl rfl (iT _ (z : Int) (by omega) (by omega)) ?_)))))))
 rintro v4 w4 ⟨rfl, hb4⟩
 have M4 := M3.callB hb4
 refine aS 27 (.int .u64 (z : Int)) (iE (by omega)) (bI rfl rfl (aB (aC (aD (aD (aA (aV rfl rfl (aV rfl rfl (cS rfl rfl rfl rfl ?_)))))))))
 refine uH 30 rfl (by omega) (aB (aC (cC rfl (aL (aC (aD (aA (aV rfl rfl (aV rfl rfl ?_)))))))))
 refine aV rfl rfl (bY aPn rfl rfl (aXu _ 0 p z (by omega) (by omega) (by omega)) ?_)
 rintro v5 w5 ⟨rfl, hb5⟩
 have M5 := M4.callB hb5
 refine wq (aG (.tuple (List.toArray _)) rfl) rfl (wq (bE (.int _ _) rfl rfl) rfl (aS 36 (.int .u64 ((p / z : Nat) : Int)) (iE (by rw [Nat.zero_mul, Nat.zero_add])) (wq (bE (.int _ _) rfl rfl) rfl (bI rfl rfl (bI rfl rfl ?_)))))
 refine aB (aC (aD (aA (aV rfl rfl (cS rfl rfl rfl rfl (uH 39 rfl (by omega) (aV rfl rfl (cS rfl rfl rfl rfl ?_))))))))
 refine uH 41 rfl (by omega) (wq (sN _ Tryz.underlying4 rfl rfl rfl) rfl (aS 42 (.bool false) rfl (aV rfl rfl (cS rfl rfl rfl rfl (uH 44 rfl (by omega) ?_)))))
 refine wq (sN _ Tryz.underlying4 rfl rfl rfl) rfl (aS 45 (.bool false) rfl (wq (aI (.bool false) rfl) rfl (aB (aC (aD (aD (aA (wq (aG (.bool false) rfl) rfl (wq (aG (.bool false) rfl) rfl ?_)))))))))
 refine aR rfl rfl (aR rfl rfl (wq (bN false (.bool false) rfl rfl) rfl (aB (aC (cC rfl (aL (aC (aD (aA ?_)))))))))
 refine wq (aG (.bool false) rfl) rfl (bY aCd rfl rfl (aCv _ false) ?_)
 rintro v6 w6 ⟨bs, rfl, hM6⟩
 have M6 : Mem _ _ [_] _ := M5.call0 hM6
 refine aV rfl rfl (bY aBz rfl rfl (vK _ (p / z) false bs (by omega) (lJ 0 M6 rfl rfl)) ?_)
 rintro v7 w7 ⟨rfl, hb7⟩
 have M7 := M6.callB hb7
 refine wq (aG (.tuple (List.toArray _)) rfl) rfl (wq (bE (.int _ _) rfl rfl) rfl (wq (bE (.bool true) rfl rfl) rfl (bI rfl rfl (wq (aI (.bool true) rfl) rfl (aB (aC (aD (aD (aA ?_)))))))))
 refine wq (aG (.bool true) rfl) rfl (wq (jJ false rfl rfl) rfl (aB (aC (cC rfl (aL (aC (aD (aA (aV rfl rfl ?_)))))))))
 refine bI rfl rfl (bI rfl rfl (aB (aC (aN (gV (.int _ _) (.int _ _) rfl rfl ?_)))))
 exact ⟨yW (iE (by rw [hpi]; simp)) rfl, M7.below⟩
set_option maxHeartbeats 8000000 in
theorem aQn (w : World) (a b : Int) (ha : 0 ≤ a) (ha2 : a ≤ 4611686018427387904) (hb0 : -4611686018427387904 ≤ b) (hb1 : b ≤ 4611686018427387904) (hp : -4611686018427387904 ≤ a * b ∧ a * b ≤ 4611686018427387904) :
  Calls Tryz.prog 246 #[.int .i64 a, .int .i64 b] w (fun ex w' => ∃ v, ex = .returned v ∧ (fun v w' => ∃ (h : Int) (l : Nat), v = .tuple #[.int .i64 h, .int .u64 (l : Int)] ∧ MulR a b h l ∧ Below w.heap.size w w') v w') := by
 obtain ⟨k, rfl⟩ := Int.eq_ofNat_of_zero_le ha
 obtain ⟨p, hpp⟩ : ∃ p, k * b.natAbs = p := ⟨_, rfl⟩
 have hpi : (k : Int) * (b.natAbs : Int) = (p : Int) := by rw [← hpp, Int.natCast_mul]
 have hneg : b < 0 → (k : Int) * b = -(p : Int) := fun g => by rw [← hpi, ← Int.mul_neg]; congr 1; omega
 have hpos : ¬ b < 0 → (k : Int) * b = (p : Int) := fun g => by rw [← hpi]; congr 1; omega
 have hpl : p ≤ 4611686018427387904 := by by_cases g : b < 0; (have := hneg g; omega); (have := hpos g; omega)
 refine aH #[.tmp 4, .tmp 5] 35 Tryz.func246 rfl Tryz.results246 Tryz.ntmps246 rfl ?_
 have M0 := Mem.refl w
 refine aD (aA (bI rfl rfl (bI rfl rfl (aB (aC (aD (aA (aV rfl rfl (bY oX rfl rfl (iT _ (k : Int) (by omega) (by omega)) ?_)))))))))
 rintro v1 w1 ⟨rfl, hb1⟩
 have M1 := M0.callB hb1
 refine aS 11 (.int .u64 (k : Int)) (iE (by omega)) (aV rfl rfl (bY oX rfl rfl (iT _ b (by omega) (by omega)) ?_))
 rintro v2 w2 ⟨rfl, hb2⟩
 have M2 := M1.callB hb2
 refine bY aIe rfl rfl (aRa _ k b.natAbs (by omega) (by omega)) ?_
 rintro v3 w3 ⟨rfl, hb3⟩
 have M3 := M2.callB hb3
 refine wq (aG (.tuple (List.toArray _)) rfl) rfl (wq (bE (.int _ _) rfl rfl) rfl (aS 15 (.int .u64 ((0 : Nat) : Int)) (iE (congrArg _ (by rw [hpp]; exact Nat.div_eq_of_lt (by omega)))) (wq (bE (.int _ _) rfl rfl) rfl (aS 16 (.int .u64 (p : Int)) (iE (congrArg _ (by rw [hpp]; exact Nat.mod_eq_of_lt (by omega)))) ?_))))
 refine bI rfl rfl (bI rfl rfl (aB (aC (aD (aD (aA (aV rfl rfl (cS rfl rfl rfl rfl (uH 18 rfl (by omega) ?_)))))))))
 refine aV rfl rfl (cS rfl rfl rfl rfl (wq (sN _ Tryz.underlying4 rfl rfl rfl) rfl (aS 21 (.bool (decide (b < 0))) (bv rfl (by simp)) (aB (aC ?_)))))
 refine aX rfl (fun h21 => ?_) (fun h21 => ?_)
 ·refine aD (aA (bI rfl rfl (aB (aC (aD (aA (aV rfl rfl (wq (aKh rfl) rfl (aS 24 (.int .u64 ((18446744073709551615 - p : Nat) : Int)) (iE (aKa p (by omega))) ?_)))))))))
  refine wq (aQh rfl (bDo (18446744073709551615 - p) 1)) rfl (wq (aG (.tuple (List.toArray _)) rfl) rfl (wq (bE (.int _ _) rfl rfl) rfl (aS 26 (.int .u64 (((18446744073709551616 - p) % 18446744073709551616 : Nat) : Int)) (iE (by omega)) (wq (bE (.int _ _) rfl rfl) rfl (aS 27 (.int .u64 ((if p = 0 then 1 else 0 : Nat) : Int)) (iE (by split <;> omega)) ?_)))))
  refine bI rfl rfl (bI rfl rfl (aB (aC (aA (aV rfl rfl (wq (aKh rfl) rfl (aS 29 (.int .u64 ((18446744073709551615 : Nat) : Int)) (iE (aKa 0 (by omega))) ?_)))))))
  refine aV rfl rfl (wq (dT (.int _ _) rfl rfl rfl) rfl (aS 31 (.int .u64 ((if p = 0 then 0 else 18446744073709551615 : Nat) : Int)) (iE (by rw [qN]; split <;> omega)) (bI rfl rfl (aB (aC (aD (aA (aV rfl rfl ?_))))))))
  refine wq (dO aAb Tryz.underlying2 rfl) rfl (aS 33 (.int .i64 (if p = 0 then 0 else -1)) (iE (by rw [wrI]; split <;> omega)) (aV rfl rfl (bI rfl rfl (bI rfl rfl (aB (aC (aN ?_)))))))
  refine gV (.int _ _) (.int _ _) rfl rfl ?_
  exact ⟨_, _, rfl, MulR.neg (hneg h21) hpl, M3.below⟩
 ·refine aL (aC (aD (aA (aV rfl rfl (wq (dO aAb Tryz.underlying2 rfl) rfl (aS 33 (.int .i64 0) (iE (by rw [wrI]; omega)) (aV rfl rfl (bI rfl rfl ?_))))))))
  refine bI rfl rfl (aB (aC (aN (gV (.int _ _) (.int _ _) rfl rfl ?_))))
  exact ⟨_, _, rfl, MulR.pos (hpos h21) hpl, M3.below⟩
set_option maxHeartbeats 8000000 in
theorem yX (w : World) (a b : Int) (ha : 0 ≤ a) (ha2 : a ≤ 4611686018427387904) (hb0 : -4611686018427387904 ≤ b) (hb1 : b ≤ 4611686018427387904) (hp : -4611686018427387904 ≤ a * b ∧ a * b ≤ 4611686018427387904) :
  Calls Tryz.prog 240 #[.int .i64 a, .int .i64 b, .int .i64 16] w (fun ex w' => ∃ v, ex = .returned v ∧ (fun v w' => v = .tuple #[.int .i64 (a * b / 65536), .int .i64 0] ∧ Below w.heap.size w w') v w') := by
 refine aH #[.tmp 6, .tmp 7] 47 Tryz.func240 rfl Tryz.results240 Tryz.ntmps240 rfl ?_
 have M0 := Mem.refl w
 refine aD (aA (bI rfl rfl (bI rfl rfl (aB (aC (aD (aD (aA (aV rfl rfl (cS rfl rfl rfl rfl ?_))))))))))
 refine uH 12 rfl (by first | decide | omega) (wq (aG (.bool false) rfl) rfl (aV rfl rfl (cS rfl rfl rfl rfl (uH 15 rfl (by first | decide | omega) (wq (bN false (.bool false) rfl rfl) rfl ?_)))))
 refine aB (aC (cC rfl (aL (aC (aD (aA (aV rfl rfl (aV rfl rfl (bY aZp rfl rfl (aQn _ a b ha ha2 hb0 hb1 hp) ?_)))))))))
 rintro v1 w1 ⟨h, l, rfl, hml, hb1⟩
 have M1 := M0.callB hb1
 have hll := hml.low
 obtain ⟨H, B, hH, hB, ⟨q, hq⟩, hl4, hBl, hlo, hh1, hh2⟩ := hml.high
 refine wq (aG (.tuple (List.toArray _)) rfl) rfl (wq (bE (.int _ _) rfl rfl) rfl (wq (bE (.int _ _) rfl rfl) rfl (bI rfl rfl (bI rfl rfl (aB (aC (aD (aA ?_))))))))
 refine aV rfl rfl (aV rfl rfl (wq (bR us3 Tryz.underlying136 rfl (iA _ (by omega) (by omega))) rfl (wq (gB rfl rfl (by omega)) rfl (aS 26 (.int .u64 ((l / 65536 : Nat) : Int)) (iE (aAx l 16 _ rfl (by omega))) (aV rfl rfl ?_)))))
 refine wq (dO us2 Tryz.underlying170 rfl) rfl (aS 28 (.int .u64 (H : Int)) (iE hH) (aV rfl rfl (wq (mF rfl rfl (by first | decide | omega) (by first | decide | omega)) rfl (aS 30 (.int .i64 48) (iE (by first | decide | omega)) (wq (bR us3 Tryz.underlying136 rfl (iA _ (by omega) (by omega))) rfl ?_)))))
 refine wq (qX rfl rfl (by omega)) rfl (aS 32 (.int .u64 (B : Int)) (iE ((aPs H 48 _ rfl (by omega)).trans (congrArg _ hB))) (wq (dT (.int _ _) rfl rfl rfl) rfl (aS 33 (.int .u64 ((l / 65536 + B : Nat) : Int)) (iE (bEs (l / 65536) q B 48 hq hl4 hBl)) (wq (dO aAb Tryz.underlying2 rfl) rfl ?_))))
 refine aS 34 (.int .i64 (a * b / 65536)) (iE hlo) (bI rfl rfl (aB (aC (aD (aD (aA (aV rfl rfl (cS rfl rfl rfl rfl (uH 36 rfl (by first | decide | omega) ?_)))))))))
 refine aB (aC (cC rfl (aL (aC (aD (aD (aA (aV rfl rfl (aV rfl rfl (wq (bR us3 Tryz.underlying136 rfl (iA _ (by omega) (by omega))) rfl ?_))))))))))
 refine wq (gB rfl rfl (by omega)) rfl (aS 42 (.int .i64 h) (iE ((lT h).trans hh1)) (aV rfl rfl (wq (gB rfl rfl (by decide)) rfl (aS 44 (.int .i64 h) (iE ((aVg _).trans hh2)) (cS rfl rfl rfl rfl ?_)))))
 refine uH 45 rfl (fun g => g rfl) (aB (aC (cC rfl (aL (aC (aD (aA (aV rfl rfl (bI rfl rfl ?_)))))))))
 refine bI rfl rfl (aB (aC (aN (gV (.int _ _) (.int _ _) rfl rfl ?_))))
 exact ⟨rfl, M1.below⟩
set_option maxHeartbeats 4000000 in
theorem uG (w : World) (a b : Int) (ha : 0 ≤ a) (ha2 : a ≤ 4611686018427387904) (hb0 : -4611686018427387904 ≤ b) (hb1 : b ≤ 4611686018427387904) (hp : -4611686018427387904 ≤ a * b ∧ a * b ≤ 4611686018427387904) :
  Calls Tryz.prog 224 #[.int .i64 a, .int .i64 b] w (fun ex w' => ∃ v, ex = .returned v ∧ (fun v w' => v = .int .i64 (a * b / 65536) ∧ Below w.heap.size w w') v w') := by
 refine aH #[.tmp 4] 14 Tryz.func224 rfl Tryz.results224 Tryz.ntmps224 rfl ?_
 have M0 := Mem.refl w
 refine aD (aA (bI rfl rfl (aB (aC (aD (aA (aV rfl rfl (aV rfl rfl (bY bAh rfl rfl (yX _ a b ha ha2 hb0 hb1 hp) ?_)))))))))
 rintro v1 w1 ⟨rfl, hb1⟩
 have M1 := M0.callB hb1
 refine wq (aG (.tuple (List.toArray _)) rfl) rfl (wq (bE (.int _ _) rfl rfl) rfl (wq (bE (.int _ _) rfl rfl) rfl (bI rfl rfl (bI rfl rfl (aB (aC (aD (aA ?_))))))))
 refine aV rfl rfl (bI rfl rfl (aB (aC (aN (cA (.int _ _) rfl ?_)))))
 exact ⟨rfl, M1.below⟩
set_option maxHeartbeats 4000000 in
theorem aDg (w : World) (c : Con) (a b : Body) (hc : Okn c) (ha : Okb a) (hb : Okb b) :
  Calls Tryz.prog 222 #[.agg (cF c).toArray, (.agg (aF a).toArray), (.agg (aF b).toArray)] w (fun ex w' => ∃ v, ex = .returned v ∧ (fun v w' => v = .int .i64 (sV c a b) ∧ Below w.heap.size w w') v w') := by
 have hr := aDb hc ha hb
 have hv1 := ha.v
 have hv2 := hb.v
 have hx := hc.x
 have hy := hc.y
 refine aH #[.tmp 6] 41 Tryz.func222 rfl Tryz.results222 Tryz.ntmps222 rfl ?_
 have M0 := Mem.refl w
 refine aD (aA (bJ (.agg (List.toArray _)) M0 rfl rfl rfl (fun b1 w1 M1 => (bJ (.agg (List.toArray _)) M1 rfl rfl rfl (fun b2 w2 M2 => (bJ (.agg (List.toArray _)) M2 rfl rfl rfl (fun b3 w3 M3 => (bI rfl rfl (aB (aC (aD ?_)))))))))))
 refine bV [(0, 0), (1, 0), (2, 1), (3, 0), (4, 0), (5, 0), (6, 1), (7, 0), (8, 0), (9, 0), (10, 0), (11, 1), (12, 0), (13, 0), (14, 0), (15, 1), (16, 0), (17, 0), (18, 0), (19, 0)] mixed rfl (by kernel_rfl) (fun w4 hb4 hh4 => ?_)
 have M4 := M3.drew hb4 hh4
 refine aZ rfl rfl rfl (fun _ => aE 8 fD rfl) (aZ rfl rfl rfl (fun _ => aE 0 dP rfl) (cB rfl rfl rfl (aM 2 (.int _ _) aU M4 rfl rfl rfl) (aZ rfl rfl rfl (fun _ => bR fK Tryz.underlying2 rfl (kB _ (by omega) (by omega))) (aZ rfl rfl rfl (fun _ => aE 8 fD rfl) ?_))))
 refine aZ rfl rfl rfl (fun _ => aE 0 dP rfl) (cB rfl rfl rfl (aM 1 (.int _ _) aU M4 rfl rfl rfl) (aZ rfl rfl rfl (fun _ => bR fK Tryz.underlying2 rfl (kB _ (by omega) (by omega))) (aZ rfl rfl rfl (fun _ => mF rfl rfl (by omega) (by omega)) (aZ rfl rfl rfl (fun _ => aE 8 fD rfl) ?_))))
 refine aZ rfl rfl rfl (fun _ => aE 1 dJ rfl) (cB rfl rfl rfl (aM 2 (.int _ _) aU M4 rfl rfl rfl) (aZ rfl rfl rfl (fun _ => bR fK Tryz.underlying2 rfl (kB _ (by omega) (by omega))) (aZ rfl rfl rfl (fun _ => aE 8 fD rfl) (aZ rfl rfl rfl (fun _ => aE 1 dJ rfl) ?_))))
 refine cB rfl rfl rfl (aM 1 (.int _ _) aU M4 rfl rfl rfl) (aZ rfl rfl rfl (fun _ => bR fK Tryz.underlying2 rfl (kB _ (by omega) (by omega))) (aZ rfl rfl rfl (fun _ => mF rfl rfl (by omega) (by omega)) (pP rfl rfl rfl (pP rfl rfl rfl (cG ?_)))))
 refine aC (aD (aA (aV rfl rfl (wq (aE 2 mP rfl) rfl (wq (aE 0 dP rfl) rfl (wq (aM 0 (.int _ _) aU M4 rfl rfl rfl) rfl (wq (bR fK Tryz.underlying2 rfl (kB _ (by omega) (by omega))) rfl ?_)))))))
 refine wq (fS rfl rfl (by omega) (by omega)) rfl (aV rfl rfl (wq (aE 2 mP rfl) rfl (wq (aE 1 dJ rfl) rfl (wq (aM 0 (.int _ _) aU M4 rfl rfl rfl) rfl (wq (bR fK Tryz.underlying2 rfl (kB _ (by omega) (by omega))) rfl ?_)))))
 refine wq (fS rfl rfl (by omega) (by omega)) rfl (wq (bM rfl rfl (by omega) (by omega)) rfl (wq (gB rfl rfl (by decide)) rfl (aS 40 (.int .i64 (sV c a b)) (iE (lT _)) (bI rfl rfl (aB (aC (aN ?_)))))))
 refine cA (.int _ _) rfl ?_
 exact ⟨rfl, M4.below⟩
set_option maxHeartbeats 4000000 in
theorem aIg (w : World) (a b : Body) :
  Calls Tryz.prog 223 #[(.agg (aF a).toArray), (.agg (aF b).toArray)] w (fun ex w' => ∃ v, ex = .returned v ∧ (fun v w' => v = .int .i32 (max a.bounce b.bounce) ∧ Below w.heap.size w w') v w') := by
 refine aH #[.tmp 4] 10 Tryz.func223 rfl Tryz.results223 Tryz.ntmps223 rfl ?_
 have M0 := Mem.refl w
 refine aD (aA (bJ (.agg (List.toArray _)) M0 rfl rfl rfl (fun b1 w1 M1 => (bJ (.agg (List.toArray _)) M1 rfl rfl rfl (fun b2 w2 M2 => (bI rfl rfl (aB (aC (aD (aA (wq (aE 5 rI rfl) rfl ?_)))))))))))
 refine wq (aM 0 (.int _ _) aU M2 rfl rfl rfl) rfl (wq (aE 5 rI rfl) rfl (wq (aM 1 (.int _ _) aU M2 rfl rfl rfl) rfl (wq (mY rfl rfl ) rfl (bI rfl rfl (aB (aC (aN ?_)))))))
 refine cA (.int _ _) rfl ?_
 exact ⟨iE (by first | rfl | omega), M2.below⟩
set_option maxHeartbeats 4000000 in
theorem aDi (w : World) (c : Con) (a b : Body) (hc : Okn c) (ha : Okb a) (hb : Okb b) :
  Calls Tryz.prog 204 #[.agg (cF c).toArray, (.agg (aF a).toArray), (.agg (aF b).toArray)] w (fun ex w' => ∃ v, ex = .returned v ∧ (fun v w' => v = .int .i64 (lG c a b) ∧ Below w.heap.size w w') v w') := by
 have hr := aDb hc ha hb
 have hm1 := ha.m
 have hm2 := hb.m
 have hc1 := ha.c
 have hc2 := hb.c
 refine aH #[.tmp 6] 41 Tryz.func204 rfl Tryz.results204 Tryz.ntmps204 rfl ?_
 have M0 := Mem.refl w
 refine aD (aA (bJ (.agg (List.toArray _)) M0 rfl rfl rfl (fun b1 w1 M1 => (bJ (.agg (List.toArray _)) M1 rfl rfl rfl (fun b2 w2 M2 => (bJ (.agg (List.toArray _)) M2 rfl rfl rfl (fun b3 w3 M3 => (bI rfl rfl (aB (aC (aD (aA ?_))))))))))))
 refine wq (aY 0 gA M3 rfl rfl rfl) rfl (wq (aY 1 bL M3 rfl rfl rfl) rfl (wq (aY 2 bL M3 rfl rfl rfl) rfl (bY bCp rfl rfl (aDg _ c a b hc ha hb) ?_)))
 rintro v4 w4 ⟨rfl, hb4⟩
 have M4 := M3.callB hb4
 refine bI rfl rfl (aB (aC (aD (aA (wq (aE 4 fE rfl) rfl (wq (aM 1 (.int _ _) aU M4 rfl rfl rfl) rfl (wq (bR fK Tryz.underlying2 rfl (kB _ (by omega) (by omega))) rfl (wq (aE 4 fE rfl) rfl ?_))))))))
 refine wq (aM 2 (.int _ _) aU M4 rfl rfl rfl) rfl (wq (bR fK Tryz.underlying2 rfl (kB _ (by omega) (by omega))) rfl (wq (bM rfl rfl (by omega) (by omega)) rfl (bI rfl rfl (aB (aC (aD (aD (aA (aV rfl rfl ?_)))))))))
 refine cS rfl rfl rfl rfl (wq (aG (.bool (decide _)) rfl) rfl ?_)
 refine dE 24 rfl (fun g24 => ?_) (fun g24 => ?_)
 ·refine aR rfl rfl (aR rfl rfl (wq (bN true (.bool true) rfl rfl) rfl (aB (aC (cO rfl (aD (aA ?_)))))))
  refine bI rfl rfl (aB (aC (aN (cH (cA (.int _ _) rfl ?_)))))
  exact ⟨iE (by unfold lG; rw [if_pos (.inl (by omega))]), M4.below⟩
 ·refine aV rfl rfl (cS rfl rfl rfl rfl (wq (bN false (.bool (decide _)) rfl rfl) rfl (aB (aC ?_))))
  refine aX rfl (fun h27 => ?_) (fun h27 => ?_)
  ·refine aD (aA (bI rfl rfl (aB (aC (aN (cH (cA (.int _ _) rfl ?_)))))))
   exact ⟨iE (by unfold lG; rw [if_pos (.inr (by omega))]), M4.below⟩
  ·have hsp := aFw hc ha hb (by omega)
   refine aL (aC (aD (aA (aV rfl rfl (wq (aIi rfl (kB _ (by omega) (by omega))) rfl (wq (aY 1 bL M4 rfl rfl rfl) rfl (wq (aY 2 bL M4 rfl rfl rfl) rfl (bY aYy rfl rfl (aIg _ a b) ?_))))))))
   rintro v5 w5 ⟨rfl, hb5⟩
   have M5 := M4.callB hb5
   refine wq (bR fK Tryz.underlying2 rfl (kB _ (by omega) (by omega))) rfl (wq (bM rfl rfl (by omega) (by omega)) rfl (aV rfl rfl (bY aCp rfl rfl (aBt _ (-sV c a b) (65536 + max a.bounce b.bounce) (a.mass + b.mass) (by omega) (by omega) (by omega) (by omega) (by omega) (by omega) (by omega)) ?_)))
   rintro v6 w6 ⟨rfl, hb6⟩
   have M6 := M5.callB hb6
   refine wq (aG (.tuple (List.toArray _)) rfl) rfl (wq (bE (.int _ _) rfl rfl) rfl (wq (bE (.int _ _) rfl rfl) rfl (bI rfl rfl (bI rfl rfl (aB (aC (aD (aA ?_))))))))
   refine aV rfl rfl (bI rfl rfl (aB (aC (aN (cA (.int _ _) rfl ?_)))))
   exact ⟨iE (by unfold lG; rw [if_neg (fun g => by omega)]), M6.below⟩
set_option maxHeartbeats 4000000 in
theorem uN (w : World) (k n : Int) (b : Nat) (K : Rd w 1 (some ⟨b, 0, none⟩) 1 [[.int .i64 k]]) (hk : 0 ≤ k ∧ k ≤ 134217728) (hn : -65536 ≤ n ∧ n ≤ 65536) (hp : -8796093022208 ≤ k * n ∧ k * n ≤ 8796093022208) :
  Calls Tryz.prog 225 #[.int .i32 n, .pointer (some ⟨b, 0, none⟩)] w (fun ex w' => ∃ v, ex = .returned v ∧ (fun v w' => v = .int .i64 (k * n / 65536) ∧ Below w.heap.size w w') v w') := by
 rw [← eO b]
 refine aH #[.tmp 3] 8 Tryz.func225 rfl Tryz.results225 Tryz.ntmps225 rfl ?_
 have M0 := Mem.refl w
 refine aD (aA (bI rfl rfl (aB (aC (aD (aA (wq (eH (o := 0) (.int _ _) kR (K.mem M0) (show ([[.int .i64 k]] : List (List Value))[0]? = some [.int .i64 k] from rfl) rfl rfl) rfl (aV rfl rfl (wq (bR fK Tryz.underlying2 rfl (kB _ (by omega) (by omega))) rfl ?_)))))))))
 refine bY aQo rfl rfl (uG _ k n (by omega) (by omega) (by omega) (by omega) (by omega)) ?_
 rintro v1 w1 ⟨rfl, hb1⟩
 have M1 := M0.callB hb1
 refine bI rfl rfl (aB (aC (aN (cA (.int _ _) rfl ?_))))
 exact ⟨rfl, M1.below⟩
set_option maxHeartbeats 4000000 in
theorem vY (w : World) (j m x y : Int) (hj : 0 ≤ j ∧ j ≤ 8796093022208) (hm : 0 ≤ m ∧ m ≤ 1048576) (hp : 0 ≤ j * m ∧ j * m ≤ 8796093022208) (hx : -65536 ≤ x ∧ x ≤ 65536) (hy : -65536 ≤ y ∧ y ≤ 65536) :
  Calls Tryz.prog 205 #[.int .i64 j, .int .i32 m, .agg [.int .i32 x, .int .i32 y].toArray] w (fun ex w' => ∃ v, ex = .returned v ∧ (fun v w' => v = .tuple #[.int .i64 (oW j m x), .int .i64 (oW j m y)] ∧ Below w.heap.size w w') v w') := by
 have r1 := lK hp hx
 have r2 := lK hp hy
 have hkk := r1.1
 refine aH #[.tmp 6, .tmp 7] 23 Tryz.func205 rfl Tryz.results205 Tryz.ntmps205 rfl ?_
 have M0 := Mem.refl w
 refine aD (aA (bJ (.agg (List.toArray _)) M0 rfl rfl rfl (fun b1 w1 M1 => (bI rfl rfl (bI rfl rfl (aB (aC (aD (aA (aV rfl rfl ?_))))))))))
 refine aV rfl rfl (wq (bR fK Tryz.underlying2 rfl (kB _ (by omega) (by omega))) rfl (bY aQo rfl rfl (uG _ j m (by omega) (by omega) (by omega) (by omega) (by omega)) ?_))
 rintro v2 w2 ⟨rfl, hb2⟩
 have M2 := M1.callB hb2
 refine aQ yL M2 rfl rfl (fun b3 w3 M3 => (dF 1 (.int _ _) kR M3 rfl rfl rfl rfl rfl rfl (fun w4 M4 => (aB (aC (aD (aA (wq (cM [] [.pointer _] rfl rfl) rfl (wq (aI (.func _ _ _) rfl) rfl (aB (aC (aD ?_))))))))))))
 refine bV [(0, 0), (1, 0), (2, 1), (4, 0), (5, 0), (6, 1), (3, 2), (7, 2), (8, 0), (9, 0)] mixed rfl (by kernel_rfl) (fun w5 hb5 hh5 => ?_)
 have M5 := M4.drew hb5 hh5
 refine aZ rfl rfl rfl (fun _ => aG (.func _ _ _) rfl) (aZ rfl rfl rfl (fun _ => aE 0 dP rfl) (cB rfl rfl rfl (aM 0 (.int _ _) aU M5 rfl rfl rfl) (aZ rfl rfl rfl (fun _ => aG (.func _ _ _) rfl) (aZ rfl rfl rfl (fun _ => aE 1 dJ rfl) (cB rfl rfl rfl (aM 0 (.int _ _) aU M5 rfl rfl rfl) ?_)))))
 refine dR [false, true] rfl (by kernel_rfl) (bY aQe rfl rfl (uN _ (j * m / 65536) x b3 (lJ 1 M5 rfl rfl) hkk hx r1.2.1) ?_)
 rintro v6 w6 ⟨rfl, hb6⟩
 have M6 := M5.callB hb6
 refine aB (aC ⟨(eQ (bP rfl (aM 0 (.int _ _) aU M6 rfl rfl rfl)) dS), ?_⟩)
 refine dR [true] rfl (by kernel_rfl) (bY aQe rfl rfl (uN _ (j * m / 65536) y b3 (lJ 1 M6 rfl rfl) hkk hy r2.2.1) ?_)
 rintro v7 w7 ⟨rfl, hb7⟩
 have M7 := M6.callB hb7
 refine aB (aC ⟨dS, ?_⟩)
 refine pP rfl rfl rfl (pP rfl rfl rfl (cG (aC (aN (gV (.int _ _) (.int _ _) rfl rfl ?_)))))
 exact ⟨rfl, M7.below⟩
set_option maxHeartbeats 4000000 in
theorem xD (w : World) (a l : Int) (hl : 0 ≤ l ∧ l ≤ 2147483648) :
  Calls Tryz.prog 118 #[.int .i64 a, .int .i64 l] w (fun ex w' => ∃ v, ex = .returned v ∧ (fun v w' => v = .tuple #[.int .i64 (iC a l), .bool (decide (iC a l ≠ a))] ∧ Below w.heap.size w w') v w') := by
 refine aH #[.tmp 4, .tmp 5] 17 Tryz.func118 rfl Tryz.results118 Tryz.ntmps118 rfl ?_
 have M0 := Mem.refl w
 refine aD (aA (bI rfl rfl (wq (aI (.bool false) rfl) rfl (aB (aC (aD (aA (aV rfl rfl (wq (aIi rfl (kB _ (by omega) (by omega))) rfl ?_)))))))))
 refine aV rfl rfl (aV rfl rfl (wq (wU rfl rfl ) rfl (wq (mY rfl rfl ) rfl (aS 12 (.int .i64 (iC a l)) rfl (bI rfl rfl ?_)))))
 refine aB (aC (aD (aA (aV rfl rfl (aV rfl rfl (aV rfl rfl (cS rfl rfl rfl rfl (bI rfl rfl ?_))))))))
 refine wq (aI (.bool (decide _)) rfl) rfl (aB (aC (aN (gV (.int _ _) (.bool (decide _)) rfl rfl ?_))))
 exact ⟨rfl, M0.below⟩
end Go.Proofs.YtlmcphcgiclanaaGreatDoor
