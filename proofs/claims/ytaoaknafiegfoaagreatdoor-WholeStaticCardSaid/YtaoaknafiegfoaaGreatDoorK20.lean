/- Part of the proof of the laws of this seat: S20a, S20b. No conditions. -/
import Derived.Test.YtaoaknafiegfoaaGreatDoorK2
import Derived.Test.YtaoaknafiegfoaaGreatDoorK5
import Derived.Test.YtaoaknafiegfoaaGreatDoorK12
import Derived.Test.YtaoaknafiegfoaaGreatDoorK14
import Derived.Test.YtaoaknafiegfoaaGreatDoorK18
import Derived.Test.YtaoaknafiegfoaaGreatDoorK19
import Derived.Shelf.Spec.BitsCarry
set_option linter.unusedVariables false
set_option linter.unusedSimpArgs false
set_option linter.unnecessarySimpa false
namespace Go.Proofs.YtaoaknafiegfoaaGreatDoor
open Go.Bil
open Go.RowKit (Below)
open Go.Proofs
theorem bIo (x y : Nat) {w : World} : (callFunc 286 #[.int .u64 (x : Int), .int .u64 (y : Int), .int .u64 0]).run Tryz.prog w = .ok (.value (.tuple #[.int .u64 (((x + y) % 18446744073709551616 : Nat) : Int), .int .u64 (((x + y) / 18446744073709551616 : Nat) : Int)])) w := Any7.bits_Add64 aPs x y 0 (by omega) w
set_option maxHeartbeats 8000000 in
theorem aEg (w : World) (a n d : Int) (ha : 0 ≤ a) (hn : 0 ≤ n) (ha2 : a ≤ 4611686018427387904) (hn2 : n ≤ 4611686018427387904) (hp : a * n ≤ 4611686018427387904) (hd0 : 0 < d) (hd : d ≤ 9223372036854775807) :
  Calls Tryz.prog 189 #[.int .i64 a, .int .i64 n, .int .i64 d] w (fun ex w' => ∃ v, ex = .returned v ∧ (fun v w' => v = .tuple #[.int .i64 (a * n / d), .int .i64 0] ∧ Below w.heap.size w w') v w') := by
 obtain ⟨k, rfl⟩ := Int.eq_ofNat_of_zero_le ha
 obtain ⟨m, rfl⟩ := Int.eq_ofNat_of_zero_le hn
 obtain ⟨z, rfl⟩ := Int.eq_ofNat_of_zero_le (Int.le_of_lt hd0)
 obtain ⟨p, hpp⟩ : ∃ p, k * m = p := ⟨_, rfl⟩
 have hpi : (k : Int) * (m : Int) = (p : Int) := by rw [← hpp, Int.natCast_mul]
 rw [hpi] at hp
 have hql : p / z ≤ p := Nat.div_le_self _ _
 refine aH #[.tmp 6, .tmp 7] 65 Tryz.func189 rfl Tryz.results189 Tryz.ntmps189 rfl ?_
 have M0 := Mem.refl w
 refine aD (aA (bI rfl rfl (bI rfl rfl (aB (aC (aD (aD (aA (aZ rfl rfl (dB rfl rfl rfl rfl ?_))))))))))
 refine uN 17 rfl (by omega) (aB (aC (cC rfl (aK (aC (aD (aA (aZ rfl rfl (bZ qD rfl rfl (jR _ (k : Int) (by omega) (by omega)) ?_)))))))))
 rintro v1 w1 ⟨rfl, hb1⟩
 have M1 := M0.callB hb1
 refine aV 20 (.int .u64 (k : Int)) (iE (by omega)) (aZ rfl rfl (bZ qD rfl rfl (jR _ (m : Int) (by omega) (by omega)) ?_))
 rintro v2 w2 ⟨rfl, hb2⟩
 have M2 := M1.callB hb2
 refine aV 22 (.int .u64 (m : Int)) (iE (by omega)) (bZ aLj rfl rfl (aUl _ k m (by omega) (by omega)) ?_)
 rintro v3 w3 ⟨rfl, hb3⟩
 have M3 := M2.callB hb3
 refine wq (aG (.tuple (List.toArray _)) rfl) rfl (wq (bB (.int _ _) rfl rfl) rfl (aV 24 (.int .u64 ((0 : Nat) : Int)) (iE (congrArg _ (by rw [hpp]; exact Nat.div_eq_of_lt (by omega)))) (wq (bB (.int _ _) rfl rfl) rfl (aV 25 (.int .u64 (p : Int)) (iE (congrArg _ (by rw [hpp]; exact Nat.mod_eq_of_lt (by omega)))) ?_))))
 refine bI rfl rfl (bI rfl rfl (aB (aC (aD (aA (aZ rfl rfl (bZ qD rfl rfl (jR _ (z : Int) (by omega) (by omega)) ?_)))))))
 rintro v4 w4 ⟨rfl, hb4⟩
 have M4 := M3.callB hb4
 refine aV 27 (.int .u64 (z : Int)) (iE (by omega)) (bI rfl rfl (aB (aC (aD (aD (aA (aZ rfl rfl (aZ rfl rfl (dB rfl rfl rfl rfl ?_)))))))))
 refine uN 30 rfl (by omega) (aB (aC (cC rfl (aK (aC (aD (aA (aZ rfl rfl (aZ rfl rfl ?_)))))))))
 refine aZ rfl rfl (bZ aXo rfl rfl (bCu _ 0 p z (by omega) (by omega) (by omega)) ?_)
 rintro v5 w5 ⟨rfl, hb5⟩
 have M5 := M4.callB hb5
 refine wq (aG (.tuple (List.toArray _)) rfl) rfl (wq (bB (.int _ _) rfl rfl) rfl (aV 36 (.int .u64 ((p / z : Nat) : Int)) (iE (by rw [Nat.zero_mul, Nat.zero_add])) (wq (bB (.int _ _) rfl rfl) rfl (bI rfl rfl (bI rfl rfl ?_)))))
 refine aB (aC (aD (aA (aZ rfl rfl (dB rfl rfl rfl rfl (uN 39 rfl (by omega) (aZ rfl rfl (dB rfl rfl rfl rfl ?_))))))))
 refine uN 41 rfl (by omega) (wq (zT _ Tryz.underlying4 rfl rfl rfl) rfl (aV 42 (.bool false) rfl (aZ rfl rfl (dB rfl rfl rfl rfl (uN 44 rfl (by omega) ?_)))))
 refine wq (zT _ Tryz.underlying4 rfl rfl rfl) rfl (aV 45 (.bool false) rfl (wq (aI (.bool false) rfl) rfl (aB (aC (aD (aD (aA (wq (aG (.bool false) rfl) rfl (wq (aG (.bool false) rfl) rfl ?_)))))))))
 refine aR rfl rfl (aR rfl rfl (wq (bS false (.bool false) rfl rfl) rfl (aB (aC (cC rfl (aK (aC (aD (aA ?_)))))))))
 refine wq (aG (.bool false) rfl) rfl (bZ aFf rfl rfl (aFb _ false) ?_)
 rintro v6 w6 ⟨bs, rfl, hM6⟩
 have M6 : Mem _ _ [_] _ := M5.call0 hM6
 refine aZ rfl rfl (bZ aDz rfl rfl (xX _ (p / z) false bs (by omega) (mW 0 M6 rfl rfl)) ?_)
 rintro v7 w7 ⟨rfl, hb7⟩
 have M7 := M6.callB hb7
 refine wq (aG (.tuple (List.toArray _)) rfl) rfl (wq (bB (.int _ _) rfl rfl) rfl (wq (bB (.bool true) rfl rfl) rfl (bI rfl rfl (wq (aI (.bool true) rfl) rfl (aB (aC (aD (aD (aA ?_)))))))))
 refine wq (aG (.bool true) rfl) rfl (wq (fZ false rfl rfl) rfl (aB (aC (cC rfl (aK (aC (aD (aA (aZ rfl rfl ?_)))))))))
 refine bI rfl rfl (bI rfl rfl (aB (aC (aL (fX (.int _ _) (.int _ _) rfl rfl ?_)))))
 exact ⟨xE (iE (by rw [hpi]; simp)) rfl, M7.below⟩
set_option maxHeartbeats 8000000 in
theorem aUw (w : World) (a b : Int) (ha : 0 ≤ a) (ha2 : a ≤ 4611686018427387904) (hb0 : -4611686018427387904 ≤ b) (hb1 : b ≤ 4611686018427387904) (hp : -4611686018427387904 ≤ a * b ∧ a * b ≤ 4611686018427387904) :
  Calls Tryz.prog 284 #[.int .i64 a, .int .i64 b] w (fun ex w' => ∃ v, ex = .returned v ∧ (fun v w' => ∃ (h : Int) (l : Nat), v = .tuple #[.int .i64 h, .int .u64 (l : Int)] ∧ MulR a b h l ∧ Below w.heap.size w w') v w') := by
 obtain ⟨k, rfl⟩ := Int.eq_ofNat_of_zero_le ha
 obtain ⟨p, hpp⟩ : ∃ p, k * b.natAbs = p := ⟨_, rfl⟩
 have hpi : (k : Int) * (b.natAbs : Int) = (p : Int) := by rw [← hpp, Int.natCast_mul]
 have hneg : b < 0 → (k : Int) * b = -(p : Int) := fun g => by rw [← hpi, ← Int.mul_neg]; congr 1; omega
 have hpos : ¬ b < 0 → (k : Int) * b = (p : Int) := fun g => by rw [← hpi]; congr 1; omega
 have hpl : p ≤ 4611686018427387904 := by by_cases g : b < 0; (have := hneg g; omega); (have := hpos g; omega)
 refine aH #[.tmp 4, .tmp 5] 35 Tryz.func284 rfl Tryz.results284 Tryz.ntmps284 rfl ?_
 have M0 := Mem.refl w
 refine aD (aA (bI rfl rfl (bI rfl rfl (aB (aC (aD (aA (aZ rfl rfl (bZ qD rfl rfl (jR _ (k : Int) (by omega) (by omega)) ?_)))))))))
 rintro v1 w1 ⟨rfl, hb1⟩
 have M1 := M0.callB hb1
 refine aV 11 (.int .u64 (k : Int)) (iE (by omega)) (aZ rfl rfl (bZ qD rfl rfl (jR _ b (by omega) (by omega)) ?_))
 rintro v2 w2 ⟨rfl, hb2⟩
 have M2 := M1.callB hb2
 refine bZ aLj rfl rfl (aUl _ k b.natAbs (by omega) (by omega)) ?_
 rintro v3 w3 ⟨rfl, hb3⟩
 have M3 := M2.callB hb3
 refine wq (aG (.tuple (List.toArray _)) rfl) rfl (wq (bB (.int _ _) rfl rfl) rfl (aV 15 (.int .u64 ((0 : Nat) : Int)) (iE (congrArg _ (by rw [hpp]; exact Nat.div_eq_of_lt (by omega)))) (wq (bB (.int _ _) rfl rfl) rfl (aV 16 (.int .u64 (p : Int)) (iE (congrArg _ (by rw [hpp]; exact Nat.mod_eq_of_lt (by omega)))) ?_))))
 refine bI rfl rfl (bI rfl rfl (aB (aC (aD (aD (aA (aZ rfl rfl (dB rfl rfl rfl rfl (uN 18 rfl (by omega) ?_)))))))))
 refine aZ rfl rfl (dB rfl rfl rfl rfl (wq (zT _ Tryz.underlying4 rfl rfl rfl) rfl (aV 21 (.bool (decide (b < 0))) (bv rfl (by simp)) (aB (aC ?_)))))
 refine aX rfl (fun h21 => ?_) (fun h21 => ?_)
 ·refine aD (aA (bI rfl rfl (aB (aC (aD (aA (aZ rfl rfl (wq (aOs rfl) rfl (aV 24 (.int .u64 ((18446744073709551615 - p : Nat) : Int)) (iE (aOv p (by omega))) ?_)))))))))
  refine wq (aTs rfl (bIo (18446744073709551615 - p) 1)) rfl (wq (aG (.tuple (List.toArray _)) rfl) rfl (wq (bB (.int _ _) rfl rfl) rfl (aV 26 (.int .u64 (((18446744073709551616 - p) % 18446744073709551616 : Nat) : Int)) (iE (by omega)) (wq (bB (.int _ _) rfl rfl) rfl (aV 27 (.int .u64 ((if p = 0 then 1 else 0 : Nat) : Int)) (iE (by split <;> omega)) ?_)))))
  refine bI rfl rfl (bI rfl rfl (aB (aC (aA (aZ rfl rfl (wq (aOs rfl) rfl (aV 29 (.int .u64 ((18446744073709551615 : Nat) : Int)) (iE (aOv 0 (by omega))) ?_)))))))
  refine aZ rfl rfl (wq (dV (.int _ _) rfl rfl rfl) rfl (aV 31 (.int .u64 ((if p = 0 then 0 else 18446744073709551615 : Nat) : Int)) (iE (by rw [sD]; split <;> omega)) (bI rfl rfl (aB (aC (aD (aA (aZ rfl rfl ?_))))))))
  refine wq (dZ aDb Tryz.underlying2 rfl) rfl (aV 33 (.int .i64 (if p = 0 then 0 else -1)) (iE (by rw [wrI]; split <;> omega)) (aZ rfl rfl (bI rfl rfl (bI rfl rfl (aB (aC (aL ?_)))))))
  refine fX (.int _ _) (.int _ _) rfl rfl ?_
  exact ⟨_, _, rfl, MulR.neg (hneg h21) hpl, M3.below⟩
 ·refine aK (aC (aD (aA (aZ rfl rfl (wq (dZ aDb Tryz.underlying2 rfl) rfl (aV 33 (.int .i64 0) (iE (by rw [wrI]; omega)) (aZ rfl rfl (bI rfl rfl ?_))))))))
  refine bI rfl rfl (aB (aC (aL (fX (.int _ _) (.int _ _) rfl rfl ?_))))
  exact ⟨_, _, rfl, MulR.pos (hpos h21) hpl, M3.below⟩
set_option maxHeartbeats 8000000 in
theorem aBr (w : World) (a b : Int) (ha : 0 ≤ a) (ha2 : a ≤ 4611686018427387904) (hb0 : -4611686018427387904 ≤ b) (hb1 : b ≤ 4611686018427387904) (hp : -4611686018427387904 ≤ a * b ∧ a * b ≤ 4611686018427387904) :
  Calls Tryz.prog 278 #[.int .i64 a, .int .i64 b, .int .i64 16] w (fun ex w' => ∃ v, ex = .returned v ∧ (fun v w' => v = .tuple #[.int .i64 (a * b / 65536), .int .i64 0] ∧ Below w.heap.size w w') v w') := by
 refine aH #[.tmp 6, .tmp 7] 47 Tryz.func278 rfl Tryz.results278 Tryz.ntmps278 rfl ?_
 have M0 := Mem.refl w
 refine aD (aA (bI rfl rfl (bI rfl rfl (aB (aC (aD (aD (aA (aZ rfl rfl (dB rfl rfl rfl rfl ?_))))))))))
 refine uN 12 rfl (by first | decide | omega) (wq (aG (.bool false) rfl) rfl (aZ rfl rfl (dB rfl rfl rfl rfl (uN 15 rfl (by first | decide | omega) (wq (bS false (.bool false) rfl rfl) rfl ?_)))))
 refine aB (aC (cC rfl (aK (aC (aD (aA (aZ rfl rfl (aZ rfl rfl (bZ bHt rfl rfl (aUw _ a b ha ha2 hb0 hb1 hp) ?_)))))))))
 rintro v1 w1 ⟨h, l, rfl, hml, hb1⟩
 have M1 := M0.callB hb1
 have hll := hml.low
 obtain ⟨H, B, hH, hB, ⟨q, hq⟩, hl4, hBl, hlo, hh1, hh2⟩ := hml.high
 refine wq (aG (.tuple (List.toArray _)) rfl) rfl (wq (bB (.int _ _) rfl rfl) rfl (wq (bB (.int _ _) rfl rfl) rfl (bI rfl rfl (bI rfl rfl (aB (aC (aD (aA ?_))))))))
 refine aZ rfl rfl (aZ rfl rfl (wq (bY us3 Tryz.underlying178 rfl (iV _ (by omega) (by omega))) rfl (wq (gT rfl rfl (by omega)) rfl (aV 26 (.int .u64 ((l / 65536 : Nat) : Int)) (iE (aDg l 16 _ rfl (by omega))) (aZ rfl rfl ?_)))))
 refine wq (dZ us2 Tryz.underlying237 rfl) rfl (aV 28 (.int .u64 (H : Int)) (iE hH) (aZ rfl rfl (wq (oE rfl rfl (by first | decide | omega) (by first | decide | omega)) rfl (aV 30 (.int .i64 48) (iE (by first | decide | omega)) (wq (bY us3 Tryz.underlying178 rfl (iV _ (by omega) (by omega))) rfl ?_)))))
 refine wq (tC rfl rfl (by omega)) rfl (aV 32 (.int .u64 (B : Int)) (iE ((aVj H 48 _ rfl (by omega)).trans (congrArg _ hB))) (wq (dV (.int _ _) rfl rfl rfl) rfl (aV 33 (.int .u64 ((l / 65536 + B : Nat) : Int)) (iE (bJv (l / 65536) q B 48 hq hl4 hBl)) (wq (dZ aDb Tryz.underlying2 rfl) rfl ?_))))
 refine aV 34 (.int .i64 (a * b / 65536)) (iE hlo) (bI rfl rfl (aB (aC (aD (aD (aA (aZ rfl rfl (dB rfl rfl rfl rfl (uN 36 rfl (by first | decide | omega) ?_)))))))))
 refine aB (aC (cC rfl (aK (aC (aD (aD (aA (aZ rfl rfl (aZ rfl rfl (wq (bY us3 Tryz.underlying178 rfl (iV _ (by omega) (by omega))) rfl ?_))))))))))
 refine wq (gT rfl rfl (by omega)) rfl (aV 42 (.int .i64 h) (iE ((nF h).trans hh1)) (aZ rfl rfl (wq (gT rfl rfl (by decide)) rfl (aV 44 (.int .i64 h) (iE ((bBn _).trans hh2)) (dB rfl rfl rfl rfl ?_)))))
 refine uN 45 rfl (fun g => g rfl) (aB (aC (cC rfl (aK (aC (aD (aA (aZ rfl rfl (bI rfl rfl ?_)))))))))
 refine bI rfl rfl (aB (aC (aL (fX (.int _ _) (.int _ _) rfl rfl ?_))))
 exact ⟨rfl, M1.below⟩
set_option maxHeartbeats 4000000 in
theorem wT (w : World) (a b : Int) (ha : 0 ≤ a) (ha2 : a ≤ 4611686018427387904) (hb0 : -4611686018427387904 ≤ b) (hb1 : b ≤ 4611686018427387904) (hp : -4611686018427387904 ≤ a * b ∧ a * b ≤ 4611686018427387904) :
  Calls Tryz.prog 262 #[.int .i64 a, .int .i64 b] w (fun ex w' => ∃ v, ex = .returned v ∧ (fun v w' => v = .int .i64 (a * b / 65536) ∧ Below w.heap.size w w') v w') := by
 refine aH #[.tmp 4] 14 Tryz.func262 rfl Tryz.results262 Tryz.ntmps262 rfl ?_
 have M0 := Mem.refl w
 refine aD (aA (bI rfl rfl (aB (aC (aD (aA (aZ rfl rfl (aZ rfl rfl (bZ bGo rfl rfl (aBr _ a b ha ha2 hb0 hb1 hp) ?_)))))))))
 rintro v1 w1 ⟨rfl, hb1⟩
 have M1 := M0.callB hb1
 refine wq (aG (.tuple (List.toArray _)) rfl) rfl (wq (bB (.int _ _) rfl rfl) rfl (wq (bB (.int _ _) rfl rfl) rfl (bI rfl rfl (bI rfl rfl (aB (aC (aD (aA ?_))))))))
 refine aZ rfl rfl (bI rfl rfl (aB (aC (aL (cA (.int _ _) rfl ?_)))))
 exact ⟨rfl, M1.below⟩
set_option maxHeartbeats 4000000 in
theorem aFq (w : World) (c : Con) (a b : Body) (hc : Okn c) (ha : Okb a) (hb : Okb b) :
  Calls Tryz.prog 260 #[.agg (cL c).toArray, (.agg (aF a).toArray), (.agg (aF b).toArray)] w (fun ex w' => ∃ v, ex = .returned v ∧ (fun v w' => v = .int .i64 (vK c a b) ∧ Below w.heap.size w w') v w') := by
 have hr := aEx hc ha hb
 have hv1 := ha.v
 have hv2 := hb.v
 have hx := hc.x
 have hy := hc.y
 refine aH #[.tmp 6] 41 Tryz.func260 rfl Tryz.results260 Tryz.ntmps260 rfl ?_
 have M0 := Mem.refl w
 refine aD (aA (bG (.agg (List.toArray _)) M0 rfl rfl rfl (fun b1 w1 M1 => (bG (.agg (List.toArray _)) M1 rfl rfl rfl (fun b2 w2 M2 => (bG (.agg (List.toArray _)) M2 rfl rfl rfl (fun b3 w3 M3 => (bI rfl rfl (aB (aC (aD ?_)))))))))))
 refine bO [(0, 0), (1, 0), (2, 1), (3, 0), (4, 0), (5, 0), (6, 1), (7, 0), (8, 0), (9, 0), (10, 0), (11, 1), (12, 0), (13, 0), (14, 0), (15, 1), (16, 0), (17, 0), (18, 0), (19, 0)] mixed rfl (by kernel_rfl) (fun w4 hb4 hh4 => ?_)
 have M4 := M3.drew hb4 hh4
 refine aY rfl rfl rfl (fun _ => aE 8 eK rfl) (aY rfl rfl rfl (fun _ => aE 0 dS rfl) (bW rfl rfl rfl (aM 2 (.int _ _) aW M4 rfl rfl rfl) (aY rfl rfl rfl (fun _ => bY gB Tryz.underlying2 rfl (kT _ (by omega) (by omega))) (aY rfl rfl rfl (fun _ => aE 8 eK rfl) ?_))))
 refine aY rfl rfl rfl (fun _ => aE 0 dS rfl) (bW rfl rfl rfl (aM 1 (.int _ _) aW M4 rfl rfl rfl) (aY rfl rfl rfl (fun _ => bY gB Tryz.underlying2 rfl (kT _ (by omega) (by omega))) (aY rfl rfl rfl (fun _ => oE rfl rfl (by omega) (by omega)) (aY rfl rfl rfl (fun _ => aE 8 eK rfl) ?_))))
 refine aY rfl rfl rfl (fun _ => aE 1 dG rfl) (bW rfl rfl rfl (aM 2 (.int _ _) aW M4 rfl rfl rfl) (aY rfl rfl rfl (fun _ => bY gB Tryz.underlying2 rfl (kT _ (by omega) (by omega))) (aY rfl rfl rfl (fun _ => aE 8 eK rfl) (aY rfl rfl rfl (fun _ => aE 1 dG rfl) ?_))))
 refine bW rfl rfl rfl (aM 1 (.int _ _) aW M4 rfl rfl rfl) (aY rfl rfl rfl (fun _ => bY gB Tryz.underlying2 rfl (kT _ (by omega) (by omega))) (aY rfl rfl rfl (fun _ => oE rfl rfl (by omega) (by omega)) (qO rfl rfl rfl (qO rfl rfl rfl (cB ?_)))))
 refine aC (aD (aA (aZ rfl rfl (wq (aE 2 nW rfl) rfl (wq (aE 0 dS rfl) rfl (wq (aM 0 (.int _ _) aW M4 rfl rfl rfl) rfl (wq (bY gB Tryz.underlying2 rfl (kT _ (by omega) (by omega))) rfl ?_)))))))
 refine wq (gJ rfl rfl (by omega) (by omega)) rfl (aZ rfl rfl (wq (aE 2 nW rfl) rfl (wq (aE 1 dG rfl) rfl (wq (aM 0 (.int _ _) aW M4 rfl rfl rfl) rfl (wq (bY gB Tryz.underlying2 rfl (kT _ (by omega) (by omega))) rfl ?_)))))
 refine wq (gJ rfl rfl (by omega) (by omega)) rfl (wq (bP rfl rfl (by omega) (by omega)) rfl (wq (gT rfl rfl (by decide)) rfl (aV 40 (.int .i64 (vK c a b)) (iE (nF _)) (bI rfl rfl (aB (aC (aL ?_)))))))
 refine cA (.int _ _) rfl ?_
 exact ⟨rfl, M4.below⟩
set_option maxHeartbeats 4000000 in
theorem aKf (w : World) (a b : Body) :
  Calls Tryz.prog 261 #[(.agg (aF a).toArray), (.agg (aF b).toArray)] w (fun ex w' => ∃ v, ex = .returned v ∧ (fun v w' => v = .int .i32 (max a.bounce b.bounce) ∧ Below w.heap.size w w') v w') := by
 refine aH #[.tmp 4] 10 Tryz.func261 rfl Tryz.results261 Tryz.ntmps261 rfl ?_
 have M0 := Mem.refl w
 refine aD (aA (bG (.agg (List.toArray _)) M0 rfl rfl rfl (fun b1 w1 M1 => (bG (.agg (List.toArray _)) M1 rfl rfl rfl (fun b2 w2 M2 => (bI rfl rfl (aB (aC (aD (aA (wq (aE 5 oT rfl) rfl ?_)))))))))))
 refine wq (aM 0 (.int _ _) aW M2 rfl rfl rfl) rfl (wq (aE 5 oT rfl) rfl (wq (aM 1 (.int _ _) aW M2 rfl rfl rfl) rfl (wq (nJ rfl rfl ) rfl (bI rfl rfl (aB (aC (aL ?_)))))))
 refine cA (.int _ _) rfl ?_
 exact ⟨iE (by first | rfl | omega), M2.below⟩
set_option maxHeartbeats 4000000 in
theorem aEj (w : World) (c : Con) (a b : Body) (hc : Okn c) (ha : Okb a) (hb : Okb b) :
  Calls Tryz.prog 243 #[.agg (cL c).toArray, (.agg (aF a).toArray), (.agg (aF b).toArray)] w (fun ex w' => ∃ v, ex = .returned v ∧ (fun v w' => v = .int .i64 (mY c a b) ∧ Below w.heap.size w w') v w') := by
 have hr := aEx hc ha hb
 have hm1 := ha.m
 have hm2 := hb.m
 have hc1 := ha.c
 have hc2 := hb.c
 refine aH #[.tmp 6] 41 Tryz.func243 rfl Tryz.results243 Tryz.ntmps243 rfl ?_
 have M0 := Mem.refl w
 refine aD (aA (bG (.agg (List.toArray _)) M0 rfl rfl rfl (fun b1 w1 M1 => (bG (.agg (List.toArray _)) M1 rfl rfl rfl (fun b2 w2 M2 => (bG (.agg (List.toArray _)) M2 rfl rfl rfl (fun b3 w3 M3 => (bI rfl rfl (aB (aC (aD (aA ?_))))))))))))
 refine wq (bC 0 gR M3 rfl rfl rfl) rfl (wq (bC 1 bJ M3 rfl rfl rfl) rfl (wq (bC 2 bJ M3 rfl rfl rfl) rfl (bZ bGd rfl rfl (aFq _ c a b hc ha hb) ?_)))
 rintro v4 w4 ⟨rfl, hb4⟩
 have M4 := M3.callB hb4
 refine bI rfl rfl (aB (aC (aD (aA (wq (aE 4 eQ rfl) rfl (wq (aM 1 (.int _ _) aW M4 rfl rfl rfl) rfl (wq (bY gB Tryz.underlying2 rfl (kT _ (by omega) (by omega))) rfl (wq (aE 4 eQ rfl) rfl ?_))))))))
 refine wq (aM 2 (.int _ _) aW M4 rfl rfl rfl) rfl (wq (bY gB Tryz.underlying2 rfl (kT _ (by omega) (by omega))) rfl (wq (bP rfl rfl (by omega) (by omega)) rfl (bI rfl rfl (aB (aC (aD (aD (aA (aZ rfl rfl ?_)))))))))
 refine dB rfl rfl rfl rfl (wq (aG (.bool (decide _)) rfl) rfl ?_)
 refine dE 24 rfl (fun g24 => ?_) (fun g24 => ?_)
 ·refine aR rfl rfl (aR rfl rfl (wq (bS true (.bool true) rfl rfl) rfl (aB (aC (cQ rfl (aD (aA ?_)))))))
  refine bI rfl rfl (aB (aC (aL (cD (cA (.int _ _) rfl ?_)))))
  exact ⟨iE (by unfold mY; rw [if_pos (.inl (by omega))]), M4.below⟩
 ·refine aZ rfl rfl (dB rfl rfl rfl rfl (wq (bS false (.bool (decide _)) rfl rfl) rfl (aB (aC ?_))))
  refine aX rfl (fun h27 => ?_) (fun h27 => ?_)
  ·refine aD (aA (bI rfl rfl (aB (aC (aL (cD (cA (.int _ _) rfl ?_)))))))
   exact ⟨iE (by unfold mY; rw [if_pos (.inr (by omega))]), M4.below⟩
  ·have hsp := aIa hc ha hb (by omega)
   refine aK (aC (aD (aA (aZ rfl rfl (wq (aKp rfl (kT _ (by omega) (by omega))) rfl (wq (bC 1 bJ M4 rfl rfl rfl) rfl (wq (bC 2 bJ M4 rfl rfl rfl) rfl (bZ bFv rfl rfl (aKf _ a b) ?_))))))))
   rintro v5 w5 ⟨rfl, hb5⟩
   have M5 := M4.callB hb5
   refine wq (bY gB Tryz.underlying2 rfl (kT _ (by omega) (by omega))) rfl (wq (bP rfl rfl (by omega) (by omega)) rfl (aZ rfl rfl (bZ aEs rfl rfl (aEg _ (-vK c a b) (65536 + max a.bounce b.bounce) (a.mass + b.mass) (by omega) (by omega) (by omega) (by omega) (by omega) (by omega) (by omega)) ?_)))
   rintro v6 w6 ⟨rfl, hb6⟩
   have M6 := M5.callB hb6
   refine wq (aG (.tuple (List.toArray _)) rfl) rfl (wq (bB (.int _ _) rfl rfl) rfl (wq (bB (.int _ _) rfl rfl) rfl (bI rfl rfl (bI rfl rfl (aB (aC (aD (aA ?_))))))))
   refine aZ rfl rfl (bI rfl rfl (aB (aC (aL (cA (.int _ _) rfl ?_)))))
   exact ⟨iE (by unfold mY; rw [if_neg (fun g => by omega)]), M6.below⟩
set_option maxHeartbeats 4000000 in
theorem wI (w : World) (k n : Int) (b : Nat) (K : Rd w 1 (some ⟨b, 0, none⟩) 1 [[.int .i64 k]]) (hk : 0 ≤ k ∧ k ≤ 134217728) (hn : -65536 ≤ n ∧ n ≤ 65536) (hp : -8796093022208 ≤ k * n ∧ k * n ≤ 8796093022208) :
  Calls Tryz.prog 263 #[.int .i32 n, .pointer (some ⟨b, 0, none⟩)] w (fun ex w' => ∃ v, ex = .returned v ∧ (fun v w' => v = .int .i64 (k * n / 65536) ∧ Below w.heap.size w w') v w') := by
 rw [← eX b]
 refine aH #[.tmp 3] 8 Tryz.func263 rfl Tryz.results263 Tryz.ntmps263 rfl ?_
 have M0 := Mem.refl w
 refine aD (aA (bI rfl rfl (aB (aC (aD (aA (wq (eM (o := 0) (.int _ _) mJ (K.mem M0) (show ([[.int .i64 k]] : List (List Value))[0]? = some [.int .i64 k] from rfl) rfl rfl) rfl (aZ rfl rfl (wq (bY gB Tryz.underlying2 rfl (kT _ (by omega) (by omega))) rfl ?_)))))))))
 refine bZ aYd rfl rfl (wT _ k n (by omega) (by omega) (by omega) (by omega) (by omega)) ?_
 rintro v1 w1 ⟨rfl, hb1⟩
 have M1 := M0.callB hb1
 refine bI rfl rfl (aB (aC (aL (cA (.int _ _) rfl ?_))))
 exact ⟨rfl, M1.below⟩
set_option maxHeartbeats 4000000 in
theorem zM (w : World) (j m x y : Int) (hj : 0 ≤ j ∧ j ≤ 8796093022208) (hm : 0 ≤ m ∧ m ≤ 1048576) (hp : 0 ≤ j * m ∧ j * m ≤ 8796093022208) (hx : -65536 ≤ x ∧ x ≤ 65536) (hy : -65536 ≤ y ∧ y ≤ 65536) :
  Calls Tryz.prog 244 #[.int .i64 j, .int .i32 m, .agg [.int .i32 x, .int .i32 y].toArray] w (fun ex w' => ∃ v, ex = .returned v ∧ (fun v w' => v = .tuple #[.int .i64 (oP j m x), .int .i64 (oP j m y)] ∧ Below w.heap.size w w') v w') := by
 have r1 := nG hp hx
 have r2 := nG hp hy
 have hkk := r1.1
 refine aH #[.tmp 6, .tmp 7] 23 Tryz.func244 rfl Tryz.results244 Tryz.ntmps244 rfl ?_
 have M0 := Mem.refl w
 refine aD (aA (bG (.agg (List.toArray _)) M0 rfl rfl rfl (fun b1 w1 M1 => (bI rfl rfl (bI rfl rfl (aB (aC (aD (aA (aZ rfl rfl ?_))))))))))
 refine aZ rfl rfl (wq (bY gB Tryz.underlying2 rfl (kT _ (by omega) (by omega))) rfl (bZ aYd rfl rfl (wT _ j m (by omega) (by omega) (by omega) (by omega) (by omega)) ?_))
 rintro v2 w2 ⟨rfl, hb2⟩
 have M2 := M1.callB hb2
 refine aP aAg M2 rfl rfl (fun b3 w3 M3 => (dX 1 (.int _ _) mJ M3 rfl rfl rfl rfl rfl rfl (fun w4 M4 => (aB (aC (aD (aA (wq (cN [] [.pointer _] rfl rfl) rfl (wq (aI (.func _ _ _) rfl) rfl (aB (aC (aD ?_))))))))))))
 refine bO [(0, 0), (1, 0), (2, 1), (4, 0), (5, 0), (6, 1), (3, 2), (7, 2), (8, 0), (9, 0)] mixed rfl (by kernel_rfl) (fun w5 hb5 hh5 => ?_)
 have M5 := M4.drew hb5 hh5
 refine aY rfl rfl rfl (fun _ => aG (.func _ _ _) rfl) (aY rfl rfl rfl (fun _ => aE 0 dS rfl) (bW rfl rfl rfl (aM 0 (.int _ _) aW M5 rfl rfl rfl) (aY rfl rfl rfl (fun _ => aG (.func _ _ _) rfl) (aY rfl rfl rfl (fun _ => aE 1 dG rfl) (bW rfl rfl rfl (aM 0 (.int _ _) aW M5 rfl rfl rfl) ?_)))))
 refine dU [false, true] rfl (by kernel_rfl) (bZ aVo rfl rfl (wI _ (j * m / 65536) x b3 (mW 1 M5 rfl rfl) hkk hx r1.2.1) ?_)
 rintro v6 w6 ⟨rfl, hb6⟩
 have M6 := M5.callB hb6
 refine aB (aC ⟨(eL (bQ rfl (aM 0 (.int _ _) aW M6 rfl rfl rfl)) dT), ?_⟩)
 refine dU [true] rfl (by kernel_rfl) (bZ aVo rfl rfl (wI _ (j * m / 65536) y b3 (mW 1 M6 rfl rfl) hkk hy r2.2.1) ?_)
 rintro v7 w7 ⟨rfl, hb7⟩
 have M7 := M6.callB hb7
 refine aB (aC ⟨dT, ?_⟩)
 refine qO rfl rfl rfl (qO rfl rfl rfl (cB (aC (aL (fX (.int _ _) (.int _ _) rfl rfl ?_)))))
 exact ⟨rfl, M7.below⟩
set_option maxHeartbeats 4000000 in
theorem aAb (w : World) (a l : Int) (hl : 0 ≤ l ∧ l ≤ 2147483648) :
  Calls Tryz.prog 148 #[.int .i64 a, .int .i64 l] w (fun ex w' => ∃ v, ex = .returned v ∧ (fun v w' => v = .tuple #[.int .i64 (iJ a l), .bool (decide (iJ a l ≠ a))] ∧ Below w.heap.size w w') v w') := by
 refine aH #[.tmp 4, .tmp 5] 17 Tryz.func148 rfl Tryz.results148 Tryz.ntmps148 rfl ?_
 have M0 := Mem.refl w
 refine aD (aA (bI rfl rfl (wq (aI (.bool false) rfl) rfl (aB (aC (aD (aA (aZ rfl rfl (wq (aKp rfl (kT _ (by omega) (by omega))) rfl ?_)))))))))
 refine aZ rfl rfl (aZ rfl rfl (wq (zP rfl rfl ) rfl (wq (nJ rfl rfl ) rfl (aV 12 (.int .i64 (iJ a l)) rfl (bI rfl rfl ?_)))))
 refine aB (aC (aD (aA (aZ rfl rfl (aZ rfl rfl (aZ rfl rfl (dB rfl rfl rfl rfl (bI rfl rfl ?_))))))))
 refine wq (aI (.bool (decide _)) rfl) rfl (aB (aC (aL (fX (.int _ _) (.bool (decide _)) rfl rfl ?_))))
 exact ⟨rfl, M0.below⟩
end Go.Proofs.YtaoaknafiegfoaaGreatDoor
