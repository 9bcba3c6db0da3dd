/- Part of the proof of the laws of this seat: S20a, S20b. No conditions. -/
import Derived.Test.YtaoaknafiegfoaaGreatDoorK2
import Derived.Test.YtaoaknafiegfoaaGreatDoorK5
import Derived.Test.YtaoaknafiegfoaaGreatDoorK12
import Derived.Test.YtaoaknafiegfoaaGreatDoorK14
import Derived.Test.YtaoaknafiegfoaaGreatDoorK18
import Derived.Test.YtaoaknafiegfoaaGreatDoorK19
import Derived.Shelf.Spec.BitsCarry
set_option linter.unusedVariables false
set_option linter.unusedSimpArgs false
set_option linter.unnecessarySimpa false
namespace Go.Proofs.YtaoaknafiegfoaaGreatDoor
open Go.Bil
open Go.RowKit (Below)
open Go.Proofs
theorem bQx (x y : Nat) {w : World} : (callFunc 286 #[.int .u64 (x : Int), .int .u64 (y : Int), .int .u64 0]).run Tryz.prog w = .ok (.value (.tuple #[.int .u64 (((x + y) % 18446744073709551616 : Nat) : Int), .int .u64 (((x + y) / 18446744073709551616 : Nat) : Int)])) w := Any7.bits_Add64 aVt x y 0 (by omega) w
set_option maxHeartbeats 8000000 in
theorem aIq (w : World) (a n d : Int) (ha : 0 ≤ a) (hn : 0 ≤ n) (ha2 : a ≤ 4611686018427387904) (hn2 : n ≤ 4611686018427387904) (hp : a * n ≤ 4611686018427387904) (hd0 : 0 < d) (hd : d ≤ 9223372036854775807) :
  Calls Tryz.prog 189 #[.int .i64 a, .int .i64 n, .int .i64 d] w (fun ex w' => ∃ v, ex = .returned v ∧ (fun v w' => v = .tuple #[.int .i64 (a * n / d), .int .i64 0] ∧ Below w.heap.size w w') v w') := by
 obtain ⟨k, rfl⟩ := Int.eq_ofNat_of_zero_le ha
 obtain ⟨m, rfl⟩ := Int.eq_ofNat_of_zero_le hn
 obtain ⟨z, rfl⟩ := Int.eq_ofNat_of_zero_le (Int.le_of_lt hd0)
 obtain ⟨p, hpp⟩ : ∃ p, k * m = p := ⟨_, rfl⟩
 have hpi : (k : Int) * (m : Int) = (p : Int) := by rw [← hpp, Int.natCast_mul]
 rw [hpi] at hp
 have hql : p / z ≤ p := Nat.div_le_self _ _
 refine aI #[.tmp 6, .tmp 7] 65 Tryz.func189 rfl Tryz.results189 Tryz.ntmps189 rfl ?_
 have M0 := Mem.refl w
 refine aE (aA (bI rfl rfl (bI rfl rfl (aB (aC (aE (aE (aA (aP rfl rfl (cZ rfl rfl rfl rfl ?_))))))))))
 refine pE 17 rfl (by omega) (aB (aC (cJ rfl (aL (aC (aE (aA (aP rfl rfl (bY tI rfl rfl (lT _ (k : Int) (by omega) (by omega)) ?_)))))))))
 rintro v1 w1 ⟨rfl, hb1⟩
 have M1 := M0.callB hb1
 refine aK 20 (.int .u64 (k : Int)) (iE (by omega)) (aP rfl rfl (bY tI rfl rfl (lT _ (m : Int) (by omega) (by omega)) ?_))
 rintro v2 w2 ⟨rfl, hb2⟩
 have M2 := M1.callB hb2
 refine aK 22 (.int .u64 (m : Int)) (iE (by omega)) (bY aQf rfl rfl (bBr _ k m (by omega) (by omega)) ?_)
 rintro v3 w3 ⟨rfl, hb3⟩
 have M3 := M2.callB hb3
 refine wq (aH (.tuple (List.toArray _)) rfl) rfl (wq (bN (.int _ _) rfl rfl) rfl (aK 24 (.int .u64 ((0 : Nat) : Int)) (iE (congrArg _ (by rw [hpp]; exact Nat.div_eq_of_lt (by omega)))) (wq (bN (.int _ _) rfl rfl) rfl (aK 25 (.int .u64 (p : Int)) (iE (congrArg _ (by rw [hpp]; exact Nat.mod_eq_of_lt (by omega)))) ?_))))
 refine bI rfl rfl (bI rfl rfl (aB (aC (aE (aA (aP rfl rfl (bY tI rfl rfl (lT _ (z : Int) (by omega) (by omega)) ?_)))))))
 rintro v4 w4 ⟨rfl, hb4⟩
 have M4 := M3.callB hb4
 refine aK 27 (.int .u64 (z : Int)) (iE (by omega)) (bI rfl rfl (aB (aC (aE (aE (aA (aP rfl rfl (aP rfl rfl (cZ rfl rfl rfl rfl ?_)))))))))
 refine pE 30 rfl (by omega) (aB (aC (cJ rfl (aL (aC (aE (aA (aP rfl rfl (aP rfl rfl ?_)))))))))
 refine aP rfl rfl (bY aZy rfl rfl (bKa _ 0 p z (by omega) (by omega) (by omega)) ?_)
 rintro v5 w5 ⟨rfl, hb5⟩
 have M5 := M4.callB hb5
 refine wq (aH (.tuple (List.toArray _)) rfl) rfl (wq (bN (.int _ _) rfl rfl) rfl (aK 36 (.int .u64 ((p / z : Nat) : Int)) (iE (by rw [Nat.zero_mul, Nat.zero_add])) (wq (bN (.int _ _) rfl rfl) rfl (bI rfl rfl (bI rfl rfl ?_)))))
 refine aB (aC (aE (aA (aP rfl rfl (cZ rfl rfl rfl rfl (pE 39 rfl (by omega) (aP rfl rfl (cZ rfl rfl rfl rfl ?_))))))))
 refine pE 41 rfl (by omega) (wq (rR _ Tryz.underlying4 rfl rfl rfl) rfl (aK 42 (.bool false) rfl (aP rfl rfl (cZ rfl rfl rfl rfl (pE 44 rfl (by omega) ?_)))))
 refine wq (rR _ Tryz.underlying4 rfl rfl rfl) rfl (aK 45 (.bool false) rfl (wq (aJ (.bool false) rfl) rfl (aB (aC (aE (aE (aA (wq (aH (.bool false) rfl) rfl (wq (aH (.bool false) rfl) rfl ?_)))))))))
 refine aN rfl rfl (aN rfl rfl (wq (bR false (.bool false) rfl rfl) rfl (aB (aC (cJ rfl (aL (aC (aE (aA ?_)))))))))
 refine wq (aH (.bool false) rfl) rfl (bY aIr rfl rfl (aKd _ false) ?_)
 rintro v6 w6 ⟨bs, rfl, hM6⟩
 have M6 : Mem _ _ [_] _ := M5.call0 hM6
 refine aP rfl rfl (bY aJr rfl rfl (aBp _ (p / z) false bs (by omega) (pF 0 M6 rfl rfl)) ?_)
 rintro v7 w7 ⟨rfl, hb7⟩
 have M7 := M6.callB hb7
 refine wq (aH (.tuple (List.toArray _)) rfl) rfl (wq (bN (.int _ _) rfl rfl) rfl (wq (bN (.bool true) rfl rfl) rfl (bI rfl rfl (wq (aJ (.bool true) rfl) rfl (aB (aC (aE (aE (aA ?_)))))))))
 refine wq (aH (.bool true) rfl) rfl (wq (gG false rfl rfl) rfl (aB (aC (cJ rfl (aL (aC (aE (aA (aP rfl rfl ?_)))))))))
 refine bI rfl rfl (bI rfl rfl (aB (aC (aO (gA (.int _ _) (.int _ _) rfl rfl ?_)))))
 exact ⟨tP (iE (by rw [hpi]; simp)) rfl, M7.below⟩
set_option maxHeartbeats 8000000 in
theorem bDn (w : World) (a b : Int) (ha : 0 ≤ a) (ha2 : a ≤ 4611686018427387904) (hb0 : -4611686018427387904 ≤ b) (hb1 : b ≤ 4611686018427387904) (hp : -4611686018427387904 ≤ a * b ∧ a * b ≤ 4611686018427387904) :
  Calls Tryz.prog 284 #[.int .i64 a, .int .i64 b] w (fun ex w' => ∃ v, ex = .returned v ∧ (fun v w' => ∃ (h : Int) (l : Nat), v = .tuple #[.int .i64 h, .int .u64 (l : Int)] ∧ MulR a b h l ∧ Below w.heap.size w w') v w') := by
 obtain ⟨k, rfl⟩ := Int.eq_ofNat_of_zero_le ha
 obtain ⟨p, hpp⟩ : ∃ p, k * b.natAbs = p := ⟨_, rfl⟩
 have hpi : (k : Int) * (b.natAbs : Int) = (p : Int) := by rw [← hpp, Int.natCast_mul]
 have hneg : b < 0 → (k : Int) * b = -(p : Int) := fun g => by rw [← hpi, ← Int.mul_neg]; congr 1; omega
 have hpos : ¬ b < 0 → (k : Int) * b = (p : Int) := fun g => by rw [← hpi]; congr 1; omega
 have hpl : p ≤ 4611686018427387904 := by by_cases g : b < 0; (have := hneg g; omega); (have := hpos g; omega)
 refine aI #[.tmp 4, .tmp 5] 35 Tryz.func284 rfl Tryz.results284 Tryz.ntmps284 rfl ?_
 have M0 := Mem.refl w
 refine aE (aA (bI rfl rfl (bI rfl rfl (aB (aC (aE (aA (aP rfl rfl (bY tI rfl rfl (lT _ (k : Int) (by omega) (by omega)) ?_)))))))))
 rintro v1 w1 ⟨rfl, hb1⟩
 have M1 := M0.callB hb1
 refine aK 11 (.int .u64 (k : Int)) (iE (by omega)) (aP rfl rfl (bY tI rfl rfl (lT _ b (by omega) (by omega)) ?_))
 rintro v2 w2 ⟨rfl, hb2⟩
 have M2 := M1.callB hb2
 refine bY aQf rfl rfl (bBr _ k b.natAbs (by omega) (by omega)) ?_
 rintro v3 w3 ⟨rfl, hb3⟩
 have M3 := M2.callB hb3
 refine wq (aH (.tuple (List.toArray _)) rfl) rfl (wq (bN (.int _ _) rfl rfl) rfl (aK 15 (.int .u64 ((0 : Nat) : Int)) (iE (congrArg _ (by rw [hpp]; exact Nat.div_eq_of_lt (by omega)))) (wq (bN (.int _ _) rfl rfl) rfl (aK 16 (.int .u64 (p : Int)) (iE (congrArg _ (by rw [hpp]; exact Nat.mod_eq_of_lt (by omega)))) ?_))))
 refine bI rfl rfl (bI rfl rfl (aB (aC (aE (aE (aA (aP rfl rfl (cZ rfl rfl rfl rfl (pE 18 rfl (by omega) ?_)))))))))
 refine aP rfl rfl (cZ rfl rfl rfl rfl (wq (rR _ Tryz.underlying4 rfl rfl rfl) rfl (aK 21 (.bool (decide (b < 0))) (bv rfl (by simp)) (aB (aC ?_)))))
 refine aW rfl (fun h21 => ?_) (fun h21 => ?_)
 ·refine aE (aA (bI rfl rfl (aB (aC (aE (aA (aP rfl rfl (wq (aUb rfl) rfl (aK 24 (.int .u64 ((18446744073709551615 - p : Nat) : Int)) (iE (aSv p (by omega))) ?_)))))))))
  refine wq (bEj rfl (bQx (18446744073709551615 - p) 1)) rfl (wq (aH (.tuple (List.toArray _)) rfl) rfl (wq (bN (.int _ _) rfl rfl) rfl (aK 26 (.int .u64 (((18446744073709551616 - p) % 18446744073709551616 : Nat) : Int)) (iE (by omega)) (wq (bN (.int _ _) rfl rfl) rfl (aK 27 (.int .u64 ((if p = 0 then 1 else 0 : Nat) : Int)) (iE (by split <;> omega)) ?_)))))
  refine bI rfl rfl (bI rfl rfl (aB (aC (aA (aP rfl rfl (wq (aUb rfl) rfl (aK 29 (.int .u64 ((18446744073709551615 : Nat) : Int)) (iE (aSv 0 (by omega))) ?_)))))))
  refine aP rfl rfl (wq (bZ (.int _ _) rfl rfl rfl) rfl (aK 31 (.int .u64 ((if p = 0 then 0 else 18446744073709551615 : Nat) : Int)) (iE (by rw [gB]; split <;> omega)) (bI rfl rfl (aB (aC (aE (aA (aP rfl rfl ?_))))))))
  refine wq (dA vF Tryz.underlying2 rfl) rfl (aK 33 (.int .i64 (if p = 0 then 0 else -1)) (iE (by rw [wrI]; split <;> omega)) (aP rfl rfl (bI rfl rfl (bI rfl rfl (aB (aC (aO ?_)))))))
  refine gA (.int _ _) (.int _ _) rfl rfl ?_
  exact ⟨_, _, rfl, MulR.neg (hneg h21) hpl, M3.below⟩
 ·refine aL (aC (aE (aA (aP rfl rfl (wq (dA vF Tryz.underlying2 rfl) rfl (aK 33 (.int .i64 0) (iE (by rw [wrI]; omega)) (aP rfl rfl (bI rfl rfl ?_))))))))
  refine bI rfl rfl (aB (aC (aO (gA (.int _ _) (.int _ _) rfl rfl ?_))))
  exact ⟨_, _, rfl, MulR.pos (hpos h21) hpl, M3.below⟩
set_option maxHeartbeats 8000000 in
theorem aGj (w : World) (a b : Int) (ha : 0 ≤ a) (ha2 : a ≤ 4611686018427387904) (hb0 : -4611686018427387904 ≤ b) (hb1 : b ≤ 4611686018427387904) (hp : -4611686018427387904 ≤ a * b ∧ a * b ≤ 4611686018427387904) :
  Calls Tryz.prog 278 #[.int .i64 a, .int .i64 b, .int .i64 16] w (fun ex w' => ∃ v, ex = .returned v ∧ (fun v w' => v = .tuple #[.int .i64 (a * b / 65536), .int .i64 0] ∧ Below w.heap.size w w') v w') := by
 refine aI #[.tmp 6, .tmp 7] 47 Tryz.func278 rfl Tryz.results278 Tryz.ntmps278 rfl ?_
 have M0 := Mem.refl w
 refine aE (aA (bI rfl rfl (bI rfl rfl (aB (aC (aE (aE (aA (aP rfl rfl (cZ rfl rfl rfl rfl ?_))))))))))
 refine pE 12 rfl (by first | decide | omega) (wq (aH (.bool false) rfl) rfl (aP rfl rfl (cZ rfl rfl rfl rfl (pE 15 rfl (by first | decide | omega) (wq (bR false (.bool false) rfl rfl) rfl ?_)))))
 refine aB (aC (cJ rfl (aL (aC (aE (aA (aP rfl rfl (aP rfl rfl (bY bPb rfl rfl (bDn _ a b ha ha2 hb0 hb1 hp) ?_)))))))))
 rintro v1 w1 ⟨h, l, rfl, hml, hb1⟩
 have M1 := M0.callB hb1
 have hll := hml.low
 obtain ⟨H, B, hH, hB, ⟨q, hq⟩, hl4, hBl, hlo, hh1, hh2⟩ := hml.high
 refine wq (aH (.tuple (List.toArray _)) rfl) rfl (wq (bN (.int _ _) rfl rfl) rfl (wq (bN (.int _ _) rfl rfl) rfl (bI rfl rfl (bI rfl rfl (aB (aC (aE (aA ?_))))))))
 refine aP rfl rfl (aP rfl rfl (wq (aZ us3 Tryz.underlying178 rfl (kU _ (by omega) (by omega))) rfl (wq (jQ rfl rfl (by omega)) rfl (aK 26 (.int .u64 ((l / 65536 : Nat) : Int)) (iE (aHi l 16 _ rfl (by omega))) (aP rfl rfl ?_)))))
 refine wq (dA lW Tryz.underlying237 rfl) rfl (aK 28 (.int .u64 (H : Int)) (iE hH) (aP rfl rfl (wq (fU rfl rfl (by first | decide | omega) (by first | decide | omega)) rfl (aK 30 (.int .i64 48) (iE (by first | decide | omega)) (wq (aZ us3 Tryz.underlying178 rfl (kU _ (by omega) (by omega))) rfl ?_)))))
 refine wq (xJ rfl rfl (by omega)) rfl (aK 32 (.int .u64 (B : Int)) (iE ((bEk H 48 _ rfl (by omega)).trans (congrArg _ hB))) (wq (bZ (.int _ _) rfl rfl rfl) rfl (aK 33 (.int .u64 ((l / 65536 + B : Nat) : Int)) (iE (bQd (l / 65536) q B 48 hq hl4 hBl)) (wq (dA vF Tryz.underlying2 rfl) rfl ?_))))
 refine aK 34 (.int .i64 (a * b / 65536)) (iE hlo) (bI rfl rfl (aB (aC (aE (aE (aA (aP rfl rfl (cZ rfl rfl rfl rfl (pE 36 rfl (by first | decide | omega) ?_)))))))))
 refine aB (aC (cJ rfl (aL (aC (aE (aE (aA (aP rfl rfl (aP rfl rfl (wq (aZ us3 Tryz.underlying178 rfl (kU _ (by omega) (by omega))) rfl ?_))))))))))
 refine wq (jQ rfl rfl (by omega)) rfl (aK 42 (.int .i64 h) (iE ((pL h).trans hh1)) (aP rfl rfl (wq (jQ rfl rfl (by decide)) rfl (aK 44 (.int .i64 h) (iE ((bFu _).trans hh2)) (cZ rfl rfl rfl rfl ?_)))))
 refine pE 45 rfl (fun g => g rfl) (aB (aC (cJ rfl (aL (aC (aE (aA (aP rfl rfl (bI rfl rfl ?_)))))))))
 refine bI rfl rfl (aB (aC (aO (gA (.int _ _) (.int _ _) rfl rfl ?_))))
 exact ⟨rfl, M1.below⟩
set_option maxHeartbeats 4000000 in
theorem aAf (w : World) (a b : Int) (ha : 0 ≤ a) (ha2 : a ≤ 4611686018427387904) (hb0 : -4611686018427387904 ≤ b) (hb1 : b ≤ 4611686018427387904) (hp : -4611686018427387904 ≤ a * b ∧ a * b ≤ 4611686018427387904) :
  Calls Tryz.prog 262 #[.int .i64 a, .int .i64 b] w (fun ex w' => ∃ v, ex = .returned v ∧ (fun v w' => v = .int .i64 (a * b / 65536) ∧ Below w.heap.size w w') v w') := by
 refine aI #[.tmp 4] 14 Tryz.func262 rfl Tryz.results262 Tryz.ntmps262 rfl ?_
 have M0 := Mem.refl w
 refine aE (aA (bI rfl rfl (aB (aC (aE (aA (aP rfl rfl (aP rfl rfl (bY bMq rfl rfl (aGj _ a b ha ha2 hb0 hb1 hp) ?_)))))))))
 rintro v1 w1 ⟨rfl, hb1⟩
 have M1 := M0.callB hb1
 refine wq (aH (.tuple (List.toArray _)) rfl) rfl (wq (bN (.int _ _) rfl rfl) rfl (wq (bN (.int _ _) rfl rfl) rfl (bI rfl rfl (bI rfl rfl (aB (aC (aE (aA ?_))))))))
 refine aP rfl rfl (bI rfl rfl (aB (aC (aO (cD (.int _ _) rfl ?_)))))
 exact ⟨rfl, M1.below⟩
set_option maxHeartbeats 4000000 in
theorem aIp (w : World) (c : Con) (a b : Body) (hc : Okn c) (ha : Okb a) (hb : Okb b) :
  Calls Tryz.prog 260 #[.agg (cH c).toArray, (.agg (aF a).toArray), (.agg (aF b).toArray)] w (fun ex w' => ∃ v, ex = .returned v ∧ (fun v w' => v = .int .i64 (wE c a b) ∧ Below w.heap.size w w') v w') := by
 have hr := yE hc ha hb
 have hv1 := ha.v
 have hv2 := hb.v
 have hx := hc.x
 have hy := hc.y
 refine aI #[.tmp 6] 41 Tryz.func260 rfl Tryz.results260 Tryz.ntmps260 rfl ?_
 have M0 := Mem.refl w
 refine aE (aA (bK (.agg (List.toArray _)) M0 rfl rfl rfl (fun b1 w1 M1 => (bK (.agg (List.toArray _)) M1 rfl rfl rfl (fun b2 w2 M2 => (bK (.agg (List.toArray _)) M2 rfl rfl rfl (fun b3 w3 M3 => (bI rfl rfl (aB (aC (aE ?_)))))))))))
 refine bQ [(0, 0), (1, 0), (2, 1), (3, 0), (4, 0), (5, 0), (6, 1), (7, 0), (8, 0), (9, 0), (10, 0), (11, 1), (12, 0), (13, 0), (14, 0), (15, 1), (16, 0), (17, 0), (18, 0), (19, 0)] mixed rfl (by kernel_rfl) (fun w4 hb4 hh4 => ?_)
 have M4 := M3.drew hb4 hh4
 refine aV rfl rfl rfl (fun _ => aD 8 dV rfl) (aV rfl rfl rfl (fun _ => aD 0 cR rfl) (bS rfl rfl rfl (aM 2 (.int _ _) aT M4 rfl rfl rfl) (aV rfl rfl rfl (fun _ => aZ dQ Tryz.underlying2 rfl (fH _ (by omega) (by omega))) (aV rfl rfl rfl (fun _ => aD 8 dV rfl) ?_))))
 refine aV rfl rfl rfl (fun _ => aD 0 cR rfl) (bS rfl rfl rfl (aM 1 (.int _ _) aT M4 rfl rfl rfl) (aV rfl rfl rfl (fun _ => aZ dQ Tryz.underlying2 rfl (fH _ (by omega) (by omega))) (aV rfl rfl rfl (fun _ => fU rfl rfl (by omega) (by omega)) (aV rfl rfl rfl (fun _ => aD 8 dV rfl) ?_))))
 refine aV rfl rfl rfl (fun _ => aD 1 cO rfl) (bS rfl rfl rfl (aM 2 (.int _ _) aT M4 rfl rfl rfl) (aV rfl rfl rfl (fun _ => aZ dQ Tryz.underlying2 rfl (fH _ (by omega) (by omega))) (aV rfl rfl rfl (fun _ => aD 8 dV rfl) (aV rfl rfl rfl (fun _ => aD 1 cO rfl) ?_))))
 refine bS rfl rfl rfl (aM 1 (.int _ _) aT M4 rfl rfl rfl) (aV rfl rfl rfl (fun _ => aZ dQ Tryz.underlying2 rfl (fH _ (by omega) (by omega))) (aV rfl rfl rfl (fun _ => fU rfl rfl (by omega) (by omega)) (mA rfl rfl rfl (mA rfl rfl rfl (bX ?_)))))
 refine aC (aE (aA (aP rfl rfl (wq (aD 2 gX rfl) rfl (wq (aD 0 cR rfl) rfl (wq (aM 0 (.int _ _) aT M4 rfl rfl rfl) rfl (wq (aZ dQ Tryz.underlying2 rfl (fH _ (by omega) (by omega))) rfl ?_)))))))
 refine wq (fB rfl rfl (by omega) (by omega)) rfl (aP rfl rfl (wq (aD 2 gX rfl) rfl (wq (aD 1 cO rfl) rfl (wq (aM 0 (.int _ _) aT M4 rfl rfl rfl) rfl (wq (aZ dQ Tryz.underlying2 rfl (fH _ (by omega) (by omega))) rfl ?_)))))
 refine wq (fB rfl rfl (by omega) (by omega)) rfl (wq (aY rfl rfl (by omega) (by omega)) rfl (wq (jQ rfl rfl (by decide)) rfl (aK 40 (.int .i64 (wE c a b)) (iE (pL _)) (bI rfl rfl (aB (aC (aO ?_)))))))
 refine cD (.int _ _) rfl ?_
 exact ⟨rfl, M4.below⟩
set_option maxHeartbeats 4000000 in
theorem aQr (w : World) (a b : Body) :
  Calls Tryz.prog 261 #[(.agg (aF a).toArray), (.agg (aF b).toArray)] w (fun ex w' => ∃ v, ex = .returned v ∧ (fun v w' => v = .int .i32 (max a.bounce b.bounce) ∧ Below w.heap.size w w') v w') := by
 refine aI #[.tmp 4] 10 Tryz.func261 rfl Tryz.results261 Tryz.ntmps261 rfl ?_
 have M0 := Mem.refl w
 refine aE (aA (bK (.agg (List.toArray _)) M0 rfl rfl rfl (fun b1 w1 M1 => (bK (.agg (List.toArray _)) M1 rfl rfl rfl (fun b2 w2 M2 => (bI rfl rfl (aB (aC (aE (aA (wq (aD 5 mY rfl) rfl ?_)))))))))))
 refine wq (aM 0 (.int _ _) aT M2 rfl rfl rfl) rfl (wq (aD 5 mY rfl) rfl (wq (aM 1 (.int _ _) aT M2 rfl rfl rfl) rfl (wq (qB rfl rfl ) rfl (bI rfl rfl (aB (aC (aO ?_)))))))
 refine cD (.int _ _) rfl ?_
 exact ⟨iE (by first | rfl | omega), M2.below⟩
set_option maxHeartbeats 4000000 in
theorem aKw (w : World) (c : Con) (a b : Body) (hc : Okn c) (ha : Okb a) (hb : Okb b) :
  Calls Tryz.prog 243 #[.agg (cH c).toArray, (.agg (aF a).toArray), (.agg (aF b).toArray)] w (fun ex w' => ∃ v, ex = .returned v ∧ (fun v w' => v = .int .i64 (kP c a b) ∧ Below w.heap.size w w') v w') := by
 have hr := yE hc ha hb
 have hm1 := ha.m
 have hm2 := hb.m
 have hc1 := ha.c
 have hc2 := hb.c
 refine aI #[.tmp 6] 41 Tryz.func243 rfl Tryz.results243 Tryz.ntmps243 rfl ?_
 have M0 := Mem.refl w
 refine aE (aA (bK (.agg (List.toArray _)) M0 rfl rfl rfl (fun b1 w1 M1 => (bK (.agg (List.toArray _)) M1 rfl rfl rfl (fun b2 w2 M2 => (bK (.agg (List.toArray _)) M2 rfl rfl rfl (fun b3 w3 M3 => (bI rfl rfl (aB (aC (aE (aA ?_))))))))))))
 refine wq (aX 0 eQ M3 rfl rfl rfl) rfl (wq (aX 1 bO M3 rfl rfl rfl) rfl (wq (aX 2 bO M3 rfl rfl rfl) rfl (bY bOt rfl rfl (aIp _ c a b hc ha hb) ?_)))
 rintro v4 w4 ⟨rfl, hb4⟩
 have M4 := M3.callB hb4
 refine bI rfl rfl (aB (aC (aE (aA (wq (aD 4 eH rfl) rfl (wq (aM 1 (.int _ _) aT M4 rfl rfl rfl) rfl (wq (aZ dQ Tryz.underlying2 rfl (fH _ (by omega) (by omega))) rfl (wq (aD 4 eH rfl) rfl ?_))))))))
 refine wq (aM 2 (.int _ _) aT M4 rfl rfl rfl) rfl (wq (aZ dQ Tryz.underlying2 rfl (fH _ (by omega) (by omega))) rfl (wq (aY rfl rfl (by omega) (by omega)) rfl (bI rfl rfl (aB (aC (aE (aE (aA (aP rfl rfl ?_)))))))))
 refine cZ rfl rfl rfl rfl (wq (aH (.bool (decide _)) rfl) rfl ?_)
 refine dM 24 rfl (fun g24 => ?_) (fun g24 => ?_)
 ·refine aN rfl rfl (aN rfl rfl (wq (bR true (.bool true) rfl rfl) rfl (aB (aC (cF rfl (aE (aA ?_)))))))
  refine bI rfl rfl (aB (aC (aO (cM (cD (.int _ _) rfl ?_)))))
  exact ⟨iE (by unfold kP; rw [if_pos (.inl (by omega))]), M4.below⟩
 ·refine aP rfl rfl (cZ rfl rfl rfl rfl (wq (bR false (.bool (decide _)) rfl rfl) rfl (aB (aC ?_))))
  refine aW rfl (fun h27 => ?_) (fun h27 => ?_)
  ·refine aE (aA (bI rfl rfl (aB (aC (aO (cM (cD (.int _ _) rfl ?_)))))))
   exact ⟨iE (by unfold kP; rw [if_pos (.inr (by omega))]), M4.below⟩
  ·have hsp := aDk hc ha hb (by omega)
   refine aL (aC (aE (aA (aP rfl rfl (wq (pX rfl (fH _ (by omega) (by omega))) rfl (wq (aX 1 bO M4 rfl rfl rfl) rfl (wq (aX 2 bO M4 rfl rfl rfl) rfl (bY bPk rfl rfl (aQr _ a b) ?_))))))))
   rintro v5 w5 ⟨rfl, hb5⟩
   have M5 := M4.callB hb5
   refine wq (aZ dQ Tryz.underlying2 rfl (fH _ (by omega) (by omega))) rfl (wq (aY rfl rfl (by omega) (by omega)) rfl (aP rfl rfl (bY aJo rfl rfl (aIq _ (-wE c a b) (65536 + max a.bounce b.bounce) (a.mass + b.mass) (by omega) (by omega) (by omega) (by omega) (by omega) (by omega) (by omega)) ?_)))
   rintro v6 w6 ⟨rfl, hb6⟩
   have M6 := M5.callB hb6
   refine wq (aH (.tuple (List.toArray _)) rfl) rfl (wq (bN (.int _ _) rfl rfl) rfl (wq (bN (.int _ _) rfl rfl) rfl (bI rfl rfl (bI rfl rfl (aB (aC (aE (aA ?_))))))))
   refine aP rfl rfl (bI rfl rfl (aB (aC (aO (cD (.int _ _) rfl ?_)))))
   exact ⟨iE (by unfold kP; rw [if_neg (fun g => by omega)]), M6.below⟩
set_option maxHeartbeats 4000000 in
theorem aAe (w : World) (k n : Int) (b : Nat) (K : Rd w 1 (some ⟨b, 0, none⟩) 1 [[.int .i64 k]]) (hk : 0 ≤ k ∧ k ≤ 134217728) (hn : -65536 ≤ n ∧ n ≤ 65536) (hp : -8796093022208 ≤ k * n ∧ k * n ≤ 8796093022208) :
  Calls Tryz.prog 263 #[.int .i32 n, .pointer (some ⟨b, 0, none⟩)] w (fun ex w' => ∃ v, ex = .returned v ∧ (fun v w' => v = .int .i64 (k * n / 65536) ∧ Below w.heap.size w w') v w') := by
 rw [← gM b]
 refine aI #[.tmp 3] 8 Tryz.func263 rfl Tryz.results263 Tryz.ntmps263 rfl ?_
 have M0 := Mem.refl w
 refine aE (aA (bI rfl rfl (aB (aC (aE (aA (wq (dY (o := 0) (.int _ _) iX (K.mem M0) (show ([[.int .i64 k]] : List (List Value))[0]? = some [.int .i64 k] from rfl) rfl rfl) rfl (aP rfl rfl (wq (aZ dQ Tryz.underlying2 rfl (fH _ (by omega) (by omega))) rfl ?_)))))))))
 refine bY bCm rfl rfl (aAf _ k n (by omega) (by omega) (by omega) (by omega) (by omega)) ?_
 rintro v1 w1 ⟨rfl, hb1⟩
 have M1 := M0.callB hb1
 refine bI rfl rfl (aB (aC (aO (cD (.int _ _) rfl ?_))))
 exact ⟨rfl, M1.below⟩
set_option maxHeartbeats 4000000 in
theorem aDy (w : World) (j m x y : Int) (hj : 0 ≤ j ∧ j ≤ 8796093022208) (hm : 0 ≤ m ∧ m ≤ 1048576) (hp : 0 ≤ j * m ∧ j * m ≤ 8796093022208) (hx : -65536 ≤ x ∧ x ≤ 65536) (hy : -65536 ≤ y ∧ y ≤ 65536) :
  Calls Tryz.prog 244 #[.int .i64 j, .int .i32 m, .agg [.int .i32 x, .int .i32 y].toArray] w (fun ex w' => ∃ v, ex = .returned v ∧ (fun v w' => v = .tuple #[.int .i64 (nG j m x), .int .i64 (nG j m y)] ∧ Below w.heap.size w w') v w') := by
 have r1 := kK hp hx
 have r2 := kK hp hy
 have hkk := r1.1
 refine aI #[.tmp 6, .tmp 7] 23 Tryz.func244 rfl Tryz.results244 Tryz.ntmps244 rfl ?_
 have M0 := Mem.refl w
 refine aE (aA (bK (.agg (List.toArray _)) M0 rfl rfl rfl (fun b1 w1 M1 => (bI rfl rfl (bI rfl rfl (aB (aC (aE (aA (aP rfl rfl ?_))))))))))
 refine aP rfl rfl (wq (aZ dQ Tryz.underlying2 rfl (fH _ (by omega) (by omega))) rfl (bY bCm rfl rfl (aAf _ j m (by omega) (by omega) (by omega) (by omega) (by omega)) ?_))
 rintro v2 w2 ⟨rfl, hb2⟩
 have M2 := M1.callB hb2
 refine aS aDl M2 rfl rfl (fun b3 w3 M3 => (dD 1 (.int _ _) iX M3 rfl rfl rfl rfl rfl rfl (fun w4 M4 => (aB (aC (aE (aA (wq (dR [] [.pointer _] rfl rfl) rfl (wq (aJ (.func _ _ _) rfl) rfl (aB (aC (aE ?_))))))))))))
 refine bQ [(0, 0), (1, 0), (2, 1), (4, 0), (5, 0), (6, 1), (3, 2), (7, 2), (8, 0), (9, 0)] mixed rfl (by kernel_rfl) (fun w5 hb5 hh5 => ?_)
 have M5 := M4.drew hb5 hh5
 refine aV rfl rfl rfl (fun _ => aH (.func _ _ _) rfl) (aV rfl rfl rfl (fun _ => aD 0 cR rfl) (bS rfl rfl rfl (aM 0 (.int _ _) aT M5 rfl rfl rfl) (aV rfl rfl rfl (fun _ => aH (.func _ _ _) rfl) (aV rfl rfl rfl (fun _ => aD 1 cO rfl) (bS rfl rfl rfl (aM 0 (.int _ _) aT M5 rfl rfl rfl) ?_)))))
 refine dT [false, true] rfl (by kernel_rfl) (bY bDs rfl rfl (aAe _ (j * m / 65536) x b3 (pF 1 M5 rfl rfl) hkk hx r1.2.1) ?_)
 rintro v6 w6 ⟨rfl, hb6⟩
 have M6 := M5.callB hb6
 refine aB (aC ⟨(dZ (bM rfl (aM 0 (.int _ _) aT M6 rfl rfl rfl)) dU), ?_⟩)
 refine dT [true] rfl (by kernel_rfl) (bY bDs rfl rfl (aAe _ (j * m / 65536) y b3 (pF 1 M6 rfl rfl) hkk hy r2.2.1) ?_)
 rintro v7 w7 ⟨rfl, hb7⟩
 have M7 := M6.callB hb7
 refine aB (aC ⟨dU, ?_⟩)
 refine mA rfl rfl rfl (mA rfl rfl rfl (bX (aC (aO (gA (.int _ _) (.int _ _) rfl rfl ?_)))))
 exact ⟨rfl, M7.below⟩
set_option maxHeartbeats 4000000 in
theorem aCw (w : World) (a l : Int) (hl : 0 ≤ l ∧ l ≤ 2147483648) :
  Calls Tryz.prog 148 #[.int .i64 a, .int .i64 l] w (fun ex w' => ∃ v, ex = .returned v ∧ (fun v w' => v = .tuple #[.int .i64 (iS a l), .bool (decide (iS a l ≠ a))] ∧ Below w.heap.size w w') v w') := by
 refine aI #[.tmp 4, .tmp 5] 17 Tryz.func148 rfl Tryz.results148 Tryz.ntmps148 rfl ?_
 have M0 := Mem.refl w
 refine aE (aA (bI rfl rfl (wq (aJ (.bool false) rfl) rfl (aB (aC (aE (aA (aP rfl rfl (wq (pX rfl (fH _ (by omega) (by omega))) rfl ?_)))))))))
 refine aP rfl rfl (aP rfl rfl (wq (aDv rfl rfl ) rfl (wq (qB rfl rfl ) rfl (aK 12 (.int .i64 (iS a l)) rfl (bI rfl rfl ?_)))))
 refine aB (aC (aE (aA (aP rfl rfl (aP rfl rfl (aP rfl rfl (cZ rfl rfl rfl rfl (bI rfl rfl ?_))))))))
 refine wq (aJ (.bool (decide _)) rfl) rfl (aB (aC (aO (gA (.int _ _) (.bool (decide _)) rfl rfl ?_))))
 exact ⟨rfl, M0.below⟩
end Go.Proofs.YtaoaknafiegfoaaGreatDoor
