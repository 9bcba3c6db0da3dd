/- Part of the proof of the laws of this seat: Z1, Z1b, Z1c, Z1d, W3, Z2, W4, Z3, Z4, W5, W6. No conditions. -/
import Derived.Test.YtlmcphcgiclanaaGreatDoorK2
import Derived.Test.YtlmcphcgiclanaaGreatDoorK5
import Derived.Test.YtlmcphcgiclanaaGreatDoorK12
import Derived.Test.YtlmcphcgiclanaaGreatDoorK18
import Derived.Test.YtlmcphcgiclanaaGreatDoorK11
import Derived.Test.YtlmcphcgiclanaaGreatDoorK17
set_option linter.unusedVariables false
set_option linter.unusedSimpArgs false
set_option linter.unnecessarySimpa false
namespace Go.Proofs.YtlmcphcgiclanaaGreatDoor
open Go.Bil
open Go.RowKit (Below)
open Go.Proofs
set_option maxHeartbeats 8000000 in
theorem bDi (w : World) (n : Nat) (hn : n < 18446744073709551616) :
  Calls Tryz.prog 203 #[.int .u64 (n : Int)] w (fun ex w' => ∃ v, ex = .returned v ∧ (fun v w' => v = .int .u64 ((uJ n : Nat) : Int) ∧ Below w.heap.size w w') v w') := by
 refine aH #[.tmp 2] 32 Tryz.func203 rfl Tryz.results203 Tryz.ntmps203 rfl ?_
 have M0 := Mem.refl w
 refine aD (aA (bI rfl rfl (aB (aC (aD (aA (aV rfl rfl (bI rfl rfl (bI rfl rfl ?_)))))))))
 refine aB (aC (aD (aD (aA (aV rfl rfl (aB (aC (aU (dO (σ := Nat × Nat × Nat) [2] (fun (i, R, e) => [(8, .int .i64 (i : Int)), (3, .int .u64 ((n - R * R : Nat) : Int)), (4, .int .u64 ((R * e : Nat) : Int))]) (fun (i, R, e) w' => Iq n i R e ∧ Mem w [] [] w') (fun (i, R, e) => 32 - i) (0, 0, 4294967296) (bM rfl (bM (iv rfl (by simp)) (bM (iv rfl (by simp)) eP))) (⟨aUx hn, M0⟩) ?_)))))))))
 rintro ⟨i, R, e⟩ ρ1 w1 ⟨I, hM1⟩
 have hile := I.ile
 have hle := I.le
 refine aD (aA (cQ rfl rfl rfl rfl (aB (aC (aD ?_)))))
 refine aW rfl (fun h9 => ?_) (fun h9 => ?_)
 ·obtain ⟨f, hf1, hf2, hf3, hf4, hf5, hf6, hf7, hf8, hfy, hfn⟩ := aXz (by omega) I
  refine aL (aC (aD (aU (aD (aA (aV rfl rfl (bI rfl rfl (aB (aC (aD (aA (aV rfl rfl (wq (fX rfl rfl (by omega) (by omega)) rfl ?_)))))))))))))
  refine wq (gG rfl rfl (by omega)) rfl (aS 13 (.int .u64 ((f * f : Nat) : Int)) (iE ((aXs (2 * i) _ (by omega) (by omega)).trans (congrArg _ hf4))) (bI rfl rfl (aB (aC (aD (aA (aV rfl rfl (aV rfl rfl ?_))))))))
  refine aV rfl rfl (wq (dV (.int _ _) rfl rfl rfl) rfl (aS 17 (.int .u64 ((R * e + f * f : Nat) : Int)) (iE (by rw [rB]; omega)) (cQ rfl rfl rfl rfl (aB (aC ?_)))))
  refine aW rfl (fun h18 => ?_) (fun h18 => ?_)
  ·have h18' : R * e + f * f ≤ n - R * R := by omega
   refine aD (aA (aV rfl rfl (aV rfl rfl (aV rfl rfl (wq (dV (.int _ _) rfl rfl rfl) rfl (aS 22 (.int .u64 ((R * e + f * f : Nat) : Int)) (iE (by rw [rB]; omega)) ?_))))))
   refine wq (dV (.int _ _) rfl rfl rfl) rfl (aS 23 (.int .u64 ((n - (R + f) * (R + f) : Nat) : Int)) (iE (by rw [rB]; omega)) (bI rfl rfl (aB (aC (aA (aV rfl rfl (wq (gG rfl rfl (by decide)) rfl ?_)))))))
   refine aS 25 (.int .u64 ((R * f : Nat) : Int)) (iE ((aUb (R * e)).trans (congrArg _ hf5))) (aV rfl rfl (wq (dV (.int _ _) rfl rfl rfl) rfl (aS 27 (.int .u64 (((R + f) * f : Nat) : Int)) (iE (by rw [rB]; omega)) (bI rfl rfl (aB ?_)))))
   refine cU (aC (aA (wq (bL rfl rfl (by omega) (by omega)) rfl (aV rfl rfl (aB ?_)))))
   refine cI (i + 1, R + f, f) (bM rfl (bM rfl (bM rfl eP))) (cV rfl iZ) ?_ ?_
   ·exact ⟨hfy h18', hM1⟩
   ·(show 32 - (i + 1) < 32 - i; omega)
  ·have h18' : ¬ (R * e + f * f ≤ n - R * R) := by omega
   refine aA (aV rfl rfl (wq (gG rfl rfl (by decide)) rfl (aS 29 (.int .u64 ((R * f : Nat) : Int)) (iE ((aUb (R * e)).trans (congrArg _ hf5))) (bI rfl rfl (aB ?_)))))
   refine cU (aC (aA (wq (bL rfl rfl (by omega) (by omega)) rfl (aV rfl rfl (aB ?_)))))
   refine cI (i + 1, R, f) (bM rfl (bM rfl (bM rfl eP))) (cV rfl iZ) ?_ ?_
   ·exact ⟨hfn h18', hM1⟩
   ·(show 32 - (i + 1) < 32 - i; omega)
 ·obtain rfl : i = 32 := by omega
  refine cP (cZ (cX (fA (aC (aD (aA (aV rfl rfl ?_)))))))
  refine bI rfl rfl (aB (aC (aN (bV (.int _ _) rfl ?_))))
  exact ⟨iE (by rw [aVh I]), hM1.below⟩
set_option maxHeartbeats 4000000 in
theorem oH (w : World) (a b : Int × Int) (ha : I32 a) (hb : I32 b) :
  Calls Tryz.prog 200 #[(.agg (cL a).toArray), (.agg (cL b).toArray)] w (fun ex w' => ∃ v, ex = .returned v ∧ (fun v w' => v = .tuple #[.int .i64 (b.1 - a.1), .int .i64 (b.2 - a.2)] ∧ Below w.heap.size w w') v w') := by
 have hax := ha.x
 have hay := ha.y
 have hbx := hb.x
 have hby := hb.y
 refine aH #[.tmp 4, .tmp 5] 20 Tryz.func200 rfl Tryz.results200 Tryz.ntmps200 rfl ?_
 have M0 := Mem.refl w
 refine aD (aA (bN (.agg (List.toArray _)) M0 rfl rfl rfl (fun b1 w1 M1 => (bN (.agg (List.toArray _)) M1 rfl rfl rfl (fun b2 w2 M2 => (bI rfl rfl (bI rfl rfl (aB (aC (aD ?_))))))))))
 refine bX [(0, 0), (1, 1), (2, 0), (3, 0), (4, 1), (5, 0), (6, 0), (7, 0), (8, 1), (9, 0), (10, 0), (11, 1), (12, 0), (13, 0), (14, 0), (15, 0)] mixed rfl (by kernel_rfl) (fun w3 hb3 hh3 => ?_)
 have M3 := M2.drew hb3 hh3
 refine bA rfl rfl rfl (fun _ => aE 0 dJ rfl) (cD rfl rfl rfl (aO 1 (.int _ _) aT M3 rfl rfl rfl) (bA rfl rfl rfl (fun _ => bU fO Tryz.underlying2 rfl (kH _ (by omega) (by omega))) (bA rfl rfl rfl (fun _ => aE 0 dJ rfl) (cD rfl rfl rfl (aO 0 (.int _ _) aT M3 rfl rfl rfl) ?_))))
 refine bA rfl rfl rfl (fun _ => bU fO Tryz.underlying2 rfl (kH _ (by omega) (by omega))) (bA rfl rfl rfl (fun _ => mK rfl rfl (by omega) (by omega)) (bA rfl rfl rfl (fun _ => aE 1 dB rfl) (cD rfl rfl rfl (aO 1 (.int _ _) aT M3 rfl rfl rfl) (bA rfl rfl rfl (fun _ => bU fO Tryz.underlying2 rfl (kH _ (by omega) (by omega))) ?_))))
 refine bA rfl rfl rfl (fun _ => aE 1 dB rfl) (cD rfl rfl rfl (aO 0 (.int _ _) aT M3 rfl rfl rfl) (bA rfl rfl rfl (fun _ => bU fO Tryz.underlying2 rfl (kH _ (by omega) (by omega))) (bA rfl rfl rfl (fun _ => mK rfl rfl (by omega) (by omega)) (qC rfl rfl rfl (qC rfl rfl rfl ?_)))))
 refine cH (aC (aN (gY (.int _ _) (.int _ _) rfl rfl ?_)))
 exact ⟨rfl, M3.below⟩
set_option maxHeartbeats 4000000 in
theorem zG (w : World) (n : Int) (hn : wD n) :
  Calls Tryz.prog 201 #[.int .i64 n] w (fun ex w' => ∃ v, ex = .returned v ∧ (fun v w' => v = .int .u64 ((n.natAbs * n.natAbs : Nat) : Int) ∧ Below w.heap.size w w') v w') := by
 have hlt := (wJ hn hn).2.1
 unfold wD at hn
 refine aH #[.tmp 2] 12 Tryz.func201 rfl Tryz.results201 Tryz.ntmps201 rfl ?_
 have M0 := Mem.refl w
 refine aD (aA (bI rfl rfl (aB (aC (aD (aD (aA (aV rfl rfl (cQ rfl rfl rfl rfl (aB (aC ?_)))))))))))
 refine aW rfl (fun h4 => ?_) (fun h4 => ?_)
 ·refine aA (aV rfl rfl (wq (xZ rfl) rfl (aS 6 (.int .i64 (-n)) (iE (kH _ (by omega) (by omega))) (bI rfl rfl (aB (aC (aD (aA ?_))))))))
  refine aV rfl rfl (wq (dQ us2 Tryz.underlying170 rfl) rfl (aS 8 (.int .u64 ((n.natAbs : Nat) : Int)) (iE (by rw [rB]; omega)) (aV rfl rfl (wq (dQ us2 Tryz.underlying170 rfl) rfl (aS 10 (.int .u64 ((n.natAbs : Nat) : Int)) (iE (by rw [rB]; omega)) ?_)))))
  refine wq (dV (.int _ _) rfl rfl rfl) rfl (aS 11 (.int .u64 ((n.natAbs * n.natAbs : Nat) : Int)) (iE (aOj _ _ (by omega))) (bI rfl rfl (aB (aC (aN (bV (.int _ _) rfl ?_))))))
  exact ⟨rfl, M0.below⟩
 ·refine aL (aC (aD (aA (aV rfl rfl (wq (dQ us2 Tryz.underlying170 rfl) rfl (aS 8 (.int .u64 ((n.natAbs : Nat) : Int)) (iE (by rw [rB]; omega)) (aV rfl rfl (wq (dQ us2 Tryz.underlying170 rfl) rfl ?_))))))))
  refine aS 10 (.int .u64 ((n.natAbs : Nat) : Int)) (iE (by rw [rB]; omega)) (wq (dV (.int _ _) rfl rfl rfl) rfl (aS 11 (.int .u64 ((n.natAbs * n.natAbs : Nat) : Int)) (iE (aOj _ _ (by omega))) (bI rfl rfl (aB (aC (aN (bV (.int _ _) rfl ?_)))))))
  exact ⟨rfl, M0.below⟩
set_option maxHeartbeats 4000000 in
theorem nQ (w : World) (dx dy : Int) (hx : wD dx) (hy : wD dy) :
  Calls Tryz.prog 173 #[.int .i64 dx, .int .i64 dy] w (fun ex w' => ∃ v, ex = .returned v ∧ (fun v w' => v = .int .u64 ((lsq dx dy : Nat) : Int) ∧ Below w.heap.size w w') v w') := by
 have hl := wJ hx hy
 refine aH #[.tmp 4] 10 Tryz.func173 rfl Tryz.results173 Tryz.ntmps173 rfl ?_
 have M0 := Mem.refl w
 refine aD (aA (bI rfl rfl (aB (aC (aD (aA (aV rfl rfl (cA aQz rfl rfl (zG _ dx hx) ?_))))))))
 rintro v1 w1 ⟨rfl, hb1⟩
 have M1 := M0.callB hb1
 refine aV rfl rfl (cA aQz rfl rfl (zG _ dy hy) ?_)
 rintro v2 w2 ⟨rfl, hb2⟩
 have M2 := M1.callB hb2
 refine wq (dV (.int _ _) rfl rfl rfl) rfl (aS 9 (.int .u64 ((lsq dx dy : Nat) : Int)) (iE (by rw [rB]; unfold lsq at *; omega)) (bI rfl rfl (aB (aC (aN (bV (.int _ _) rfl ?_))))))
 exact ⟨rfl, M2.below⟩
set_option maxHeartbeats 4000000 in
theorem yL (w : World) (dx dy : Int) (hx : wD dx) (hy : wD dy) :
  Calls Tryz.prog 175 #[.int .i64 dx, .int .i64 dy] w (fun ex w' => ∃ v, ex = .returned v ∧ (fun v w' => v = .int .i64 (len dx dy) ∧ Below w.heap.size w w') v w') := by
 have hl := aCc hx hy
 refine aH #[.tmp 4] 10 Tryz.func175 rfl Tryz.results175 Tryz.ntmps175 rfl ?_
 have M0 := Mem.refl w
 refine aD (aA (bI rfl rfl (aB (aC (aD (aA (aV rfl rfl (aV rfl rfl (cA aHn rfl rfl (nQ _ dx dy hx hy) ?_)))))))))
 rintro v1 w1 ⟨rfl, hb1⟩
 have M1 := M0.callB hb1
 refine cA bAc rfl rfl (bDi _ (lsq dx dy) (wJ hx hy).1) ?_
 rintro v2 w2 ⟨rfl, hb2⟩
 have M2 := M1.callB hb2
 refine wq (dQ aBt Tryz.underlying2 rfl) rfl (aS 9 (.int .i64 (len dx dy)) (iE (kH (len dx dy) (by omega) (by omega))) (bI rfl rfl (aB (aC (aN (bV (.int _ _) rfl ?_))))))
 exact ⟨rfl, M2.below⟩
set_option maxHeartbeats 4000000 in
theorem aBj (w : World) (a b : Int) (hb : 0 < b) (h0 : -1000000000000000000 ≤ a) (h1 : a ≤ 1000000000000000000) :
  Calls Tryz.prog 202 #[.int .i64 a, .int .i64 b] w (fun ex w' => ∃ v, ex = .returned v ∧ (fun v w' => v = .int .i64 (a / b) ∧ Below w.heap.size w w') v w') := by
 have hf := aEo (a := a) hb
 have hb1 := aIz a b
 refine aH #[.tmp 4] 16 Tryz.func202 rfl Tryz.results202 Tryz.ntmps202 rfl ?_
 have M0 := Mem.refl w
 refine aD (aA (bI rfl rfl (aB (aC (aD (aA (aV rfl rfl (aV rfl rfl (wq (aKt rfl rfl (by omega)) rfl ?_)))))))))
 refine aS 8 (.int .i64 (a.tdiv b)) (iE (kH _ (by omega) (by omega))) (bI rfl rfl (aB (aC (aD (aD (aA (aV rfl rfl (aV rfl rfl (wq (aYz rfl rfl (by omega)) rfl ?_)))))))))
 refine cQ rfl rfl rfl rfl (aB (aC ?_))
 refine aW rfl (fun h12 => ?_) (fun h12 => ?_)
 ·refine aA (aV rfl rfl (wq (mK rfl rfl (by omega) (by omega)) rfl (bI rfl rfl (aB (aC (aD (aA (aV rfl rfl ?_))))))))
  refine bI rfl rfl (aB (aC (aN (bV (.int _ _) rfl ?_))))
  exact ⟨iE (by first | exact hf.1 (by omega) | exact hf.2 (by omega)), M0.below⟩
 ·refine aL (aC (aD (aA (aV rfl rfl (bI rfl rfl (aB (aC (aN (bV (.int _ _) rfl ?_)))))))))
  exact ⟨iE (by first | exact hf.1 (by omega) | exact hf.2 (by omega)), M0.below⟩
set_option maxHeartbeats 4000000 in
theorem aSy (w : World) (dx dy : Int) (hx : wD dx) (hy : wD dy) :
  Calls Tryz.prog 174 #[.int .i64 dx, .int .i64 dy] w (fun ex w' => ∃ v, ex = .returned v ∧ (fun v w' => v = (.agg (cL (pI dx dy)).toArray) ∧ Below w.heap.size w w') v w') := by
 have hl := aCc hx hy
 have hxx := hx
 have hyy := hy
 unfold wD at hxx hyy
 refine aH #[.cell 4 38] 23 Tryz.func174 rfl Tryz.results174 Tryz.ntmps174 rfl ?_
 have M0 := Mem.refl w
 refine aD (aA (aR gD M0 rfl rfl (fun b1 w1 M1 => (aB (aC (aD (aA (aV rfl rfl (aV rfl rfl (cA aPg rfl rfl (yL _ dx dy hx hy) ?_))))))))))
 rintro v2 w2 ⟨rfl, hb2⟩
 have M2 := M1.callB hb2
 refine bI rfl rfl (aB (aC (aD (aD (aA (aV rfl rfl (cQ rfl rfl rfl rfl (aB (aC ?_)))))))))
 refine aW rfl (fun h10 => ?_) (fun h10 => ?_)
 ·refine aD (aA (wq (cN [(0, .int _ _)] _ eM rfl rfl) rfl (bE 0 _ bK M2 rfl rfl rfl rfl rfl (aQ rfl) rfl (fun w3 M3 => (aB (aC (aN (bZ (fU 0 bK M3 rfl rfl rfl ?_)))))))))
  exact ⟨by unfold pI; first | (rw [if_pos (by omega)]; rfl) | (rw [if_neg (by omega)]; rfl), M3.below⟩
 ·refine aL (aC (aD (aA (aV rfl rfl (wq (rU rfl rfl (by decide)) rfl (aS 13 (.int .i64 (dx * 65536)) (iE (aBg dx hx)) (aV rfl rfl (cA aRa rfl rfl (aBj _ (dx * 65536) (len dx dy) (by omega) (by omega) (by omega)) ?_))))))))
  rintro v4 w4 ⟨rfl, hb4⟩
  have M4 := M2.callB hb4
  refine wq (dQ us2 Tryz.underlying21 rfl) rfl (aV rfl rfl (wq (rU rfl rfl (by decide)) rfl (aS 18 (.int .i64 (dy * 65536)) (iE (aBg dy hy)) (aV rfl rfl (cA aRa rfl rfl (aBj _ (dy * 65536) (len dx dy) (by omega) (by omega) (by omega)) ?_)))))
  rintro v5 w5 ⟨rfl, hb5⟩
  have M5 := M4.callB hb5
  refine wq (dQ us2 Tryz.underlying21 rfl) rfl (wq (cN [(0, .int _ _), (1, .int _ _)] _ eM rfl rfl) rfl (bE 0 _ bK M5 rfl rfl rfl rfl rfl (aQ rfl) rfl (fun w6 M6 => (aB (aC (aN (fU 0 bK M6 rfl rfl rfl ?_)))))))
  exact ⟨by unfold pI; first | (rw [if_pos (by omega)]; rfl) | (rw [if_neg (by omega)]; rfl), M6.below⟩
set_option maxHeartbeats 4000000 in
theorem aNy (w : World) (b : Body) (hb : Okb b) :
  Calls Tryz.prog 220 #[(.agg (aF b).toArray)] w (fun ex w' => ∃ v, ex = .returned v ∧ (fun v w' => v = .tuple #[(.agg (cL (aEd b)).toArray), (.agg (cL (aFi b)).toArray)] ∧ Below w.heap.size w w') v w') := by
 have ha := hb.a
 have hp := hb.p
 refine aH #[.cell 2 38, .cell 3 38] 36 Tryz.func220 rfl Tryz.results220 Tryz.ntmps220 rfl ?_
 have M0 := Mem.refl w
 refine aD (aA (bN (.agg (List.toArray _)) M0 rfl rfl rfl (fun b1 w1 M1 => (aR gD M1 rfl rfl (fun b2 w2 M2 => (aR gD M2 rfl rfl (fun b3 w3 M3 => (aB (aC (aD (aA (wq (aE 6 fJ rfl) rfl ?_))))))))))))
 refine wq (aE 0 dJ rfl) rfl (wq (aO 0 (.int _ _) aT M3 rfl rfl rfl) rfl (wq (aE 2 jK rfl) rfl (wq (aE 0 dJ rfl) rfl (wq (aO 0 (.int _ _) aT M3 rfl rfl rfl) rfl (wq (kW rfl rfl (lI _ (by omega) (by omega))) rfl ?_)))))
 refine wq (aE 6 fJ rfl) rfl (wq (aE 1 dB rfl) rfl (wq (aO 0 (.int _ _) aT M3 rfl rfl rfl) rfl (wq (aE 2 jK rfl) rfl (wq (aE 1 dB rfl) rfl (wq (aO 0 (.int _ _) aT M3 rfl rfl rfl) rfl ?_)))))
 refine wq (kW rfl rfl (lI _ (by omega) (by omega))) rfl (wq (cN [(0, .int _ _), (1, .int _ _)] _ eM rfl rfl) rfl (bE 1 _ bK M3 rfl rfl rfl rfl rfl (aQ rfl) rfl (fun w4 M4 => (aB (aC (aD (aA (wq (aE 6 fJ rfl) rfl (wq (aE 0 dJ rfl) rfl ?_)))))))))
 refine wq (aO 0 (.int _ _) aT M4 rfl rfl rfl) rfl (wq (aE 2 jK rfl) rfl (wq (aE 0 dJ rfl) rfl (wq (aO 0 (.int _ _) aT M4 rfl rfl rfl) rfl (wq (iI rfl rfl (lI _ (by omega) (by omega))) rfl (wq (aE 6 fJ rfl) rfl ?_)))))
 refine wq (aE 1 dB rfl) rfl (wq (aO 0 (.int _ _) aT M4 rfl rfl rfl) rfl (wq (aE 2 jK rfl) rfl (wq (aE 1 dB rfl) rfl (wq (aO 0 (.int _ _) aT M4 rfl rfl rfl) rfl (wq (iI rfl rfl (lI _ (by omega) (by omega))) rfl ?_)))))
 refine wq (cN [(0, .int _ _), (1, .int _ _)] _ eM rfl rfl) rfl (bE 2 _ bK M4 rfl rfl rfl rfl rfl (aQ rfl) rfl (fun w5 M5 => (aB (aC (aD (bX [(0, 1), (1, 1), (2, 2), (3, 2)] mixed rfl (by kernel_rfl) (fun w6 hb6 hh6 => ?_)))))))
 have M6 := M5.drew hb6 hh6
 refine cD rfl rfl rfl (bB 1 bK M6 rfl rfl rfl) (cD rfl rfl rfl (bB 2 bK M6 rfl rfl rfl) (dU [false, true] rfl (by kernel_rfl) (bE 1 _ bK M6 rfl rfl rfl rfl rfl (aQ rfl) rfl (fun w7 M7 => ?_))))
 refine aB (aC ⟨(eX (bQ rfl (bB 2 bK M7 rfl rfl rfl)) dS), ?_⟩)
 refine dU [true] rfl (by kernel_rfl) (bE 2 _ bK M7 rfl rfl rfl rfl rfl (aQ rfl) rfl (fun w8 M8 => ?_))
 refine aB (aC ⟨dS, ?_⟩)
 refine cH (aC (aN (aLf 1 2 bK M8 rfl rfl rfl rfl rfl rfl ?_)))
 exact ⟨rfl, M8.below⟩
set_option maxHeartbeats 4000000 in
theorem aFb (w : World) (p q c : Pt) (h : SgI p q) (hc : PtI c) :
  Calls Tryz.prog 244 #[(.agg (cL p).toArray), (.agg (cL q).toArray), (.agg (cL c).toArray)] w (fun ex w' => ∃ v, ex = .returned v ∧ (fun v w' => v = .tuple #[.int .i64 (oB p q c), .int .i64 (lN p q)] ∧ Below w.heap.size w w') v w') := by
 have hD := rS h
 have hx := aMe h hc
 refine aH #[.tmp 6, .tmp 7] 42 Tryz.func244 rfl Tryz.results244 Tryz.ntmps244 rfl ?_
 have M0 := Mem.refl w
 refine aD (aA (bN (.agg (List.toArray _)) M0 rfl rfl rfl (fun b1 w1 M1 => (bN (.agg (List.toArray _)) M1 rfl rfl rfl (fun b2 w2 M2 => (bN (.agg (List.toArray _)) M2 rfl rfl rfl (fun b3 w3 M3 => (bI rfl rfl (bI rfl rfl ?_)))))))))
 refine aB (aC (aD (aA (wq (bB 0 bK M3 rfl rfl rfl) rfl (wq (bB 1 bK M3 rfl rfl rfl) rfl (cA yD rfl rfl (oH _ p q h.hp.i32 h.hq.i32) ?_))))))
 rintro v4 w4 ⟨rfl, hb4⟩
 have M4 := M3.callB hb4
 refine wq (aG (.tuple (List.toArray _)) rfl) rfl (wq (bH (.int _ _) rfl rfl) rfl (wq (bH (.int _ _) rfl rfl) rfl (bI rfl rfl (bI rfl rfl (aB (aC (aD (aA ?_))))))))
 refine wq (bB 0 bK M4 rfl rfl rfl) rfl (wq (bB 2 bK M4 rfl rfl rfl) rfl (cA yD rfl rfl (oH _ p c h.hp.i32 hc.i32) ?_))
 rintro v5 w5 ⟨rfl, hb5⟩
 have M5 := M4.callB hb5
 refine wq (aG (.tuple (List.toArray _)) rfl) rfl (wq (bH (.int _ _) rfl rfl) rfl (wq (bH (.int _ _) rfl rfl) rfl (bI rfl rfl (bI rfl rfl (aB (aC (aD (aA ?_))))))))
 refine aV rfl rfl (aV rfl rfl (wq (fX rfl rfl (by omega) (by omega)) rfl (aV rfl rfl (aV rfl rfl (wq (fX rfl rfl (by omega) (by omega)) rfl ?_)))))
 refine wq (bL rfl rfl (by omega) (by omega)) rfl (aS 30 (.int .i64 (lN p q)) rfl (bI rfl rfl (aB (aC (aD (aA (aV rfl rfl (aV rfl rfl ?_))))))))
 refine wq (fX rfl rfl (by omega) (by omega)) rfl (aV rfl rfl (aV rfl rfl (wq (fX rfl rfl (by omega) (by omega)) rfl (wq (bL rfl rfl (by omega) (by omega)) rfl (aV rfl rfl ?_)))))
 refine wq (yI rfl rfl ) rfl (wq (nM rfl rfl ) rfl (aV rfl rfl (bI rfl rfl (bI rfl rfl (aB (aC (aN ?_)))))))
 refine gY (.int _ _) (.int _ _) rfl rfl ?_
 exact ⟨rfl, M5.below⟩
set_option maxHeartbeats 4000000 in
theorem aAj (w : World) (f a n d : Int) (bn bd : Nat) (ha : -16777216 ≤ a ∧ a ≤ 16777216) (hn : 0 ≤ n) (hnd : n ≤ d) (hd0 : 0 < d) (hd : d ≤ 562949953421312) (h1 : -16777216 ≤ a * n / d ∧ a * n / d ≤ 16777216) (h2 : -1082130432 ≤ f + a * n / d ∧ f + a * n / d ≤ 1082130432) (K1 : Rd w 1 (some ⟨bn, 0, none⟩) 1 [[.int .i64 n]]) (K2 : Rd w 1 (some ⟨bd, 0, none⟩) 1 [[.int .i64 d]]) :
  Calls Tryz.prog 245 #[.int .i32 f, .int .i64 a, .pointer (some ⟨bn, 0, none⟩), .pointer (some ⟨bd, 0, none⟩)] w (fun ex w' => ∃ v, ex = .returned v ∧ (fun v w' => v = .int .i32 (f + a * n / d) ∧ Below w.heap.size w w') v w') := by
 rw [← eN bn, ← eN bd]
 refine aH #[.tmp 6] 20 Tryz.func245 rfl Tryz.results245 Tryz.ntmps245 rfl ?_
 have M0 := Mem.refl w
 refine aD (aA (bI rfl rfl (aB (aC (aD (aA (aV rfl rfl (wq (dR (o := 0) (.int _ _) lA (K1.mem M0) (show ([[.int .i64 n]] : List (List Value))[0]? = some [.int .i64 n] from rfl) rfl rfl) rfl (wq (dR (o := 0) (.int _ _) lA (K2.mem M0) (show ([[.int .i64 d]] : List (List Value))[0]? = some [.int .i64 d] from rfl) rfl rfl) rfl ?_)))))))))
 refine cA aDj rfl rfl (bAv _ a n d (by omega) hn hnd hd0 (by omega)) ?_
 rintro v1 w1 ⟨rfl, hb1⟩
 have M1 := M0.callB hb1
 refine wq (aG (.tuple (List.toArray _)) rfl) rfl (wq (bH (.int _ _) rfl rfl) rfl (wq (bH (.int _ _) rfl rfl) rfl (bI rfl rfl (bI rfl rfl (aB (aC (aD (aA ?_))))))))
 refine aV rfl rfl (aV rfl rfl (wq (bU us2 Tryz.underlying21 rfl (lI _ (by omega) (by omega))) rfl (wq (iI rfl rfl (lI _ (by omega) (by omega))) rfl (bI rfl rfl (aB (aC (aN ?_)))))))
 refine bV (.int _ _) rfl ?_
 exact ⟨rfl, M1.below⟩
set_option maxHeartbeats 4000000 in
theorem jU (w : World) (p q c : Pt) (h : SgI p q) (hc : PtI c) :
  Calls Tryz.prog 239 #[(.agg (cL p).toArray), (.agg (cL q).toArray), (.agg (cL c).toArray)] w (fun ex w' => ∃ v, ex = .returned v ∧ (fun v w' => v = (.agg (cL (dT p q c)).toArray) ∧ Below w.heap.size w w') v w') := by
 have hD := rS h
 have hn := aGn (c := c) h
 have hx := h.x
 have hy := h.y
 refine aH #[.cell 6 38] 40 Tryz.func239 rfl Tryz.results239 Tryz.ntmps239 rfl ?_
 have M0 := Mem.refl w
 refine aD (aA (bN (.agg (List.toArray _)) M0 rfl rfl rfl (fun b1 w1 M1 => (bN (.agg (List.toArray _)) M1 rfl rfl rfl (fun b2 w2 M2 => (bN (.agg (List.toArray _)) M2 rfl rfl rfl (fun b3 w3 M3 => (aR gD M3 rfl rfl (fun b4 w4 M4 => (aB (aC (aD (aA ?_)))))))))))))
 refine wq (bB 0 bK M4 rfl rfl rfl) rfl (wq (bB 1 bK M4 rfl rfl rfl) rfl (wq (bB 2 bK M4 rfl rfl rfl) rfl (cA bBa rfl rfl (aFb _ p q c h hc) ?_)))
 rintro v5 w5 ⟨rfl, hb5⟩
 have M5 := M4.callB hb5
 refine wq (aG (.tuple (List.toArray _)) rfl) rfl (wq (bH (.int _ _) rfl rfl) rfl (wq (bH (.int _ _) rfl rfl) rfl (aR xO M5 rfl rfl (fun b6 w6 M6 => (aR xO M6 rfl rfl (fun b7 w7 M7 => (dF 4 (.int _ _) lA M7 rfl rfl rfl rfl rfl rfl (fun w8 M8 => ?_))))))))
 refine dF 5 (.int _ _) lA M8 rfl rfl rfl rfl rfl rfl (fun w9 M9 => (aB (aC (aD (aD (aA (wq (aO 5 (.int _ _) lA M9 rfl rfl rfl) rfl (cQ rfl rfl rfl rfl (aB (aC ?_))))))))))
 refine aW rfl (fun h20 => ?_) (fun h20 => ?_)
 ·refine aD (aA (wq (bB 0 bK M9 rfl rfl rfl) rfl (bE 3 _ bK M9 rfl rfl rfl rfl rfl (aQ rfl) rfl (fun w10 M10 => (aB (aC (aN (bZ (fU 3 bK M10 rfl rfl rfl ?_)))))))))
  exact ⟨by unfold dT; first | (rw [if_pos h20]; rfl) | (rw [if_neg h20]; rfl), M10.below⟩
 ·have hnr := aGy (c := c) h h20
  refine aL (aC (aD (aA (wq (cR [] [.pointer _, .pointer _] rfl rfl) rfl (wq (aI (.func _ _ _) rfl) rfl (aB (aC (aD (aA (wq (bB 0 bK M9 rfl rfl rfl) rfl (wq (bB 1 bK M9 rfl rfl rfl) rfl ?_)))))))))))
  refine cA yD rfl rfl (oH _ p q h.hp.i32 h.hq.i32) ?_
  rintro v11 w11 ⟨rfl, hb11⟩
  have M11 := M9.callB hb11
  refine wq (aG (.tuple (List.toArray _)) rfl) rfl (wq (bH (.int _ _) rfl rfl) rfl (wq (bH (.int _ _) rfl rfl) rfl (bI rfl rfl (bI rfl rfl (aB (aC (aD ?_)))))))
  refine bX [(0, 0), (1, 0), (2, 1), (3, 0), (5, 0), (6, 0), (7, 1), (8, 0), (4, 2), (9, 2), (10, 0), (11, 2)] mixed rfl (by kernel_rfl) (fun w12 hb12 hh12 => ?_)
  have M12 := M11.drew hb12 hh12
  refine bA rfl rfl rfl (fun _ => aG (.func _ _ _) rfl) (bA rfl rfl rfl (fun _ => aE 0 dJ rfl) (cD rfl rfl rfl (aO 0 (.int _ _) aT M12 rfl rfl rfl) (gW rfl rfl rfl (bA rfl rfl rfl (fun _ => aG (.func _ _ _) rfl) (bA rfl rfl rfl (fun _ => aE 1 dB rfl) ?_)))))
  refine cD rfl rfl rfl (aO 0 (.int _ _) aT M12 rfl rfl rfl) (gW rfl rfl rfl (dU [false, true] rfl (by kernel_rfl) (cA aPz rfl rfl (aAj _ p.1 (q.1 - p.1) (oB p q c) (lN p q) b6 b7 (by omega) hn.1 hn.2 (by omega) (by omega) hnr.1.1 hnr.1.2 (lR 4 M12 rfl rfl) (lR 5 M12 rfl rfl)) ?_)))
  rintro v13 w13 ⟨rfl, hb13⟩
  have M13 := M12.callB hb13
  refine aB (aC ⟨(eX (bQ rfl (aO 0 (.int _ _) aT M13 rfl rfl rfl)) dS), ?_⟩)
  refine dU [true] rfl (by kernel_rfl) (cA aPz rfl rfl (aAj _ p.2 (q.2 - p.2) (oB p q c) (lN p q) b6 b7 (by omega) hn.1 hn.2 (by omega) (by omega) hnr.2.1 hnr.2.2 (lR 4 M13 rfl rfl) (lR 5 M13 rfl rfl)) ?_)
  rintro v14 w14 ⟨rfl, hb14⟩
  have M14 := M13.callB hb14
  refine aB (aC ⟨dS, ?_⟩)
  refine bA rfl rfl rfl (fun _ => cN [(0, .int _ _), (1, .int _ _)] _ eM rfl rfl) (dU [] rfl (by kernel_rfl) (bE 3 _ bK M14 rfl rfl rfl rfl rfl (aQ rfl) rfl (fun w15 M15 => ?_)))
  refine aB (aC ⟨dS, ?_⟩)
  refine cH (aC (aN (fU 3 bK M15 rfl rfl rfl ?_)))
  exact ⟨by unfold dT; first | (rw [if_pos h20]; rfl) | (rw [if_neg h20]; rfl), M15.below⟩
set_option maxHeartbeats 4000000 in
theorem vS (w : World) (s : Ch) (x y : Pt) (ba bb bl : Nat) (hx : PtI x) (hy : PtI y) (hO : Own [(some ba, bc (cL s.1) 38), (some bb, bc (cL s.2.1) 38), (some bl, bc [.int .u64 (s.2.2 : Int)] 170)] w) :
  Calls Tryz.prog 238 #[(.agg (cL x).toArray), (.agg (cL y).toArray), .pointer (some ⟨bl, 0, none⟩), .pointer (some ⟨ba, 0, none⟩), .pointer (some ⟨bb, 0, none⟩)] w (fun ex w' => ∃ v, ex = .returned v ∧ (fun v w' => v = .tuple #[] ∧ Mem w (bS [(some ba, bc (cL s.1) 38), (some bb, bc (cL s.2.1) 38), (some bl, bc [.int .u64 (s.2.2 : Int)] 170)]) [(some ba, bc (cL (fL s x y).1) 38), (some bb, bc (cL (fL s x y).2.1) 38), (some bl, bc [.int .u64 ((fL s x y).2.2 : Int)] 170)] w') v w') := by
 refine aH #[] 20 Tryz.func238 rfl Tryz.results238 Tryz.ntmps238 rfl ?_
 have M0 := hO.mem
 refine aD (aA (bN (.agg (List.toArray _)) M0 rfl rfl rfl (fun b1 w1 M1 => (bN (.agg (List.toArray _)) M1 rfl rfl rfl (fun b2 w2 M2 => (aB (aC (aD (aA (wq (bB 3 bK M2 rfl rfl rfl) rfl (wq (bB 4 bK M2 rfl rfl rfl) rfl ?_)))))))))))
 refine cA yD rfl rfl (oH _ x y hx.i32 hy.i32) ?_
 rintro v3 w3 ⟨rfl, hb3⟩
 have M3 := M2.callB hb3
 refine wq (bH (.int _ _) rfl rfl) rfl (wq (bH (.int _ _) rfl rfl) rfl (cA aHn rfl rfl (nQ _ (y.1 - x.1) (y.2 - x.2) (hx.inX hy) (hx.inY hy)) ?_))
 rintro v4 w4 ⟨rfl, hb4⟩
 have M4 := M3.callB hb4
 refine bI rfl rfl (aB (aC (aD (aA (aV rfl rfl (wq (aO 2 (.int _ _) oW M4 rfl rfl rfl) rfl (cQ rfl rfl rfl rfl (aB (aC ?_)))))))))
 refine aW rfl (fun h16 => ?_) (fun h16 => ?_)
 ·refine bX [(0, 1), (1, 1), (2, 0), (3, 2), (4, 2), (5, 2)] mixed rfl (by kernel_rfl) (fun w5 hb5 hh5 => ?_)
  have M5 := M4.drew hb5 hh5
  refine cD rfl rfl rfl (bB 3 bK M5 rfl rfl rfl) (cD rfl rfl rfl (bB 4 bK M5 rfl rfl rfl) (gW rfl rfl rfl (dU [false, true] rfl (by kernel_rfl) (bE 0 _ bK M5 rfl rfl rfl rfl rfl (aQ rfl) rfl (fun w6 M6 => ?_)))))
  refine aB (aC ⟨(eX (bQ rfl (bB 4 bK M6 rfl rfl rfl)) dS), ?_⟩)
  refine dU [true] rfl (by kernel_rfl) (bE 1 _ bK M6 rfl rfl rfl rfl rfl (aQ rfl) rfl (fun w7 M7 => ?_))
  refine aB (aC ⟨dS, ?_⟩)
  refine dU [] rfl (by kernel_rfl) (dF 2 (.int _ _) oW M7 rfl rfl rfl rfl rfl rfl (fun w8 M8 => ?_))
  refine aB (aC ⟨dS, ?_⟩)
  refine cH (iO ?_)
  exact ⟨rfl, by unfold fL; first | (rw [if_pos (by omega)]; exact M8.keep [true, true, true, false, false]) | (rw [if_neg (by omega)]; exact M8.keep [true, true, true, false, false])⟩
 ·refine aL (iO ?_)
  exact ⟨rfl, by unfold fL; first | (rw [if_pos (by omega)]; exact M4.keep [true, true, true, false, false]) | (rw [if_neg (by omega)]; exact M4.keep [true, true, true, false, false])⟩
set_option maxHeartbeats 8000000 in
theorem aIe (w : World) (ap aq bp bq : Pt) (h1 : SgI ap aq) (h2 : SgI bp bq) :
  Calls Tryz.prog 221 #[(.agg (cL ap).toArray), (.agg (cL aq).toArray), (.agg (cL bp).toArray), (.agg (cL bq).toArray)] w (fun ex w' => ∃ v, ex = .returned v ∧ (fun v w' => v = .tuple #[(.agg (cL (pG ap aq bp bq).1).toArray), (.agg (cL (pG ap aq bp bq).2.1).toArray), .int .u64 ((pG ap aq bp bq).2.2 : Int)] ∧ Below w.heap.size w w') v w') := by
 refine aH #[.cell 8 38, .cell 9 38, .cell 10 170] 48 Tryz.func221 rfl Tryz.results221 Tryz.ntmps221 rfl ?_
 have M0 := Mem.refl w
 refine aD (aA (bN (.agg (List.toArray _)) M0 rfl rfl rfl (fun b1 w1 M1 => (bN (.agg (List.toArray _)) M1 rfl rfl rfl (fun b2 w2 M2 => (bN (.agg (List.toArray _)) M2 rfl rfl rfl (fun b3 w3 M3 => (bN (.agg (List.toArray _)) M3 rfl rfl rfl (fun b4 w4 M4 => (aR gD M4 rfl rfl (fun b5 w5 M5 => ?_)))))))))))
 refine aR gD M5 rfl rfl (fun b6 w6 M6 => (aR aXv M6 rfl rfl (fun b7 w7 M7 => (aB (aC (aD (aA (dF 6 (.int _ _) oW M7 rfl rfl rfl rfl rfl rfl (fun w8 M8 => (aB (aC (aD (aA ?_)))))))))))))
 obtain ⟨s, hS⟩ : ∃ z, z = ch0 := ⟨_, rfl⟩
 have hC : ChI s := by rw [hS]; exact aTo
 have M9 : Mem _ _ [_, _, _, _, (some b5, bc (cL ch0.1) 38), (some b6, bc (cL ch0.2.1) 38), (some b7, bc [.int .u64 (ch0.2.2 : Int)] 170)] _ := M8
 rw [← hS] at M9
 refine wq (cR [] [.pointer _, .pointer _, .pointer _] rfl rfl) rfl (wq (aI (.func _ _ _) rfl) rfl (aB (aC (aD (aD (aA (wq (bB 0 bK M9 rfl rfl rfl) rfl (wq (bB 1 bK M9 rfl rfl rfl) rfl (wq (oK [.agg (List.toArray _), .agg (List.toArray _)] tA aKc rfl rfl (dI rfl)) rfl ?_)))))))))
 refine aV rfl rfl (aB (aC (aU (lH 3 (gP (aD (aA (cQ rfl rfl rfl rfl (kE 21 rfl (by first | decide | omega) ?_)))))))))
 refine aB (aC (aD (cK rfl (aL (aC (aD (aU (aD (aA (wq (mH 0 _ tA bK rfl rfl (by decide) (by decide) rfl rfl) rfl (aR gD M9 rfl rfl (fun b10 w10 M10 => (bE 7 _ bK M10 rfl rfl rfl rfl rfl (aQ rfl) rfl (fun w11 M11 => ?_))))))))))))))
 refine aB (aC (bX [(0, 0), (1, 1), (2, 1), (3, 1), (4, 1), (5, 2), (6, 2)] mixed rfl (by kernel_rfl) (fun w12 hb12 hh12 => ?_)))
 have M12 := M11.drew hb12 hh12
 refine bA rfl rfl rfl (fun _ => aG (.func _ _ _) rfl) (cD rfl rfl rfl (bB 7 bK M12 rfl rfl rfl) (cD rfl rfl rfl (bB 2 bK M12 rfl rfl rfl) (cD rfl rfl rfl (bB 3 bK M12 rfl rfl rfl) (cD rfl rfl rfl (bB 7 bK M12 rfl rfl rfl) (dU [true, true, true, false] rfl (by kernel_rfl) ?_)))))
 refine cA aCj rfl rfl (jU _ bp bq ap h2 h1.hp) ?_
 rintro v13 w13 ⟨rfl, hb13⟩
 have M13 := M12.callB hb13
 refine aB (aC ⟨(eX (bQ rfl (bB 7 bK M13 rfl rfl rfl)) dS), ?_⟩)
 refine dU [true] rfl (by kernel_rfl) (cA aCs rfl rfl (vS _ s ap (dT bp bq ap) _ _ _ h1.hp (eT h2) (M13.ownSeg 4 3)) ?_)
 rintro v14 w14 ⟨rfl, hM14⟩
 have M14 : Mem _ _ [_, _, _, _, _, _, _, _] _ := M13.seg 4 3 hM14
 obtain ⟨s, hs⟩ : ∃ z, z = fL s ap (dT bp bq ap) := ⟨_, rfl⟩
 rw [← hs] at M14
 replace hC := hC.step (x := ap) (y := (dT bp bq ap)) h1.hp (eT h2)
 rw [← hs] at hC
 replace hS := hs.trans (congrArg (fun z => fL z ap (dT bp bq ap)) hS)
 refine aB (aC ⟨dS, ?_⟩)
 refine cH (cU (aC (aA (wq (bL rfl rfl (by first | decide | omega) (by first | decide | omega)) rfl (aS 30 (.int .i64 1) (iE (by first | decide | omega)) (aV rfl rfl ?_))))))
 refine aB (aC (gP (aD (aA (cQ rfl rfl rfl rfl (kE 21 rfl (by first | decide | omega) (aB (aC (aD ?_)))))))))
 refine cK rfl (aL (aC (aD (aU (aD (aA (wq (mH 1 _ tA bK rfl rfl (by decide) (by decide) rfl rfl) rfl (aR gD M14 rfl rfl (fun b15 w15 M15 => (bE 8 _ bK M15 rfl rfl rfl rfl rfl (aQ rfl) rfl (fun w16 M16 => (aB (aC ?_)))))))))))))
 refine bX [(0, 0), (1, 1), (2, 1), (3, 1), (4, 1), (5, 2), (6, 2)] mixed rfl (by kernel_rfl) (fun w17 hb17 hh17 => ?_)
 have M17 := M16.drew hb17 hh17
 refine bA rfl rfl rfl (fun _ => aG (.func _ _ _) rfl) (cD rfl rfl rfl (bB 8 bK M17 rfl rfl rfl) (cD rfl rfl rfl (bB 2 bK M17 rfl rfl rfl) (cD rfl rfl rfl (bB 3 bK M17 rfl rfl rfl) (cD rfl rfl rfl (bB 8 bK M17 rfl rfl rfl) (dU [true, true, true, false] rfl (by kernel_rfl) ?_)))))
 refine cA aCj rfl rfl (jU _ bp bq aq h2 h1.hq) ?_
 rintro v18 w18 ⟨rfl, hb18⟩
 have M18 := M17.callB hb18
 refine aB (aC ⟨(eX (bQ rfl (bB 8 bK M18 rfl rfl rfl)) dS), ?_⟩)
 refine dU [true] rfl (by kernel_rfl) (cA aCs rfl rfl (vS _ s aq (dT bp bq aq) _ _ _ h1.hq (eT h2) (M18.ownSeg 4 3)) ?_)
 rintro v19 w19 ⟨rfl, hM19⟩
 have M19 : Mem _ _ [_, _, _, _, _, _, _, _, _] _ := M18.seg 4 3 hM19
 obtain ⟨s, hs⟩ : ∃ z, z = fL s aq (dT bp bq aq) := ⟨_, rfl⟩
 rw [← hs] at M19
 replace hC := hC.step (x := aq) (y := (dT bp bq aq)) h1.hq (eT h2)
 rw [← hs] at hC
 replace hS := hs.trans (congrArg (fun z => fL z aq (dT bp bq aq)) hS)
 refine aB (aC ⟨dS, ?_⟩)
 refine cH (cU (aC (aA (wq (bL rfl rfl (by first | decide | omega) (by first | decide | omega)) rfl (aS 30 (.int .i64 2) (iE (by first | decide | omega)) (aV rfl rfl ?_))))))
 refine aB (aC (gP (aD (aA (cQ rfl rfl rfl rfl (sX 21 rfl (by first | decide | omega) (aB (aC (aD ?_)))))))))
 refine bR rfl (cP (cZ (cZ (fA (aC (aD (aD (aA (wq (bB 2 bK M19 rfl rfl rfl) rfl ?_)))))))))
 refine wq (bB 3 bK M19 rfl rfl rfl) rfl (wq (oK [.agg (List.toArray _), .agg (List.toArray _)] tA aKc rfl rfl (dI rfl)) rfl (aV rfl rfl (aB (aC (aU (lH 3 (gP (aD (aA ?_)))))))))
 refine cQ rfl rfl rfl rfl (kE 35 rfl (by first | decide | omega) (aB (aC (aD (cK rfl (aL (aC (aD (aU (aD (aA (wq (mH 0 _ tA bK rfl rfl (by decide) (by decide) rfl rfl) rfl ?_))))))))))))
 refine aR gD M19 rfl rfl (fun b20 w20 M20 => (bE 9 _ bK M20 rfl rfl rfl rfl rfl (aQ rfl) rfl (fun w21 M21 => (aB (aC (bX [(0, 0), (1, 1), (2, 1), (3, 1), (5, 1), (4, 2), (6, 2)] mixed rfl (by kernel_rfl) (fun w22 hb22 hh22 => ?_)))))))
 have M22 := M21.drew hb22 hh22
 refine bA rfl rfl rfl (fun _ => aG (.func _ _ _) rfl) (cD rfl rfl rfl (bB 0 bK M22 rfl rfl rfl) (cD rfl rfl rfl (bB 1 bK M22 rfl rfl rfl) (cD rfl rfl rfl (bB 9 bK M22 rfl rfl rfl) (cD rfl rfl rfl (bB 9 bK M22 rfl rfl rfl) (dU [false, true, true, true] rfl (by kernel_rfl) ?_)))))
 refine cA aCj rfl rfl (jU _ ap aq bp h1 h2.hp) ?_
 rintro v23 w23 ⟨rfl, hb23⟩
 have M23 := M22.callB hb23
 refine aB (aC ⟨(eX (bQ rfl (bB 9 bK M23 rfl rfl rfl)) dS), ?_⟩)
 refine dU [true] rfl (by kernel_rfl) (cA aCs rfl rfl (vS _ s (dT ap aq bp) bp _ _ _ (eT h1) h2.hp (M23.ownSeg 4 3)) ?_)
 rintro v24 w24 ⟨rfl, hM24⟩
 have M24 : Mem _ _ [_, _, _, _, _, _, _, _, _, _] _ := M23.seg 4 3 hM24
 obtain ⟨s, hs⟩ : ∃ z, z = fL s (dT ap aq bp) bp := ⟨_, rfl⟩
 rw [← hs] at M24
 replace hC := hC.step (x := (dT ap aq bp)) (y := bp) (eT h1) h2.hp
 rw [← hs] at hC
 replace hS := hs.trans (congrArg (fun z => fL z (dT ap aq bp) bp) hS)
 refine aB (aC ⟨dS, ?_⟩)
 refine cH (cU (aC (aA (wq (bL rfl rfl (by first | decide | omega) (by first | decide | omega)) rfl (aS 44 (.int .i64 1) (iE (by first | decide | omega)) (aV rfl rfl ?_))))))
 refine aB (aC (gP (aD (aA (cQ rfl rfl rfl rfl (kE 35 rfl (by first | decide | omega) (aB (aC (aD ?_)))))))))
 refine cK rfl (aL (aC (aD (aU (aD (aA (wq (mH 1 _ tA bK rfl rfl (by decide) (by decide) rfl rfl) rfl (aR gD M24 rfl rfl (fun b25 w25 M25 => (bE 10 _ bK M25 rfl rfl rfl rfl rfl (aQ rfl) rfl (fun w26 M26 => (aB (aC ?_)))))))))))))
 refine bX [(0, 0), (1, 1), (2, 1), (3, 1), (5, 1), (4, 2), (6, 2)] mixed rfl (by kernel_rfl) (fun w27 hb27 hh27 => ?_)
 have M27 := M26.drew hb27 hh27
 refine bA rfl rfl rfl (fun _ => aG (.func _ _ _) rfl) (cD rfl rfl rfl (bB 0 bK M27 rfl rfl rfl) (cD rfl rfl rfl (bB 1 bK M27 rfl rfl rfl) (cD rfl rfl rfl (bB 10 bK M27 rfl rfl rfl) (cD rfl rfl rfl (bB 10 bK M27 rfl rfl rfl) (dU [false, true, true, true] rfl (by kernel_rfl) ?_)))))
 refine cA aCj rfl rfl (jU _ ap aq bq h1 h2.hq) ?_
 rintro v28 w28 ⟨rfl, hb28⟩
 have M28 := M27.callB hb28
 refine aB (aC ⟨(eX (bQ rfl (bB 10 bK M28 rfl rfl rfl)) dS), ?_⟩)
 refine dU [true] rfl (by kernel_rfl) (cA aCs rfl rfl (vS _ s (dT ap aq bq) bq _ _ _ (eT h1) h2.hq (M28.ownSeg 4 3)) ?_)
 rintro v29 w29 ⟨rfl, hM29⟩
 have M29 : Mem _ _ [_, _, _, _, _, _, _, _, _, _, _] _ := M28.seg 4 3 hM29
 obtain ⟨s, hs⟩ : ∃ z, z = fL s (dT ap aq bq) bq := ⟨_, rfl⟩
 rw [← hs] at M29
 replace hC := hC.step (x := (dT ap aq bq)) (y := bq) (eT h1) h2.hq
 rw [← hs] at hC
 replace hS := hs.trans (congrArg (fun z => fL z (dT ap aq bq) bq) hS)
 refine aB (aC ⟨dS, ?_⟩)
 refine cH (cU (aC (aA (wq (bL rfl rfl (by first | decide | omega) (by first | decide | omega)) rfl (aS 44 (.int .i64 2) (iE (by first | decide | omega)) (aV rfl rfl ?_))))))
 refine aB (aC (gP (aD (aA (cQ rfl rfl rfl rfl (sX 35 rfl (by first | decide | omega) (aB (aC (aD ?_)))))))))
 refine bR rfl (cP (cZ (cZ (fA (aC (aD (bX [(0, 1), (1, 1), (2, 1), (3, 2), (4, 2), (5, 2)] mixed rfl (by kernel_rfl) (fun w30 hb30 hh30 => ?_))))))))
 have M30 := M29.drew hb30 hh30
 refine cD rfl rfl rfl (bB 4 bK M30 rfl rfl rfl) (cD rfl rfl rfl (bB 5 bK M30 rfl rfl rfl) (cD rfl rfl rfl (aO 6 (.int _ _) oW M30 rfl rfl rfl) (dU [false, false, true] rfl (by kernel_rfl) (bE 4 _ bK M30 rfl rfl rfl rfl rfl (aQ rfl) rfl (fun w31 M31 => ?_)))))
 refine aB (aC ⟨(eX (bQ rfl (aO 6 (.int _ _) oW M31 rfl rfl rfl)) (eX (bQ rfl (bB 5 bK M31 rfl rfl rfl)) dS)), ?_⟩)
 refine dU [false, true] rfl (by kernel_rfl) (bE 5 _ bK M31 rfl rfl rfl rfl rfl (aQ rfl) rfl (fun w32 M32 => ?_))
 refine aB (aC ⟨(eX (bQ rfl (aO 6 (.int _ _) oW M32 rfl rfl rfl)) dS), ?_⟩)
 refine dU [true] rfl (by kernel_rfl) (dF 6 (.int _ _) oW M32 rfl rfl rfl rfl rfl rfl (fun w33 M33 => ?_))
 refine aB (aC ⟨dS, ?_⟩)
 refine cH (aC (aN (bAn 4 5 6 bK oW M33 rfl rfl rfl rfl rfl rfl rfl rfl ?_)))
 exact ⟨by rw [show s = pG ap aq bp bq from hS], M33.below⟩
set_option maxHeartbeats 4000000 in
theorem aHx (w : World) (ap aq bp bq : Pt) (h1 : SgI ap aq) (h2 : SgI bp bq) :
  Calls Tryz.prog 199 #[(.agg (cL ap).toArray), (.agg (cL aq).toArray), (.agg (cL bp).toArray), (.agg (cL bq).toArray)] w (fun ex w' => ∃ v, ex = .returned v ∧ (fun v w' => v = .tuple #[(.agg (cL (pG ap aq bp bq).1).toArray), (.agg (cL (pG ap aq bp bq).2.1).toArray)] ∧ Below w.heap.size w w') v w') := by
 refine aH #[.cell 8 38, .cell 9 38] 21 Tryz.func199 rfl Tryz.results199 Tryz.ntmps199 rfl ?_
 have M0 := Mem.refl w
 refine aD (aA (bN (.agg (List.toArray _)) M0 rfl rfl rfl (fun b1 w1 M1 => (bN (.agg (List.toArray _)) M1 rfl rfl rfl (fun b2 w2 M2 => (bN (.agg (List.toArray _)) M2 rfl rfl rfl (fun b3 w3 M3 => (bN (.agg (List.toArray _)) M3 rfl rfl rfl (fun b4 w4 M4 => (aR gD M4 rfl rfl (fun b5 w5 M5 => ?_)))))))))))
 refine aR gD M5 rfl rfl (fun b6 w6 M6 => (aB (aC (aD (aA (wq (bB 0 bK M6 rfl rfl rfl) rfl (wq (bB 1 bK M6 rfl rfl rfl) rfl (wq (bB 2 bK M6 rfl rfl rfl) rfl (wq (bB 3 bK M6 rfl rfl rfl) rfl ?_)))))))))
 refine cA bAh rfl rfl (aIe _ ap aq bp bq h1 h2) ?_
 rintro v7 w7 ⟨rfl, hb7⟩
 have M7 := M6.callB hb7
 refine wq (aG (.tuple (List.toArray _)) rfl) rfl (wq (bH (.agg (List.toArray _)) rfl rfl) rfl (wq (bH (.agg (List.toArray _)) rfl rfl) rfl (wq (bH (.int _ _) rfl rfl) rfl (bE 4 _ bK M7 rfl rfl rfl rfl rfl (aQ rfl) rfl (fun w8 M8 => (bE 5 _ bK M8 rfl rfl rfl rfl rfl (aQ rfl) rfl (fun w9 M9 => ?_)))))))
 refine aB (aC (aD (bX [(0, 1), (1, 1), (2, 2), (3, 2)] mixed rfl (by kernel_rfl) (fun w10 hb10 hh10 => ?_))))
 have M10 := M9.drew hb10 hh10
 refine cD rfl rfl rfl (bB 4 bK M10 rfl rfl rfl) (cD rfl rfl rfl (bB 5 bK M10 rfl rfl rfl) (dU [false, true] rfl (by kernel_rfl) (bE 4 _ bK M10 rfl rfl rfl rfl rfl (aQ rfl) rfl (fun w11 M11 => ?_))))
 refine aB (aC ⟨(eX (bQ rfl (bB 5 bK M11 rfl rfl rfl)) dS), ?_⟩)
 refine dU [true] rfl (by kernel_rfl) (bE 5 _ bK M11 rfl rfl rfl rfl rfl (aQ rfl) rfl (fun w12 M12 => ?_))
 refine aB (aC ⟨dS, ?_⟩)
 refine cH (aC (aN (aLf 4 5 bK M12 rfl rfl rfl rfl rfl rfl ?_)))
 exact ⟨rfl, M12.below⟩
set_option maxHeartbeats 4000000 in
theorem vM (w : World) (b : Body) (hb : Okb b) :
  Calls Tryz.prog 198 #[(.agg (aF b).toArray)] w (fun ex w' => ∃ v, ex = .returned v ∧ (fun v w' => v = (.agg (kV b).toArray) ∧ Below w.heap.size w w') v w') := by
 refine aH #[.cell 2 239] 14 Tryz.func198 rfl Tryz.results198 Tryz.ntmps198 rfl ?_
 have M0 := Mem.refl w
 refine aD (aA (bN (.agg (List.toArray _)) M0 rfl rfl rfl (fun b1 w1 M1 => (aR rW M1 rfl rfl (fun b2 w2 M2 => (aB (aC (aD (aA (wq (bB 0 bO M2 rfl rfl rfl) rfl (cA bCf rfl rfl (aNy _ b hb) ?_)))))))))))
 rintro v3 w3 ⟨rfl, hb3⟩
 have M3 := M2.callB hb3
 refine wq (aG (.tuple (List.toArray _)) rfl) rfl (wq (bH (.agg (List.toArray _)) rfl rfl) rfl (wq (bH (.agg (List.toArray _)) rfl rfl) rfl (aR gD M3 rfl rfl (fun b4 w4 M4 => (aR gD M4 rfl rfl (fun b5 w5 M5 => (bE 2 _ bK M5 rfl rfl rfl rfl rfl (aQ rfl) rfl (fun w6 M6 => ?_))))))))
 refine bE 3 _ bK M6 rfl rfl rfl rfl rfl (aQ rfl) rfl (fun w7 M7 => (aB (aC (aD (aA (wq (bB 0 bO M7 rfl rfl rfl) rfl (wq (bB 2 bK M7 rfl rfl rfl) rfl (wq (bB 3 bK M7 rfl rfl rfl) rfl (wq (cN [(0, .agg (List.toArray _)), (1, .agg (List.toArray _)), (2, .agg (List.toArray _))] _ aNw rfl rfl) rfl ?_)))))))))
 refine bE 1 _ kF M7 rfl rfl rfl rfl rfl (aQ rfl) rfl (fun w8 M8 => (aB (aC (aN (fU 1 kF M8 rfl rfl rfl ?_)))))
 exact ⟨rfl, M8.below⟩
set_option maxHeartbeats 4000000 in
theorem aVa (w : World) (a b : Body) (ha : Okb a) (hb : Okb b) :
  Calls Tryz.prog 171 #[(.agg (aF a).toArray), (.agg (aF b).toArray)] w (fun ex w' => ∃ v, ex = .returned v ∧ (fun v w' => v = .tuple #[(.agg (kV (loB a b)).toArray), (.agg (kV (hiB a b)).toArray)] ∧ Below w.heap.size w w') v w') := by
 refine aH #[.cell 4 239, .cell 5 239] 17 Tryz.func171 rfl Tryz.results171 Tryz.ntmps171 rfl ?_
 have M0 := Mem.refl w
 refine aD (aA (bN (.agg (List.toArray _)) M0 rfl rfl rfl (fun b1 w1 M1 => (bN (.agg (List.toArray _)) M1 rfl rfl rfl (fun b2 w2 M2 => (aR rW M2 rfl rfl (fun b3 w3 M3 => (aR rW M3 rfl rfl (fun b4 w4 M4 => (aB (aC (aD (aD (aA ?_))))))))))))))
 refine wq (aE 0 eK rfl) rfl (wq (aO 0 (.int _ _) bY M4 rfl rfl rfl) rfl (wq (aE 0 eK rfl) rfl (wq (aO 1 (.int _ _) bY M4 rfl rfl rfl) rfl (cQ rfl rfl rfl rfl (aB (aC ?_))))))
 refine aW rfl (fun h10 => ?_) (fun h10 => ?_)
 ·refine aA (wq (bB 1 bO M4 rfl rfl rfl) rfl (wq (bB 0 bO M4 rfl rfl rfl) rfl (bE 0 _ bO M4 rfl rfl rfl rfl rfl (aQ rfl) rfl (fun w5 M5 => (bE 1 _ bO M5 rfl rfl rfl rfl rfl (aQ rfl) rfl (fun w6 M6 => (aB (aC (aD ?_)))))))))
  refine bX [(0, 1), (2, 1), (1, 2), (3, 2), (4, 2), (5, 2)] mixed rfl (by kernel_rfl) (fun w7 hb7 hh7 => ?_)
  have M7 := M6.drew hb7 hh7
  refine cD rfl rfl rfl (bB 0 bO M7 rfl rfl rfl) (cD rfl rfl rfl (bB 1 bO M7 rfl rfl rfl) (dU [false, true] rfl (by kernel_rfl) (cA aDf rfl rfl (vM _ b hb) ?_)))
  rintro v8 w8 ⟨rfl, hb8⟩
  have M8 := M7.callB hb8
  refine aB (aC ⟨(eX (bQ rfl (bB 1 bO M8 rfl rfl rfl)) dS), ?_⟩)
  refine dU [true] rfl (by kernel_rfl) (cA aDf rfl rfl (vM _ a ha) ?_)
  rintro v9 w9 ⟨rfl, hb9⟩
  have M9 := M8.callB hb9
  refine aB (aC ⟨dS, ?_⟩)
  refine dU [] rfl (by kernel_rfl) (bE 2 _ kF M9 rfl rfl rfl rfl rfl (aQ rfl) rfl (fun w10 M10 => ?_))
  refine aB (aC ⟨dS, ?_⟩)
  refine dU [] rfl (by kernel_rfl) (bE 3 _ kF M10 rfl rfl rfl rfl rfl (aQ rfl) rfl (fun w11 M11 => ?_))
  refine aB (aC ⟨dS, ?_⟩)
  refine cH (aC (aN (aLf 2 3 kF M11 rfl rfl rfl rfl rfl rfl ?_)))
  exact ⟨by unfold loB hiB; first | rw [if_pos (by omega), if_pos (by omega)] | rw [if_neg (by omega), if_neg (by omega)], M11.below⟩
 ·refine aL (aC (aD (bX [(0, 1), (2, 1), (1, 2), (3, 2), (4, 2), (5, 2)] mixed rfl (by kernel_rfl) (fun w12 hb12 hh12 => ?_))))
  have M12 := M4.drew hb12 hh12
  refine cD rfl rfl rfl (bB 0 bO M12 rfl rfl rfl) (cD rfl rfl rfl (bB 1 bO M12 rfl rfl rfl) (dU [false, true] rfl (by kernel_rfl) (cA aDf rfl rfl (vM _ a ha) ?_)))
  rintro v13 w13 ⟨rfl, hb13⟩
  have M13 := M12.callB hb13
  refine aB (aC ⟨(eX (bQ rfl (bB 1 bO M13 rfl rfl rfl)) dS), ?_⟩)
  refine dU [true] rfl (by kernel_rfl) (cA aDf rfl rfl (vM _ b hb) ?_)
  rintro v14 w14 ⟨rfl, hb14⟩
  have M14 := M13.callB hb14
  refine aB (aC ⟨dS, ?_⟩)
  refine dU [] rfl (by kernel_rfl) (bE 2 _ kF M14 rfl rfl rfl rfl rfl (aQ rfl) rfl (fun w15 M15 => ?_))
  refine aB (aC ⟨dS, ?_⟩)
  refine dU [] rfl (by kernel_rfl) (bE 3 _ kF M15 rfl rfl rfl rfl rfl (aQ rfl) rfl (fun w16 M16 => ?_))
  refine aB (aC ⟨dS, ?_⟩)
  refine cH (aC (aN (aLf 2 3 kF M16 rfl rfl rfl rfl rfl rfl ?_)))
  exact ⟨by unfold loB hiB; first | rw [if_pos (by omega), if_pos (by omega)] | rw [if_neg (by omega), if_neg (by omega)], M16.below⟩
set_option maxHeartbeats 4000000 in
theorem aVx (w : World) (a b : Body) (ha : Okb a) (hb : Okb b) :
  Calls Tryz.prog 172 #[(.agg (kV a).toArray), (.agg (kV b).toArray)] w (fun ex w' => ∃ v, ex = .returned v ∧ (fun v w' => v = .tuple #[.int .i64 (wG (vI a b)), .int .i64 (yT (vI a b)), .int .i64 (a.radius + b.radius)] ∧ Below w.heap.size w w') v w') := by
 have hra := ha.r
 have hrb := hb.r
 have hch := xW ha hb
 refine aH #[.tmp 4, .tmp 5, .tmp 6] 38 Tryz.func172 rfl Tryz.results172 Tryz.ntmps172 rfl ?_
 have M0 := Mem.refl w
 refine aD (aA (bN (.agg (List.toArray _)) M0 rfl rfl rfl (fun b1 w1 M1 => (bN (.agg (List.toArray _)) M1 rfl rfl rfl (fun b2 w2 M2 => (bI rfl rfl (bI rfl rfl (bI rfl rfl ?_))))))))
 refine aB (aC (aD (aA (wq (aE 10 aGu rfl) rfl (wq (oD 0 _ bK M2 rfl rfl rfl rfl) rfl (wq (aE 12 aFr rfl) rfl (wq (oD 0 _ bK M2 rfl rfl rfl rfl) rfl (wq (aE 10 aGu rfl) rfl ?_))))))))
 refine wq (oD 1 _ bK M2 rfl rfl rfl rfl) rfl (wq (aE 12 aFr rfl) rfl (wq (oD 1 _ bK M2 rfl rfl rfl rfl) rfl (cA bAa rfl rfl (aHx _ (aEd a) (aFi a) (aEd b) (aFi b) (vT ha) (vT hb)) ?_)))
 rintro v3 w3 ⟨rfl, hb3⟩
 have M3 := M2.callB hb3
 refine wq (aG (.tuple (List.toArray _)) rfl) rfl (wq (bH (.agg (List.toArray _)) rfl rfl) rfl (wq (bH (.agg (List.toArray _)) rfl rfl) rfl (aR gD M3 rfl rfl (fun b4 w4 M4 => (aR gD M4 rfl rfl (fun b5 w5 M5 => (bE 2 _ bK M5 rfl rfl rfl rfl rfl (aQ rfl) rfl (fun w6 M6 => ?_))))))))
 refine bE 3 _ bK M6 rfl rfl rfl rfl rfl (aQ rfl) rfl (fun w7 M7 => (aB (aC (aD (aA (wq (bB 2 bK M7 rfl rfl rfl) rfl (wq (bB 3 bK M7 rfl rfl rfl) rfl (cA yD rfl rfl (oH _ (vI a b).1 (vI a b).2.1 hch.a.i32 hch.b.i32) ?_))))))))
 rintro v8 w8 ⟨rfl, hb8⟩
 have M8 := M7.callB hb8
 refine wq (aG (.tuple (List.toArray _)) rfl) rfl (wq (bH (.int _ _) rfl rfl) rfl (wq (bH (.int _ _) rfl rfl) rfl (bI rfl rfl (bI rfl rfl (aB (aC (aD ?_)))))))
 refine bX [(0, 0), (1, 0), (2, 0), (3, 0), (4, 1), (5, 0), (6, 0), (7, 0), (8, 1), (9, 0), (10, 0), (11, 0), (12, 0), (13, 0)] mixed rfl (by kernel_rfl) (fun w9 hb9 hh9 => ?_)
 have M9 := M8.drew hb9 hh9
 refine gW rfl rfl rfl (gW rfl rfl rfl (bA rfl rfl rfl (fun _ => aE 0 rV rfl) (bA rfl rfl rfl (fun _ => aE 1 kQ rfl) (cD rfl rfl rfl (aO 0 (.int _ _) aT M9 rfl rfl rfl) (bA rfl rfl rfl (fun _ => bU fO Tryz.underlying2 rfl (kH _ (by omega) (by omega))) ?_)))))
 refine bA rfl rfl rfl (fun _ => aE 0 rV rfl) (bA rfl rfl rfl (fun _ => aE 1 kQ rfl) (cD rfl rfl rfl (aO 1 (.int _ _) aT M9 rfl rfl rfl) (bA rfl rfl rfl (fun _ => bU fO Tryz.underlying2 rfl (kH _ (by omega) (by omega))) (bA rfl rfl rfl (fun _ => bL rfl rfl (by omega) (by omega)) ?_))))
 refine qC rfl rfl rfl (qC rfl rfl rfl (qC rfl rfl rfl (cH (aC (aN (bFm (.int _ _) (.int _ _) (.int _ _) rfl rfl rfl ?_))))))
 exact ⟨rfl, M9.below⟩
set_option maxHeartbeats 4000000 in
theorem xV (w : World) (a b : Body) (ha : Okb a) (hb : Okb b) :
  Calls Tryz.prog 137 #[(.agg (aF a).toArray), (.agg (aF b).toArray)] w (fun ex w' => ∃ v, ex = .returned v ∧ (fun v w' => v = .tuple #[.agg (bAw (nV a b)).toArray, .bool (nV a b).isSome] ∧ Below w.heap.size w w') v w') := by
 obtain ⟨hlo, hhi⟩ := bCj ha hb
 have hd := aYx hlo hhi
 have hl := aCc hd.1 hd.2
 have hss := aZw hlo hhi
 have hr1 := hlo.r
 have hr2 := hhi.r
 refine aH #[.cell 4 121, .tmp 5] 52 Tryz.func137 rfl Tryz.results137 Tryz.ntmps137 rfl ?_
 have M0 := Mem.refl w
 refine aD (aA (bN (.agg (List.toArray _)) M0 rfl rfl rfl (fun b1 w1 M1 => (bN (.agg (List.toArray _)) M1 rfl rfl rfl (fun b2 w2 M2 => (aR rQ M2 rfl rfl (fun b3 w3 M3 => (wq (aI (.bool false) rfl) rfl (aB (aC (aD (aA ?_))))))))))))
 refine wq (bB 0 bO M3 rfl rfl rfl) rfl (wq (bB 1 bO M3 rfl rfl rfl) rfl (cA bAk rfl rfl (aVa _ a b ha hb) ?_))
 rintro v4 w4 ⟨rfl, hb4⟩
 have M4 := M3.callB hb4
 refine wq (aG (.tuple (List.toArray _)) rfl) rfl (wq (bH (.agg (List.toArray _)) rfl rfl) rfl (wq (bH (.agg (List.toArray _)) rfl rfl) rfl (aR rW M4 rfl rfl (fun b5 w5 M5 => (aR rW M5 rfl rfl (fun b6 w6 M6 => (bE 3 _ kF M6 rfl rfl rfl rfl rfl (aQ rfl) rfl (fun w7 M7 => ?_))))))))
 refine bE 4 _ kF M7 rfl rfl rfl rfl rfl (aQ rfl) rfl (fun w8 M8 => (aB (aC (aD (aA (wq (bB 3 kF M8 rfl rfl rfl) rfl (wq (bB 4 kF M8 rfl rfl rfl) rfl (cA bCh rfl rfl (aVx _ (loB a b) (hiB a b) hlo hhi) ?_))))))))
 rintro v9 w9 ⟨rfl, hb9⟩
 have M9 := M8.callB hb9
 refine wq (aG (.tuple (List.toArray _)) rfl) rfl (wq (bH (.int _ _) rfl rfl) rfl (wq (bH (.int _ _) rfl rfl) rfl (wq (bH (.int _ _) rfl rfl) rfl (bI rfl rfl (bI rfl rfl ?_)))))
 refine bI rfl rfl (aB (aC (aD (aD (aA (aV rfl rfl (aV rfl rfl (cA aHn rfl rfl (nQ _ (wG (vI (loB a b) (hiB a b))) (yT (vI (loB a b) (hiB a b))) hd.1 hd.2) ?_))))))))
 rintro v10 w10 ⟨rfl, hb10⟩
 have M10 := M9.callB hb10
 refine aV rfl rfl (aV rfl rfl (wq (fX rfl rfl (by omega) (by omega)) rfl (wq (dQ us2 Tryz.underlying170 rfl) rfl (aS 31 (.int .u64 ((((loB a b).radius + (hiB a b).radius).natAbs * ((loB a b).radius + (hiB a b).radius).natAbs : Nat) : Int)) (iE (aVv _ hss)) (cQ rfl rfl rfl rfl ?_)))))
 refine aB (aC ?_)
 refine aW rfl (fun h32 => ?_) (fun h32 => ?_)
 ·refine aD (aA (wq (cN [] _ aAy rfl rfl) rfl (bE 2 _ gC M10 rfl rfl rfl rfl rfl (aQ rfl) rfl (fun w11 M11 => (wq (aI (.bool false) rfl) rfl (aB (aC (aN (bZ (aAd (v2 := .bool false) 2 gC M11 rfl rfl rfl rfl ?_))))))))))
  exact ⟨by rw [aDy]; unfold nT; first | (rw [if_pos (by omega)]; rfl) | (rw [if_neg (by omega)]; rfl), M11.below⟩
 ·refine aL (aC (aD (aA (wq (aE 0 rV rfl) rfl (wq (aE 0 eK rfl) rfl (wq (aO 3 (.int _ _) bY M10 rfl rfl rfl) rfl (wq (aE 0 rV rfl) rfl (wq (aE 0 eK rfl) rfl ?_))))))))
  refine wq (aO 4 (.int _ _) bY M10 rfl rfl rfl) rfl (wq (cN [(0, .int _ _), (1, .int _ _)] _ aBe rfl rfl) rfl (aR pM M10 rfl rfl (fun b12 w12 M12 => (bE 5 _ fY M12 rfl rfl rfl rfl rfl (aQ rfl) rfl (fun w13 M13 => (aB (aC (aD (bX [(0, 1), (1, 0), (2, 0), (4, 0), (5, 0), (6, 0), (3, 2), (7, 2), (8, 0), (9, 0), (10, 0), (11, 2), (12, 0)] mixed rfl (by kernel_rfl) (fun w14 hb14 hh14 => ?_))))))))))
  have M14 := M13.drew hb14 hh14
  refine cD rfl rfl rfl (bB 5 fY M14 rfl rfl rfl) (gW rfl rfl rfl (gW rfl rfl rfl (gW rfl rfl rfl (gW rfl rfl rfl (gW rfl rfl rfl ?_)))))
  refine dU [false] rfl (by kernel_rfl) (cA bBf rfl rfl (aSy _ (wG (vI (loB a b) (hiB a b))) (yT (vI (loB a b) (hiB a b))) hd.1 hd.2) ?_)
  rintro v15 w15 ⟨rfl, hb15⟩
  have M15 := M14.callB hb15
  refine aB (aC ⟨(eX (bQ rfl (bB 5 fY M15 rfl rfl rfl)) dS), ?_⟩)
  refine dU [false] rfl (by kernel_rfl) (cA aPg rfl rfl (yL _ (wG (vI (loB a b) (hiB a b))) (yT (vI (loB a b) (hiB a b))) hd.1 hd.2) ?_)
  rintro v16 w16 ⟨rfl, hb16⟩
  have M16 := M15.callB hb16
  refine aB (aC ⟨(eX (bQ rfl (bB 5 fY M16 rfl rfl rfl)) dS), ?_⟩)
  refine bA rfl rfl rfl (fun _ => mK rfl rfl (by omega) (by omega)) (bA rfl rfl rfl (fun _ => dQ us2 Tryz.underlying21 rfl) (bA rfl rfl rfl (fun _ => cN [(0, .agg (List.toArray _)), (1, .agg (List.toArray _)), (2, .int _ _)] _ aAy rfl rfl) (dU [true] rfl (by kernel_rfl) (bE 2 _ gC M16 rfl rfl rfl rfl rfl (aQ rfl) rfl (fun w17 M17 => ?_)))))
  refine aB (aC ⟨dS, ?_⟩)
  refine bA rfl rfl rfl (fun _ => aI (.bool true) rfl) (cH (aC (aN (aAd (v2 := .bool true) 2 gC M17 rfl rfl rfl rfl ?_))))
  exact ⟨by rw [aDy]; unfold nT; first | (rw [if_pos (by omega)]; rfl) | (rw [if_neg (by omega)]; rfl), M17.below⟩
end Go.Proofs.YtlmcphcgiclanaaGreatDoor
