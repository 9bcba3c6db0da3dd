/- Part of the proof of the laws of this seat: Z1, Z1b, Z1c, Z1d, W3, Z2, W4, Z3, Z4, W5, W6. No conditions. -/
import Derived.Test.YtlmcphcgiclanaaGreatDoorK2
import Derived.Test.YtlmcphcgiclanaaGreatDoorK5
import Derived.Test.YtlmcphcgiclanaaGreatDoorK12
import Derived.Test.YtlmcphcgiclanaaGreatDoorK18
import Derived.Test.YtlmcphcgiclanaaGreatDoorK11
import Derived.Test.YtlmcphcgiclanaaGreatDoorK17
set_option linter.unusedVariables false
set_option linter.unusedSimpArgs false
set_option linter.unnecessarySimpa false
namespace Go.Proofs.YtlmcphcgiclanaaGreatDoor
open Go.Bil
open Go.RowKit (Below)
open Go.Proofs
set_option maxHeartbeats 8000000 in
theorem bEr (w : World) (n : Nat) (hn : n < 18446744073709551616) :
  Calls Tryz.prog 203 #[.int .u64 (n : Int)] w (fun ex w' => ∃ v, ex = .returned v ∧ (fun v w' => v = .int .u64 ((uS n : Nat) : Int) ∧ Below w.heap.size w w') v w') := by
 refine aH #[.tmp 2] 32 Tryz.func203 rfl Tryz.results203 Tryz.ntmps203 rfl ?_
 have M0 := Mem.refl w
 refine aD (aA (bJ rfl rfl (aB (aC (aD (aA (aV rfl rfl (bJ rfl rfl (bJ rfl rfl ?_)))))))))
 refine aB (aC (aD (aD (aA (aV rfl rfl (aB (aC (aS (dM (σ := Nat × Nat × Nat) [2] (fun (i, R, e) => [(8, .int .i64 (i : Int)), (3, .int .u64 ((n - R * R : Nat) : Int)), (4, .int .u64 ((R * e : Nat) : Int))]) (fun (i, R, e) w' => Iq n i R e ∧ Mem w [] [] w') (fun (i, R, e) => 32 - i) (0, 0, 4294967296) (bL rfl (bL (iv rfl (by simp)) (bL (iv rfl (by simp)) eV))) (⟨aXw hn, M0⟩) ?_)))))))))
 rintro ⟨i, R, e⟩ ρ1 w1 ⟨I, hM1⟩
 have hile := I.ile
 have hle := I.le
 refine aD (aA (cT rfl rfl rfl rfl (aB (aC (aD ?_)))))
 refine aW rfl (fun h9 => ?_) (fun h9 => ?_)
 ·obtain ⟨f, hf1, hf2, hf3, hf4, hf5, hf6, hf7, hf8, hfy, hfn⟩ := aWz (by omega) I
  refine aK (aC (aD (aS (aD (aA (aV rfl rfl (bJ rfl rfl (aB (aC (aD (aA (aV rfl rfl (wq (fT rfl rfl (by omega) (by omega)) rfl ?_)))))))))))))
  refine wq (gH rfl rfl (by omega)) rfl (aT 13 (.int .u64 ((f * f : Nat) : Int)) (iE ((aYs (2 * i) _ (by omega) (by omega)).trans (congrArg _ hf4))) (bJ rfl rfl (aB (aC (aD (aA (aV rfl rfl (aV rfl rfl ?_))))))))
  refine aV rfl rfl (wq (dY (.int _ _) rfl rfl rfl) rfl (aT 17 (.int .u64 ((R * e + f * f : Nat) : Int)) (iE (by rw [rD]; omega)) (cT rfl rfl rfl rfl (aB (aC ?_)))))
  refine aW rfl (fun h18 => ?_) (fun h18 => ?_)
  ·have h18' : R * e + f * f ≤ n - R * R := by omega
   refine aD (aA (aV rfl rfl (aV rfl rfl (aV rfl rfl (wq (dY (.int _ _) rfl rfl rfl) rfl (aT 22 (.int .u64 ((R * e + f * f : Nat) : Int)) (iE (by rw [rD]; omega)) ?_))))))
   refine wq (dY (.int _ _) rfl rfl rfl) rfl (aT 23 (.int .u64 ((n - (R + f) * (R + f) : Nat) : Int)) (iE (by rw [rD]; omega)) (bJ rfl rfl (aB (aC (aA (aV rfl rfl (wq (gH rfl rfl (by decide)) rfl ?_)))))))
   refine aT 25 (.int .u64 ((R * f : Nat) : Int)) (iE ((aQo (R * e)).trans (congrArg _ hf5))) (aV rfl rfl (wq (dY (.int _ _) rfl rfl rfl) rfl (aT 27 (.int .u64 (((R + f) * f : Nat) : Int)) (iE (by rw [rD]; omega)) (bJ rfl rfl (aB ?_)))))
   refine cX (aC (aA (wq (bM rfl rfl (by omega) (by omega)) rfl (aV rfl rfl (aB ?_)))))
   refine cQ (i + 1, R + f, f) (bL rfl (bL rfl (bL rfl eV))) (cU rfl jS) ?_ ?_
   ·exact ⟨hfy h18', hM1⟩
   ·(show 32 - (i + 1) < 32 - i; omega)
  ·have h18' : ¬ (R * e + f * f ≤ n - R * R) := by omega
   refine aA (aV rfl rfl (wq (gH rfl rfl (by decide)) rfl (aT 29 (.int .u64 ((R * f : Nat) : Int)) (iE ((aQo (R * e)).trans (congrArg _ hf5))) (bJ rfl rfl (aB ?_)))))
   refine cX (aC (aA (wq (bM rfl rfl (by omega) (by omega)) rfl (aV rfl rfl (aB ?_)))))
   refine cQ (i + 1, R, f) (bL rfl (bL rfl (bL rfl eV))) (cU rfl jS) ?_ ?_
   ·exact ⟨hfn h18', hM1⟩
   ·(show 32 - (i + 1) < 32 - i; omega)
 ·obtain rfl : i = 32 := by omega
  refine cP (dA (cY (eT (aC (aD (aA (aV rfl rfl ?_)))))))
  refine bJ rfl rfl (aB (aC (aN (cC (.int _ _) rfl ?_))))
  exact ⟨iE (by rw [aWu I]), hM1.below⟩
set_option maxHeartbeats 4000000 in
theorem oN (w : World) (a b : Int × Int) (ha : I32 a) (hb : I32 b) :
  Calls Tryz.prog 200 #[(.agg (cL a).toArray), (.agg (cL b).toArray)] w (fun ex w' => ∃ v, ex = .returned v ∧ (fun v w' => v = .tuple #[.int .i64 (b.1 - a.1), .int .i64 (b.2 - a.2)] ∧ Below w.heap.size w w') v w') := by
 have hax := ha.x
 have hay := ha.y
 have hbx := hb.x
 have hby := hb.y
 refine aH #[.tmp 4, .tmp 5] 20 Tryz.func200 rfl Tryz.results200 Tryz.ntmps200 rfl ?_
 have M0 := Mem.refl w
 refine aD (aA (bK (.agg (List.toArray _)) M0 rfl rfl rfl (fun b1 w1 M1 => (bK (.agg (List.toArray _)) M1 rfl rfl rfl (fun b2 w2 M2 => (bJ rfl rfl (bJ rfl rfl (aB (aC (aD ?_))))))))))
 refine bQ [(0, 0), (1, 1), (2, 0), (3, 0), (4, 1), (5, 0), (6, 0), (7, 0), (8, 1), (9, 0), (10, 0), (11, 1), (12, 0), (13, 0), (14, 0), (15, 0)] mixed rfl (by kernel_rfl) (fun w3 hb3 hh3 => ?_)
 have M3 := M2.drew hb3 hh3
 refine aY rfl rfl rfl (fun _ => aE 0 dU rfl) (cD rfl rfl rfl (aM 1 (.int _ _) aU M3 rfl rfl rfl) (aY rfl rfl rfl (fun _ => bU fL Tryz.underlying2 rfl (kJ _ (by omega) (by omega))) (aY rfl rfl rfl (fun _ => aE 0 dU rfl) (cD rfl rfl rfl (aM 0 (.int _ _) aU M3 rfl rfl rfl) ?_))))
 refine aY rfl rfl rfl (fun _ => bU fL Tryz.underlying2 rfl (kJ _ (by omega) (by omega))) (aY rfl rfl rfl (fun _ => nE rfl rfl (by omega) (by omega)) (aY rfl rfl rfl (fun _ => aE 1 dN rfl) (cD rfl rfl rfl (aM 1 (.int _ _) aU M3 rfl rfl rfl) (aY rfl rfl rfl (fun _ => bU fL Tryz.underlying2 rfl (kJ _ (by omega) (by omega))) ?_))))
 refine aY rfl rfl rfl (fun _ => aE 1 dN rfl) (cD rfl rfl rfl (aM 0 (.int _ _) aU M3 rfl rfl rfl) (aY rfl rfl rfl (fun _ => bU fL Tryz.underlying2 rfl (kJ _ (by omega) (by omega))) (aY rfl rfl rfl (fun _ => nE rfl rfl (by omega) (by omega)) (pX rfl rfl rfl (pX rfl rfl rfl ?_)))))
 refine cF (aC (aN (iD (.int _ _) (.int _ _) rfl rfl ?_)))
 exact ⟨rfl, M3.below⟩
set_option maxHeartbeats 4000000 in
theorem xC (w : World) (n : Int) (hn : wD n) :
  Calls Tryz.prog 201 #[.int .i64 n] w (fun ex w' => ∃ v, ex = .returned v ∧ (fun v w' => v = .int .u64 ((n.natAbs * n.natAbs : Nat) : Int) ∧ Below w.heap.size w w') v w') := by
 have hlt := (xZ hn hn).2.1
 unfold wD at hn
 refine aH #[.tmp 2] 12 Tryz.func201 rfl Tryz.results201 Tryz.ntmps201 rfl ?_
 have M0 := Mem.refl w
 refine aD (aA (bJ rfl rfl (aB (aC (aD (aD (aA (aV rfl rfl (cT rfl rfl rfl rfl (aB (aC ?_)))))))))))
 refine aW rfl (fun h4 => ?_) (fun h4 => ?_)
 ·refine aA (aV rfl rfl (wq (aBs rfl) rfl (aT 6 (.int .i64 (-n)) (iE (kJ _ (by omega) (by omega))) (bJ rfl rfl (aB (aC (aD (aA ?_))))))))
  refine aV rfl rfl (wq (dT us2 Tryz.underlying170 rfl) rfl (aT 8 (.int .u64 ((n.natAbs : Nat) : Int)) (iE (by rw [rD]; omega)) (aV rfl rfl (wq (dT us2 Tryz.underlying170 rfl) rfl (aT 10 (.int .u64 ((n.natAbs : Nat) : Int)) (iE (by rw [rD]; omega)) ?_)))))
  refine wq (dY (.int _ _) rfl rfl rfl) rfl (aT 11 (.int .u64 ((n.natAbs * n.natAbs : Nat) : Int)) (iE (aOl _ _ (by omega))) (bJ rfl rfl (aB (aC (aN (cC (.int _ _) rfl ?_))))))
  exact ⟨rfl, M0.below⟩
 ·refine aK (aC (aD (aA (aV rfl rfl (wq (dT us2 Tryz.underlying170 rfl) rfl (aT 8 (.int .u64 ((n.natAbs : Nat) : Int)) (iE (by rw [rD]; omega)) (aV rfl rfl (wq (dT us2 Tryz.underlying170 rfl) rfl ?_))))))))
  refine aT 10 (.int .u64 ((n.natAbs : Nat) : Int)) (iE (by rw [rD]; omega)) (wq (dY (.int _ _) rfl rfl rfl) rfl (aT 11 (.int .u64 ((n.natAbs * n.natAbs : Nat) : Int)) (iE (aOl _ _ (by omega))) (bJ rfl rfl (aB (aC (aN (cC (.int _ _) rfl ?_)))))))
  exact ⟨rfl, M0.below⟩
set_option maxHeartbeats 4000000 in
theorem nL (w : World) (dx dy : Int) (hx : wD dx) (hy : wD dy) :
  Calls Tryz.prog 173 #[.int .i64 dx, .int .i64 dy] w (fun ex w' => ∃ v, ex = .returned v ∧ (fun v w' => v = .int .u64 ((lsq dx dy : Nat) : Int) ∧ Below w.heap.size w w') v w') := by
 have hl := xZ hx hy
 refine aH #[.tmp 4] 10 Tryz.func173 rfl Tryz.results173 Tryz.ntmps173 rfl ?_
 have M0 := Mem.refl w
 refine aD (aA (bJ rfl rfl (aB (aC (aD (aA (aV rfl rfl (bV aTk rfl rfl (xC _ dx hx) ?_))))))))
 rintro v1 w1 ⟨rfl, hb1⟩
 have M1 := M0.callB hb1
 refine aV rfl rfl (bV aTk rfl rfl (xC _ dy hy) ?_)
 rintro v2 w2 ⟨rfl, hb2⟩
 have M2 := M1.callB hb2
 refine wq (dY (.int _ _) rfl rfl rfl) rfl (aT 9 (.int .u64 ((lsq dx dy : Nat) : Int)) (iE (by rw [rD]; unfold lsq at *; omega)) (bJ rfl rfl (aB (aC (aN (cC (.int _ _) rfl ?_))))))
 exact ⟨rfl, M2.below⟩
set_option maxHeartbeats 4000000 in
theorem yH (w : World) (dx dy : Int) (hx : wD dx) (hy : wD dy) :
  Calls Tryz.prog 175 #[.int .i64 dx, .int .i64 dy] w (fun ex w' => ∃ v, ex = .returned v ∧ (fun v w' => v = .int .i64 (len dx dy) ∧ Below w.heap.size w w') v w') := by
 have hl := aDz hx hy
 refine aH #[.tmp 4] 10 Tryz.func175 rfl Tryz.results175 Tryz.ntmps175 rfl ?_
 have M0 := Mem.refl w
 refine aD (aA (bJ rfl rfl (aB (aC (aD (aA (aV rfl rfl (aV rfl rfl (bV aIr rfl rfl (nL _ dx dy hx hy) ?_)))))))))
 rintro v1 w1 ⟨rfl, hb1⟩
 have M1 := M0.callB hb1
 refine bV bAz rfl rfl (bEr _ (lsq dx dy) (xZ hx hy).1) ?_
 rintro v2 w2 ⟨rfl, hb2⟩
 have M2 := M1.callB hb2
 refine wq (dT aCo Tryz.underlying2 rfl) rfl (aT 9 (.int .i64 (len dx dy)) (iE (kJ (len dx dy) (by omega) (by omega))) (bJ rfl rfl (aB (aC (aN (cC (.int _ _) rfl ?_))))))
 exact ⟨rfl, M2.below⟩
set_option maxHeartbeats 4000000 in
theorem aCi (w : World) (a b : Int) (hb : 0 < b) (h0 : -1000000000000000000 ≤ a) (h1 : a ≤ 1000000000000000000) :
  Calls Tryz.prog 202 #[.int .i64 a, .int .i64 b] w (fun ex w' => ∃ v, ex = .returned v ∧ (fun v w' => v = .int .i64 (a / b) ∧ Below w.heap.size w w') v w') := by
 have hf := aHp (a := a) hb
 have hb1 := aKk a b
 refine aH #[.tmp 4] 16 Tryz.func202 rfl Tryz.results202 Tryz.ntmps202 rfl ?_
 have M0 := Mem.refl w
 refine aD (aA (bJ rfl rfl (aB (aC (aD (aA (aV rfl rfl (aV rfl rfl (wq (aMf rfl rfl (by omega)) rfl ?_)))))))))
 refine aT 8 (.int .i64 (a.tdiv b)) (iE (kJ _ (by omega) (by omega))) (bJ rfl rfl (aB (aC (aD (aD (aA (aV rfl rfl (aV rfl rfl (wq (aZm rfl rfl (by omega)) rfl ?_)))))))))
 refine cT rfl rfl rfl rfl (aB (aC ?_))
 refine aW rfl (fun h12 => ?_) (fun h12 => ?_)
 ·refine aA (aV rfl rfl (wq (nE rfl rfl (by omega) (by omega)) rfl (bJ rfl rfl (aB (aC (aD (aA (aV rfl rfl ?_))))))))
  refine bJ rfl rfl (aB (aC (aN (cC (.int _ _) rfl ?_))))
  exact ⟨iE (by first | exact hf.1 (by omega) | exact hf.2 (by omega)), M0.below⟩
 ·refine aK (aC (aD (aA (aV rfl rfl (bJ rfl rfl (aB (aC (aN (cC (.int _ _) rfl ?_)))))))))
  exact ⟨iE (by first | exact hf.1 (by omega) | exact hf.2 (by omega)), M0.below⟩
set_option maxHeartbeats 4000000 in
theorem aRs (w : World) (dx dy : Int) (hx : wD dx) (hy : wD dy) :
  Calls Tryz.prog 174 #[.int .i64 dx, .int .i64 dy] w (fun ex w' => ∃ v, ex = .returned v ∧ (fun v w' => v = (.agg (cL (oY dx dy)).toArray) ∧ Below w.heap.size w w') v w') := by
 have hl := aDz hx hy
 have hxx := hx
 have hyy := hy
 unfold wD at hxx hyy
 refine aH #[.cell 4 38] 23 Tryz.func174 rfl Tryz.results174 Tryz.ntmps174 rfl ?_
 have M0 := Mem.refl w
 refine aD (aA (aR fZ M0 rfl rfl (fun b1 w1 M1 => (aB (aC (aD (aA (aV rfl rfl (aV rfl rfl (bV aSk rfl rfl (yH _ dx dy hx hy) ?_))))))))))
 rintro v2 w2 ⟨rfl, hb2⟩
 have M2 := M1.callB hb2
 refine bJ rfl rfl (aB (aC (aD (aD (aA (aV rfl rfl (cT rfl rfl rfl rfl (aB (aC ?_)))))))))
 refine aW rfl (fun h10 => ?_) (fun h10 => ?_)
 ·refine aD (aA (wq (cN [(0, .int _ _)] _ eO rfl rfl) rfl (bC 0 _ bH M2 rfl rfl rfl rfl rfl (aQ rfl) rfl (fun w3 M3 => (aB (aC (aN (cE (fR 0 bH M3 rfl rfl rfl ?_)))))))))
  exact ⟨by unfold oY; first | (rw [if_pos (by omega)]; rfl) | (rw [if_neg (by omega)]; rfl), M3.below⟩
 ·refine aK (aC (aD (aA (aV rfl rfl (wq (rQ rfl rfl (by decide)) rfl (aT 13 (.int .i64 (dx * 65536)) (iE (aBh dx hx)) (aV rfl rfl (bV aUv rfl rfl (aCi _ (dx * 65536) (len dx dy) (by omega) (by omega) (by omega)) ?_))))))))
  rintro v4 w4 ⟨rfl, hb4⟩
  have M4 := M2.callB hb4
  refine wq (dT us2 Tryz.underlying21 rfl) rfl (aV rfl rfl (wq (rQ rfl rfl (by decide)) rfl (aT 18 (.int .i64 (dy * 65536)) (iE (aBh dy hy)) (aV rfl rfl (bV aUv rfl rfl (aCi _ (dy * 65536) (len dx dy) (by omega) (by omega) (by omega)) ?_)))))
  rintro v5 w5 ⟨rfl, hb5⟩
  have M5 := M4.callB hb5
  refine wq (dT us2 Tryz.underlying21 rfl) rfl (wq (cN [(0, .int _ _), (1, .int _ _)] _ eO rfl rfl) rfl (bC 0 _ bH M5 rfl rfl rfl rfl rfl (aQ rfl) rfl (fun w6 M6 => (aB (aC (aN (fR 0 bH M6 rfl rfl rfl ?_)))))))
  exact ⟨by unfold oY; first | (rw [if_pos (by omega)]; rfl) | (rw [if_neg (by omega)]; rfl), M6.below⟩
set_option maxHeartbeats 4000000 in
theorem aPe (w : World) (b : Body) (hb : Okb b) :
  Calls Tryz.prog 220 #[(.agg (aF b).toArray)] w (fun ex w' => ∃ v, ex = .returned v ∧ (fun v w' => v = .tuple #[(.agg (cL (aFd b)).toArray), (.agg (cL (aFa b)).toArray)] ∧ Below w.heap.size w w') v w') := by
 have ha := hb.a
 have hp := hb.p
 refine aH #[.cell 2 38, .cell 3 38] 36 Tryz.func220 rfl Tryz.results220 Tryz.ntmps220 rfl ?_
 have M0 := Mem.refl w
 refine aD (aA (bK (.agg (List.toArray _)) M0 rfl rfl rfl (fun b1 w1 M1 => (aR fZ M1 rfl rfl (fun b2 w2 M2 => (aR fZ M2 rfl rfl (fun b3 w3 M3 => (aB (aC (aD (aA (wq (aE 6 fX rfl) rfl ?_))))))))))))
 refine wq (aE 0 dU rfl) rfl (wq (aM 0 (.int _ _) aU M3 rfl rfl rfl) rfl (wq (aE 2 kW rfl) rfl (wq (aE 0 dU rfl) rfl (wq (aM 0 (.int _ _) aU M3 rfl rfl rfl) rfl (wq (lO rfl rfl (lU _ (by omega) (by omega))) rfl ?_)))))
 refine wq (aE 6 fX rfl) rfl (wq (aE 1 dN rfl) rfl (wq (aM 0 (.int _ _) aU M3 rfl rfl rfl) rfl (wq (aE 2 kW rfl) rfl (wq (aE 1 dN rfl) rfl (wq (aM 0 (.int _ _) aU M3 rfl rfl rfl) rfl ?_)))))
 refine wq (lO rfl rfl (lU _ (by omega) (by omega))) rfl (wq (cN [(0, .int _ _), (1, .int _ _)] _ eO rfl rfl) rfl (bC 1 _ bH M3 rfl rfl rfl rfl rfl (aQ rfl) rfl (fun w4 M4 => (aB (aC (aD (aA (wq (aE 6 fX rfl) rfl (wq (aE 0 dU rfl) rfl ?_)))))))))
 refine wq (aM 0 (.int _ _) aU M4 rfl rfl rfl) rfl (wq (aE 2 kW rfl) rfl (wq (aE 0 dU rfl) rfl (wq (aM 0 (.int _ _) aU M4 rfl rfl rfl) rfl (wq (iJ rfl rfl (lU _ (by omega) (by omega))) rfl (wq (aE 6 fX rfl) rfl ?_)))))
 refine wq (aE 1 dN rfl) rfl (wq (aM 0 (.int _ _) aU M4 rfl rfl rfl) rfl (wq (aE 2 kW rfl) rfl (wq (aE 1 dN rfl) rfl (wq (aM 0 (.int _ _) aU M4 rfl rfl rfl) rfl (wq (iJ rfl rfl (lU _ (by omega) (by omega))) rfl ?_)))))
 refine wq (cN [(0, .int _ _), (1, .int _ _)] _ eO rfl rfl) rfl (bC 2 _ bH M4 rfl rfl rfl rfl rfl (aQ rfl) rfl (fun w5 M5 => (aB (aC (aD (bQ [(0, 1), (1, 1), (2, 2), (3, 2)] mixed rfl (by kernel_rfl) (fun w6 hb6 hh6 => ?_)))))))
 have M6 := M5.drew hb6 hh6
 refine cD rfl rfl rfl (bA 1 bH M6 rfl rfl rfl) (cD rfl rfl rfl (bA 2 bH M6 rfl rfl rfl) (dP [false, true] rfl (by kernel_rfl) (bC 1 _ bH M6 rfl rfl rfl rfl rfl (aQ rfl) rfl (fun w7 M7 => ?_))))
 refine aB (aC ⟨(eK (bN rfl (bA 2 bH M7 rfl rfl rfl)) dQ), ?_⟩)
 refine dP [true] rfl (by kernel_rfl) (bC 2 _ bH M7 rfl rfl rfl rfl rfl (aQ rfl) rfl (fun w8 M8 => ?_))
 refine aB (aC ⟨dQ, ?_⟩)
 refine cF (aC (aN (aMo 1 2 bH M8 rfl rfl rfl rfl rfl rfl ?_)))
 exact ⟨rfl, M8.below⟩
set_option maxHeartbeats 4000000 in
theorem aHf (w : World) (p q c : Pt) (h : SgI p q) (hc : PtI c) :
  Calls Tryz.prog 244 #[(.agg (cL p).toArray), (.agg (cL q).toArray), (.agg (cL c).toArray)] w (fun ex w' => ∃ v, ex = .returned v ∧ (fun v w' => v = .tuple #[.int .i64 (oI p q c), .int .i64 (lH p q)] ∧ Below w.heap.size w w') v w') := by
 have hD := rR h
 have hx := aNo h hc
 refine aH #[.tmp 6, .tmp 7] 42 Tryz.func244 rfl Tryz.results244 Tryz.ntmps244 rfl ?_
 have M0 := Mem.refl w
 refine aD (aA (bK (.agg (List.toArray _)) M0 rfl rfl rfl (fun b1 w1 M1 => (bK (.agg (List.toArray _)) M1 rfl rfl rfl (fun b2 w2 M2 => (bK (.agg (List.toArray _)) M2 rfl rfl rfl (fun b3 w3 M3 => (bJ rfl rfl (bJ rfl rfl ?_)))))))))
 refine aB (aC (aD (aA (wq (bA 0 bH M3 rfl rfl rfl) rfl (wq (bA 1 bH M3 rfl rfl rfl) rfl (bV zC rfl rfl (oN _ p q h.hp.i32 h.hq.i32) ?_))))))
 rintro v4 w4 ⟨rfl, hb4⟩
 have M4 := M3.callB hb4
 refine wq (aG (.tuple (List.toArray _)) rfl) rfl (wq (bE (.int _ _) rfl rfl) rfl (wq (bE (.int _ _) rfl rfl) rfl (bJ rfl rfl (bJ rfl rfl (aB (aC (aD (aA ?_))))))))
 refine wq (bA 0 bH M4 rfl rfl rfl) rfl (wq (bA 2 bH M4 rfl rfl rfl) rfl (bV zC rfl rfl (oN _ p c h.hp.i32 hc.i32) ?_))
 rintro v5 w5 ⟨rfl, hb5⟩
 have M5 := M4.callB hb5
 refine wq (aG (.tuple (List.toArray _)) rfl) rfl (wq (bE (.int _ _) rfl rfl) rfl (wq (bE (.int _ _) rfl rfl) rfl (bJ rfl rfl (bJ rfl rfl (aB (aC (aD (aA ?_))))))))
 refine aV rfl rfl (aV rfl rfl (wq (fT rfl rfl (by omega) (by omega)) rfl (aV rfl rfl (aV rfl rfl (wq (fT rfl rfl (by omega) (by omega)) rfl ?_)))))
 refine wq (bM rfl rfl (by omega) (by omega)) rfl (aT 30 (.int .i64 (lH p q)) rfl (bJ rfl rfl (aB (aC (aD (aA (aV rfl rfl (aV rfl rfl ?_))))))))
 refine wq (fT rfl rfl (by omega) (by omega)) rfl (aV rfl rfl (aV rfl rfl (wq (fT rfl rfl (by omega) (by omega)) rfl (wq (bM rfl rfl (by omega) (by omega)) rfl (aV rfl rfl ?_)))))
 refine wq (yA rfl rfl ) rfl (wq (nR rfl rfl ) rfl (aV rfl rfl (bJ rfl rfl (bJ rfl rfl (aB (aC (aN ?_)))))))
 refine iD (.int _ _) (.int _ _) rfl rfl ?_
 exact ⟨rfl, M5.below⟩
set_option maxHeartbeats 4000000 in
theorem aBg (w : World) (f a n d : Int) (bn bd : Nat) (ha : -16777216 ≤ a ∧ a ≤ 16777216) (hn : 0 ≤ n) (hnd : n ≤ d) (hd0 : 0 < d) (hd : d ≤ 562949953421312) (h1 : -16777216 ≤ a * n / d ∧ a * n / d ≤ 16777216) (h2 : -1082130432 ≤ f + a * n / d ∧ f + a * n / d ≤ 1082130432) (K1 : Rd w 1 (some ⟨bn, 0, none⟩) 1 [[.int .i64 n]]) (K2 : Rd w 1 (some ⟨bd, 0, none⟩) 1 [[.int .i64 d]]) :
  Calls Tryz.prog 245 #[.int .i32 f, .int .i64 a, .pointer (some ⟨bn, 0, none⟩), .pointer (some ⟨bd, 0, none⟩)] w (fun ex w' => ∃ v, ex = .returned v ∧ (fun v w' => v = .int .i32 (f + a * n / d) ∧ Below w.heap.size w w') v w') := by
 rw [← eN bn, ← eN bd]
 refine aH #[.tmp 6] 20 Tryz.func245 rfl Tryz.results245 Tryz.ntmps245 rfl ?_
 have M0 := Mem.refl w
 refine aD (aA (bJ rfl rfl (aB (aC (aD (aA (aV rfl rfl (wq (eQ (o := 0) (.int _ _) lF (K1.mem M0) (show ([[.int .i64 n]] : List (List Value))[0]? = some [.int .i64 n] from rfl) rfl rfl) rfl (wq (eQ (o := 0) (.int _ _) lF (K2.mem M0) (show ([[.int .i64 d]] : List (List Value))[0]? = some [.int .i64 d] from rfl) rfl rfl) rfl ?_)))))))))
 refine bV aDy rfl rfl (bDj _ a n d (by omega) hn hnd hd0 (by omega)) ?_
 rintro v1 w1 ⟨rfl, hb1⟩
 have M1 := M0.callB hb1
 refine wq (aG (.tuple (List.toArray _)) rfl) rfl (wq (bE (.int _ _) rfl rfl) rfl (wq (bE (.int _ _) rfl rfl) rfl (bJ rfl rfl (bJ rfl rfl (aB (aC (aD (aA ?_))))))))
 refine aV rfl rfl (aV rfl rfl (wq (bU us2 Tryz.underlying21 rfl (lU _ (by omega) (by omega))) rfl (wq (iJ rfl rfl (lU _ (by omega) (by omega))) rfl (bJ rfl rfl (aB (aC (aN ?_)))))))
 refine cC (.int _ _) rfl ?_
 exact ⟨rfl, M1.below⟩
set_option maxHeartbeats 4000000 in
theorem jW (w : World) (p q c : Pt) (h : SgI p q) (hc : PtI c) :
  Calls Tryz.prog 239 #[(.agg (cL p).toArray), (.agg (cL q).toArray), (.agg (cL c).toArray)] w (fun ex w' => ∃ v, ex = .returned v ∧ (fun v w' => v = (.agg (cL (dV p q c)).toArray) ∧ Below w.heap.size w w') v w') := by
 have hD := rR h
 have hn := aFg (c := c) h
 have hx := h.x
 have hy := h.y
 refine aH #[.cell 6 38] 40 Tryz.func239 rfl Tryz.results239 Tryz.ntmps239 rfl ?_
 have M0 := Mem.refl w
 refine aD (aA (bK (.agg (List.toArray _)) M0 rfl rfl rfl (fun b1 w1 M1 => (bK (.agg (List.toArray _)) M1 rfl rfl rfl (fun b2 w2 M2 => (bK (.agg (List.toArray _)) M2 rfl rfl rfl (fun b3 w3 M3 => (aR fZ M3 rfl rfl (fun b4 w4 M4 => (aB (aC (aD (aA ?_)))))))))))))
 refine wq (bA 0 bH M4 rfl rfl rfl) rfl (wq (bA 1 bH M4 rfl rfl rfl) rfl (wq (bA 2 bH M4 rfl rfl rfl) rfl (bV bDo rfl rfl (aHf _ p q c h hc) ?_)))
 rintro v5 w5 ⟨rfl, hb5⟩
 have M5 := M4.callB hb5
 refine wq (aG (.tuple (List.toArray _)) rfl) rfl (wq (bE (.int _ _) rfl rfl) rfl (wq (bE (.int _ _) rfl rfl) rfl (aR zM M5 rfl rfl (fun b6 w6 M6 => (aR zM M6 rfl rfl (fun b7 w7 M7 => (dH 4 (.int _ _) lF M7 rfl rfl rfl rfl rfl rfl (fun w8 M8 => ?_))))))))
 refine dH 5 (.int _ _) lF M8 rfl rfl rfl rfl rfl rfl (fun w9 M9 => (aB (aC (aD (aD (aA (wq (aM 5 (.int _ _) lF M9 rfl rfl rfl) rfl (cT rfl rfl rfl rfl (aB (aC ?_))))))))))
 refine aW rfl (fun h20 => ?_) (fun h20 => ?_)
 ·refine aD (aA (wq (bA 0 bH M9 rfl rfl rfl) rfl (bC 3 _ bH M9 rfl rfl rfl rfl rfl (aQ rfl) rfl (fun w10 M10 => (aB (aC (aN (cE (fR 3 bH M10 rfl rfl rfl ?_)))))))))
  exact ⟨by unfold dV; first | (rw [if_pos h20]; rfl) | (rw [if_neg h20]; rfl), M10.below⟩
 ·have hnr := aHw (c := c) h h20
  refine aK (aC (aD (aA (wq (cR [] [.pointer _, .pointer _] rfl rfl) rfl (wq (aI (.func _ _ _) rfl) rfl (aB (aC (aD (aA (wq (bA 0 bH M9 rfl rfl rfl) rfl (wq (bA 1 bH M9 rfl rfl rfl) rfl ?_)))))))))))
  refine bV zC rfl rfl (oN _ p q h.hp.i32 h.hq.i32) ?_
  rintro v11 w11 ⟨rfl, hb11⟩
  have M11 := M9.callB hb11
  refine wq (aG (.tuple (List.toArray _)) rfl) rfl (wq (bE (.int _ _) rfl rfl) rfl (wq (bE (.int _ _) rfl rfl) rfl (bJ rfl rfl (bJ rfl rfl (aB (aC (aD ?_)))))))
  refine bQ [(0, 0), (1, 0), (2, 1), (3, 0), (5, 0), (6, 0), (7, 1), (8, 0), (4, 2), (9, 2), (10, 0), (11, 2)] mixed rfl (by kernel_rfl) (fun w12 hb12 hh12 => ?_)
  have M12 := M11.drew hb12 hh12
  refine aY rfl rfl rfl (fun _ => aG (.func _ _ _) rfl) (aY rfl rfl rfl (fun _ => aE 0 dU rfl) (cD rfl rfl rfl (aM 0 (.int _ _) aU M12 rfl rfl rfl) (gG rfl rfl rfl (aY rfl rfl rfl (fun _ => aG (.func _ _ _) rfl) (aY rfl rfl rfl (fun _ => aE 1 dN rfl) ?_)))))
  refine cD rfl rfl rfl (aM 0 (.int _ _) aU M12 rfl rfl rfl) (gG rfl rfl rfl (dP [false, true] rfl (by kernel_rfl) (bV aUf rfl rfl (aBg _ p.1 (q.1 - p.1) (oI p q c) (lH p q) b6 b7 (by omega) hn.1 hn.2 (by omega) (by omega) hnr.1.1 hnr.1.2 (lW 4 M12 rfl rfl) (lW 5 M12 rfl rfl)) ?_)))
  rintro v13 w13 ⟨rfl, hb13⟩
  have M13 := M12.callB hb13
  refine aB (aC ⟨(eK (bN rfl (aM 0 (.int _ _) aU M13 rfl rfl rfl)) dQ), ?_⟩)
  refine dP [true] rfl (by kernel_rfl) (bV aUf rfl rfl (aBg _ p.2 (q.2 - p.2) (oI p q c) (lH p q) b6 b7 (by omega) hn.1 hn.2 (by omega) (by omega) hnr.2.1 hnr.2.2 (lW 4 M13 rfl rfl) (lW 5 M13 rfl rfl)) ?_)
  rintro v14 w14 ⟨rfl, hb14⟩
  have M14 := M13.callB hb14
  refine aB (aC ⟨dQ, ?_⟩)
  refine aY rfl rfl rfl (fun _ => cN [(0, .int _ _), (1, .int _ _)] _ eO rfl rfl) (dP [] rfl (by kernel_rfl) (bC 3 _ bH M14 rfl rfl rfl rfl rfl (aQ rfl) rfl (fun w15 M15 => ?_)))
  refine aB (aC ⟨dQ, ?_⟩)
  refine cF (aC (aN (fR 3 bH M15 rfl rfl rfl ?_)))
  exact ⟨by unfold dV; first | (rw [if_pos h20]; rfl) | (rw [if_neg h20]; rfl), M15.below⟩
set_option maxHeartbeats 4000000 in
theorem wB (w : World) (s : Ch) (x y : Pt) (ba bb bl : Nat) (hx : PtI x) (hy : PtI y) (hO : Own [(some ba, bc (cL s.1) 38), (some bb, bc (cL s.2.1) 38), (some bl, bc [.int .u64 (s.2.2 : Int)] 170)] w) :
  Calls Tryz.prog 238 #[(.agg (cL x).toArray), (.agg (cL y).toArray), .pointer (some ⟨bl, 0, none⟩), .pointer (some ⟨ba, 0, none⟩), .pointer (some ⟨bb, 0, none⟩)] w (fun ex w' => ∃ v, ex = .returned v ∧ (fun v w' => v = .tuple #[] ∧ Mem w (bS [(some ba, bc (cL s.1) 38), (some bb, bc (cL s.2.1) 38), (some bl, bc [.int .u64 (s.2.2 : Int)] 170)]) [(some ba, bc (cL (fK s x y).1) 38), (some bb, bc (cL (fK s x y).2.1) 38), (some bl, bc [.int .u64 ((fK s x y).2.2 : Int)] 170)] w') v w') := by
 refine aH #[] 20 Tryz.func238 rfl Tryz.results238 Tryz.ntmps238 rfl ?_
 have M0 := hO.mem
 refine aD (aA (bK (.agg (List.toArray _)) M0 rfl rfl rfl (fun b1 w1 M1 => (bK (.agg (List.toArray _)) M1 rfl rfl rfl (fun b2 w2 M2 => (aB (aC (aD (aA (wq (bA 3 bH M2 rfl rfl rfl) rfl (wq (bA 4 bH M2 rfl rfl rfl) rfl ?_)))))))))))
 refine bV zC rfl rfl (oN _ x y hx.i32 hy.i32) ?_
 rintro v3 w3 ⟨rfl, hb3⟩
 have M3 := M2.callB hb3
 refine wq (bE (.int _ _) rfl rfl) rfl (wq (bE (.int _ _) rfl rfl) rfl (bV aIr rfl rfl (nL _ (y.1 - x.1) (y.2 - x.2) (hx.inX hy) (hx.inY hy)) ?_))
 rintro v4 w4 ⟨rfl, hb4⟩
 have M4 := M3.callB hb4
 refine bJ rfl rfl (aB (aC (aD (aA (aV rfl rfl (wq (aM 2 (.int _ _) pG M4 rfl rfl rfl) rfl (cT rfl rfl rfl rfl (aB (aC ?_)))))))))
 refine aW rfl (fun h16 => ?_) (fun h16 => ?_)
 ·refine bQ [(0, 1), (1, 1), (2, 0), (3, 2), (4, 2), (5, 2)] mixed rfl (by kernel_rfl) (fun w5 hb5 hh5 => ?_)
  have M5 := M4.drew hb5 hh5
  refine cD rfl rfl rfl (bA 3 bH M5 rfl rfl rfl) (cD rfl rfl rfl (bA 4 bH M5 rfl rfl rfl) (gG rfl rfl rfl (dP [false, true] rfl (by kernel_rfl) (bC 0 _ bH M5 rfl rfl rfl rfl rfl (aQ rfl) rfl (fun w6 M6 => ?_)))))
  refine aB (aC ⟨(eK (bN rfl (bA 4 bH M6 rfl rfl rfl)) dQ), ?_⟩)
  refine dP [true] rfl (by kernel_rfl) (bC 1 _ bH M6 rfl rfl rfl rfl rfl (aQ rfl) rfl (fun w7 M7 => ?_))
  refine aB (aC ⟨dQ, ?_⟩)
  refine dP [] rfl (by kernel_rfl) (dH 2 (.int _ _) pG M7 rfl rfl rfl rfl rfl rfl (fun w8 M8 => ?_))
  refine aB (aC ⟨dQ, ?_⟩)
  refine cF (iP ?_)
  exact ⟨rfl, by unfold fK; first | (rw [if_pos (by omega)]; exact M8.keep [true, true, true, false, false]) | (rw [if_neg (by omega)]; exact M8.keep [true, true, true, false, false])⟩
 ·refine aK (iP ?_)
  exact ⟨rfl, by unfold fK; first | (rw [if_pos (by omega)]; exact M4.keep [true, true, true, false, false]) | (rw [if_neg (by omega)]; exact M4.keep [true, true, true, false, false])⟩
set_option maxHeartbeats 8000000 in
theorem aJn (w : World) (ap aq bp bq : Pt) (h1 : SgI ap aq) (h2 : SgI bp bq) :
  Calls Tryz.prog 221 #[(.agg (cL ap).toArray), (.agg (cL aq).toArray), (.agg (cL bp).toArray), (.agg (cL bq).toArray)] w (fun ex w' => ∃ v, ex = .returned v ∧ (fun v w' => v = .tuple #[(.agg (cL (oX ap aq bp bq).1).toArray), (.agg (cL (oX ap aq bp bq).2.1).toArray), .int .u64 ((oX ap aq bp bq).2.2 : Int)] ∧ Below w.heap.size w w') v w') := by
 refine aH #[.cell 8 38, .cell 9 38, .cell 10 170] 48 Tryz.func221 rfl Tryz.results221 Tryz.ntmps221 rfl ?_
 have M0 := Mem.refl w
 refine aD (aA (bK (.agg (List.toArray _)) M0 rfl rfl rfl (fun b1 w1 M1 => (bK (.agg (List.toArray _)) M1 rfl rfl rfl (fun b2 w2 M2 => (bK (.agg (List.toArray _)) M2 rfl rfl rfl (fun b3 w3 M3 => (bK (.agg (List.toArray _)) M3 rfl rfl rfl (fun b4 w4 M4 => (aR fZ M4 rfl rfl (fun b5 w5 M5 => ?_)))))))))))
 refine aR fZ M5 rfl rfl (fun b6 w6 M6 => (aR aWn M6 rfl rfl (fun b7 w7 M7 => (aB (aC (aD (aA (dH 6 (.int _ _) pG M7 rfl rfl rfl rfl rfl rfl (fun w8 M8 => (aB (aC (aD (aA ?_)))))))))))))
 obtain ⟨s, hS⟩ : ∃ z, z = ch0 := ⟨_, rfl⟩
 have hC : ChI s := by rw [hS]; exact aUg
 have M9 : Mem _ _ [_, _, _, _, (some b5, bc (cL ch0.1) 38), (some b6, bc (cL ch0.2.1) 38), (some b7, bc [.int .u64 (ch0.2.2 : Int)] 170)] _ := M8
 rw [← hS] at M9
 refine wq (cR [] [.pointer _, .pointer _, .pointer _] rfl rfl) rfl (wq (aI (.func _ _ _) rfl) rfl (aB (aC (aD (aD (aA (wq (bA 0 bH M9 rfl rfl rfl) rfl (wq (bA 1 bH M9 rfl rfl rfl) rfl (wq (oQ [.agg (List.toArray _), .agg (List.toArray _)] tP aLr rfl rfl (dI rfl)) rfl ?_)))))))))
 refine aV rfl rfl (aB (aC (aS (lQ 3 (gW (aD (aA (cT rfl rfl rfl rfl (kR 21 rfl (by first | decide | omega) ?_)))))))))
 refine aB (aC (aD (cO rfl (aK (aC (aD (aS (aD (aA (wq (mM 0 _ tP bH rfl rfl (by decide) (by decide) rfl rfl) rfl (aR fZ M9 rfl rfl (fun b10 w10 M10 => (bC 7 _ bH M10 rfl rfl rfl rfl rfl (aQ rfl) rfl (fun w11 M11 => ?_))))))))))))))
 refine aB (aC (bQ [(0, 0), (1, 1), (2, 1), (3, 1), (4, 1), (5, 2), (6, 2)] mixed rfl (by kernel_rfl) (fun w12 hb12 hh12 => ?_)))
 have M12 := M11.drew hb12 hh12
 refine aY rfl rfl rfl (fun _ => aG (.func _ _ _) rfl) (cD rfl rfl rfl (bA 7 bH M12 rfl rfl rfl) (cD rfl rfl rfl (bA 2 bH M12 rfl rfl rfl) (cD rfl rfl rfl (bA 3 bH M12 rfl rfl rfl) (cD rfl rfl rfl (bA 7 bH M12 rfl rfl rfl) (dP [true, true, true, false] rfl (by kernel_rfl) ?_)))))
 refine bV aCv rfl rfl (jW _ bp bq ap h2 h1.hp) ?_
 rintro v13 w13 ⟨rfl, hb13⟩
 have M13 := M12.callB hb13
 refine aB (aC ⟨(eK (bN rfl (bA 7 bH M13 rfl rfl rfl)) dQ), ?_⟩)
 refine dP [true] rfl (by kernel_rfl) (bV aDf rfl rfl (wB _ s ap (dV bp bq ap) _ _ _ h1.hp (eS h2) (M13.ownSeg 4 3)) ?_)
 rintro v14 w14 ⟨rfl, hM14⟩
 have M14 : Mem _ _ [_, _, _, _, _, _, _, _] _ := M13.seg 4 3 hM14
 obtain ⟨s, hs⟩ : ∃ z, z = fK s ap (dV bp bq ap) := ⟨_, rfl⟩
 rw [← hs] at M14
 replace hC := hC.step (x := ap) (y := (dV bp bq ap)) h1.hp (eS h2)
 rw [← hs] at hC
 replace hS := hs.trans (congrArg (fun z => fK z ap (dV bp bq ap)) hS)
 refine aB (aC ⟨dQ, ?_⟩)
 refine cF (cX (aC (aA (wq (bM rfl rfl (by first | decide | omega) (by first | decide | omega)) rfl (aT 30 (.int .i64 1) (iE (by first | decide | omega)) (aV rfl rfl ?_))))))
 refine aB (aC (gW (aD (aA (cT rfl rfl rfl rfl (kR 21 rfl (by first | decide | omega) (aB (aC (aD ?_)))))))))
 refine cO rfl (aK (aC (aD (aS (aD (aA (wq (mM 1 _ tP bH rfl rfl (by decide) (by decide) rfl rfl) rfl (aR fZ M14 rfl rfl (fun b15 w15 M15 => (bC 8 _ bH M15 rfl rfl rfl rfl rfl (aQ rfl) rfl (fun w16 M16 => (aB (aC ?_)))))))))))))
 refine bQ [(0, 0), (1, 1), (2, 1), (3, 1), (4, 1), (5, 2), (6, 2)] mixed rfl (by kernel_rfl) (fun w17 hb17 hh17 => ?_)
 have M17 := M16.drew hb17 hh17
 refine aY rfl rfl rfl (fun _ => aG (.func _ _ _) rfl) (cD rfl rfl rfl (bA 8 bH M17 rfl rfl rfl) (cD rfl rfl rfl (bA 2 bH M17 rfl rfl rfl) (cD rfl rfl rfl (bA 3 bH M17 rfl rfl rfl) (cD rfl rfl rfl (bA 8 bH M17 rfl rfl rfl) (dP [true, true, true, false] rfl (by kernel_rfl) ?_)))))
 refine bV aCv rfl rfl (jW _ bp bq aq h2 h1.hq) ?_
 rintro v18 w18 ⟨rfl, hb18⟩
 have M18 := M17.callB hb18
 refine aB (aC ⟨(eK (bN rfl (bA 8 bH M18 rfl rfl rfl)) dQ), ?_⟩)
 refine dP [true] rfl (by kernel_rfl) (bV aDf rfl rfl (wB _ s aq (dV bp bq aq) _ _ _ h1.hq (eS h2) (M18.ownSeg 4 3)) ?_)
 rintro v19 w19 ⟨rfl, hM19⟩
 have M19 : Mem _ _ [_, _, _, _, _, _, _, _, _] _ := M18.seg 4 3 hM19
 obtain ⟨s, hs⟩ : ∃ z, z = fK s aq (dV bp bq aq) := ⟨_, rfl⟩
 rw [← hs] at M19
 replace hC := hC.step (x := aq) (y := (dV bp bq aq)) h1.hq (eS h2)
 rw [← hs] at hC
 replace hS := hs.trans (congrArg (fun z => fK z aq (dV bp bq aq)) hS)
 refine aB (aC ⟨dQ, ?_⟩)
 refine cF (cX (aC (aA (wq (bM rfl rfl (by first | decide | omega) (by first | decide | omega)) rfl (aT 30 (.int .i64 2) (iE (by first | decide | omega)) (aV rfl rfl ?_))))))
 refine aB (aC (gW (aD (aA (cT rfl rfl rfl rfl (tF 21 rfl (by first | decide | omega) (aB (aC (aD ?_)))))))))
 refine bX rfl (cP (dA (dA (eT (aC (aD (aD (aA (wq (bA 2 bH M19 rfl rfl rfl) rfl ?_)))))))))
 refine wq (bA 3 bH M19 rfl rfl rfl) rfl (wq (oQ [.agg (List.toArray _), .agg (List.toArray _)] tP aLr rfl rfl (dI rfl)) rfl (aV rfl rfl (aB (aC (aS (lQ 3 (gW (aD (aA ?_)))))))))
 refine cT rfl rfl rfl rfl (kR 35 rfl (by first | decide | omega) (aB (aC (aD (cO rfl (aK (aC (aD (aS (aD (aA (wq (mM 0 _ tP bH rfl rfl (by decide) (by decide) rfl rfl) rfl ?_))))))))))))
 refine aR fZ M19 rfl rfl (fun b20 w20 M20 => (bC 9 _ bH M20 rfl rfl rfl rfl rfl (aQ rfl) rfl (fun w21 M21 => (aB (aC (bQ [(0, 0), (1, 1), (2, 1), (3, 1), (5, 1), (4, 2), (6, 2)] mixed rfl (by kernel_rfl) (fun w22 hb22 hh22 => ?_)))))))
 have M22 := M21.drew hb22 hh22
 refine aY rfl rfl rfl (fun _ => aG (.func _ _ _) rfl) (cD rfl rfl rfl (bA 0 bH M22 rfl rfl rfl) (cD rfl rfl rfl (bA 1 bH M22 rfl rfl rfl) (cD rfl rfl rfl (bA 9 bH M22 rfl rfl rfl) (cD rfl rfl rfl (bA 9 bH M22 rfl rfl rfl) (dP [false, true, true, true] rfl (by kernel_rfl) ?_)))))
 refine bV aCv rfl rfl (jW _ ap aq bp h1 h2.hp) ?_
 rintro v23 w23 ⟨rfl, hb23⟩
 have M23 := M22.callB hb23
 refine aB (aC ⟨(eK (bN rfl (bA 9 bH M23 rfl rfl rfl)) dQ), ?_⟩)
 refine dP [true] rfl (by kernel_rfl) (bV aDf rfl rfl (wB _ s (dV ap aq bp) bp _ _ _ (eS h1) h2.hp (M23.ownSeg 4 3)) ?_)
 rintro v24 w24 ⟨rfl, hM24⟩
 have M24 : Mem _ _ [_, _, _, _, _, _, _, _, _, _] _ := M23.seg 4 3 hM24
 obtain ⟨s, hs⟩ : ∃ z, z = fK s (dV ap aq bp) bp := ⟨_, rfl⟩
 rw [← hs] at M24
 replace hC := hC.step (x := (dV ap aq bp)) (y := bp) (eS h1) h2.hp
 rw [← hs] at hC
 replace hS := hs.trans (congrArg (fun z => fK z (dV ap aq bp) bp) hS)
 refine aB (aC ⟨dQ, ?_⟩)
 refine cF (cX (aC (aA (wq (bM rfl rfl (by first | decide | omega) (by first | decide | omega)) rfl (aT 44 (.int .i64 1) (iE (by first | decide | omega)) (aV rfl rfl ?_))))))
 refine aB (aC (gW (aD (aA (cT rfl rfl rfl rfl (kR 35 rfl (by first | decide | omega) (aB (aC (aD ?_)))))))))
 refine cO rfl (aK (aC (aD (aS (aD (aA (wq (mM 1 _ tP bH rfl rfl (by decide) (by decide) rfl rfl) rfl (aR fZ M24 rfl rfl (fun b25 w25 M25 => (bC 10 _ bH M25 rfl rfl rfl rfl rfl (aQ rfl) rfl (fun w26 M26 => (aB (aC ?_)))))))))))))
 refine bQ [(0, 0), (1, 1), (2, 1), (3, 1), (5, 1), (4, 2), (6, 2)] mixed rfl (by kernel_rfl) (fun w27 hb27 hh27 => ?_)
 have M27 := M26.drew hb27 hh27
 refine aY rfl rfl rfl (fun _ => aG (.func _ _ _) rfl) (cD rfl rfl rfl (bA 0 bH M27 rfl rfl rfl) (cD rfl rfl rfl (bA 1 bH M27 rfl rfl rfl) (cD rfl rfl rfl (bA 10 bH M27 rfl rfl rfl) (cD rfl rfl rfl (bA 10 bH M27 rfl rfl rfl) (dP [false, true, true, true] rfl (by kernel_rfl) ?_)))))
 refine bV aCv rfl rfl (jW _ ap aq bq h1 h2.hq) ?_
 rintro v28 w28 ⟨rfl, hb28⟩
 have M28 := M27.callB hb28
 refine aB (aC ⟨(eK (bN rfl (bA 10 bH M28 rfl rfl rfl)) dQ), ?_⟩)
 refine dP [true] rfl (by kernel_rfl) (bV aDf rfl rfl (wB _ s (dV ap aq bq) bq _ _ _ (eS h1) h2.hq (M28.ownSeg 4 3)) ?_)
 rintro v29 w29 ⟨rfl, hM29⟩
 have M29 : Mem _ _ [_, _, _, _, _, _, _, _, _, _, _] _ := M28.seg 4 3 hM29
 obtain ⟨s, hs⟩ : ∃ z, z = fK s (dV ap aq bq) bq := ⟨_, rfl⟩
 rw [← hs] at M29
 replace hC := hC.step (x := (dV ap aq bq)) (y := bq) (eS h1) h2.hq
 rw [← hs] at hC
 replace hS := hs.trans (congrArg (fun z => fK z (dV ap aq bq) bq) hS)
 refine aB (aC ⟨dQ, ?_⟩)
 refine cF (cX (aC (aA (wq (bM rfl rfl (by first | decide | omega) (by first | decide | omega)) rfl (aT 44 (.int .i64 2) (iE (by first | decide | omega)) (aV rfl rfl ?_))))))
 refine aB (aC (gW (aD (aA (cT rfl rfl rfl rfl (tF 35 rfl (by first | decide | omega) (aB (aC (aD ?_)))))))))
 refine bX rfl (cP (dA (dA (eT (aC (aD (bQ [(0, 1), (1, 1), (2, 1), (3, 2), (4, 2), (5, 2)] mixed rfl (by kernel_rfl) (fun w30 hb30 hh30 => ?_))))))))
 have M30 := M29.drew hb30 hh30
 refine cD rfl rfl rfl (bA 4 bH M30 rfl rfl rfl) (cD rfl rfl rfl (bA 5 bH M30 rfl rfl rfl) (cD rfl rfl rfl (aM 6 (.int _ _) pG M30 rfl rfl rfl) (dP [false, false, true] rfl (by kernel_rfl) (bC 4 _ bH M30 rfl rfl rfl rfl rfl (aQ rfl) rfl (fun w31 M31 => ?_)))))
 refine aB (aC ⟨(eK (bN rfl (aM 6 (.int _ _) pG M31 rfl rfl rfl)) (eK (bN rfl (bA 5 bH M31 rfl rfl rfl)) dQ)), ?_⟩)
 refine dP [false, true] rfl (by kernel_rfl) (bC 5 _ bH M31 rfl rfl rfl rfl rfl (aQ rfl) rfl (fun w32 M32 => ?_))
 refine aB (aC ⟨(eK (bN rfl (aM 6 (.int _ _) pG M32 rfl rfl rfl)) dQ), ?_⟩)
 refine dP [true] rfl (by kernel_rfl) (dH 6 (.int _ _) pG M32 rfl rfl rfl rfl rfl rfl (fun w33 M33 => ?_))
 refine aB (aC ⟨dQ, ?_⟩)
 refine cF (aC (aN (bBj 4 5 6 bH pG M33 rfl rfl rfl rfl rfl rfl rfl rfl ?_)))
 exact ⟨by rw [show s = oX ap aq bp bq from hS], M33.below⟩
set_option maxHeartbeats 4000000 in
theorem aJw (w : World) (ap aq bp bq : Pt) (h1 : SgI ap aq) (h2 : SgI bp bq) :
  Calls Tryz.prog 199 #[(.agg (cL ap).toArray), (.agg (cL aq).toArray), (.agg (cL bp).toArray), (.agg (cL bq).toArray)] w (fun ex w' => ∃ v, ex = .returned v ∧ (fun v w' => v = .tuple #[(.agg (cL (oX ap aq bp bq).1).toArray), (.agg (cL (oX ap aq bp bq).2.1).toArray)] ∧ Below w.heap.size w w') v w') := by
 refine aH #[.cell 8 38, .cell 9 38] 21 Tryz.func199 rfl Tryz.results199 Tryz.ntmps199 rfl ?_
 have M0 := Mem.refl w
 refine aD (aA (bK (.agg (List.toArray _)) M0 rfl rfl rfl (fun b1 w1 M1 => (bK (.agg (List.toArray _)) M1 rfl rfl rfl (fun b2 w2 M2 => (bK (.agg (List.toArray _)) M2 rfl rfl rfl (fun b3 w3 M3 => (bK (.agg (List.toArray _)) M3 rfl rfl rfl (fun b4 w4 M4 => (aR fZ M4 rfl rfl (fun b5 w5 M5 => ?_)))))))))))
 refine aR fZ M5 rfl rfl (fun b6 w6 M6 => (aB (aC (aD (aA (wq (bA 0 bH M6 rfl rfl rfl) rfl (wq (bA 1 bH M6 rfl rfl rfl) rfl (wq (bA 2 bH M6 rfl rfl rfl) rfl (wq (bA 3 bH M6 rfl rfl rfl) rfl ?_)))))))))
 refine bV bDc rfl rfl (aJn _ ap aq bp bq h1 h2) ?_
 rintro v7 w7 ⟨rfl, hb7⟩
 have M7 := M6.callB hb7
 refine wq (aG (.tuple (List.toArray _)) rfl) rfl (wq (bE (.agg (List.toArray _)) rfl rfl) rfl (wq (bE (.agg (List.toArray _)) rfl rfl) rfl (wq (bE (.int _ _) rfl rfl) rfl (bC 4 _ bH M7 rfl rfl rfl rfl rfl (aQ rfl) rfl (fun w8 M8 => (bC 5 _ bH M8 rfl rfl rfl rfl rfl (aQ rfl) rfl (fun w9 M9 => ?_)))))))
 refine aB (aC (aD (bQ [(0, 1), (1, 1), (2, 2), (3, 2)] mixed rfl (by kernel_rfl) (fun w10 hb10 hh10 => ?_))))
 have M10 := M9.drew hb10 hh10
 refine cD rfl rfl rfl (bA 4 bH M10 rfl rfl rfl) (cD rfl rfl rfl (bA 5 bH M10 rfl rfl rfl) (dP [false, true] rfl (by kernel_rfl) (bC 4 _ bH M10 rfl rfl rfl rfl rfl (aQ rfl) rfl (fun w11 M11 => ?_))))
 refine aB (aC ⟨(eK (bN rfl (bA 5 bH M11 rfl rfl rfl)) dQ), ?_⟩)
 refine dP [true] rfl (by kernel_rfl) (bC 5 _ bH M11 rfl rfl rfl rfl rfl (aQ rfl) rfl (fun w12 M12 => ?_))
 refine aB (aC ⟨dQ, ?_⟩)
 refine cF (aC (aN (aMo 4 5 bH M12 rfl rfl rfl rfl rfl rfl ?_)))
 exact ⟨rfl, M12.below⟩
set_option maxHeartbeats 4000000 in
theorem wL (w : World) (b : Body) (hb : Okb b) :
  Calls Tryz.prog 198 #[(.agg (aF b).toArray)] w (fun ex w' => ∃ v, ex = .returned v ∧ (fun v w' => v = (.agg (lG b).toArray) ∧ Below w.heap.size w w') v w') := by
 refine aH #[.cell 2 239] 14 Tryz.func198 rfl Tryz.results198 Tryz.ntmps198 rfl ?_
 have M0 := Mem.refl w
 refine aD (aA (bK (.agg (List.toArray _)) M0 rfl rfl rfl (fun b1 w1 M1 => (aR rZ M1 rfl rfl (fun b2 w2 M2 => (aB (aC (aD (aA (wq (bA 0 bP M2 rfl rfl rfl) rfl (bV bAk rfl rfl (aPe _ b hb) ?_)))))))))))
 rintro v3 w3 ⟨rfl, hb3⟩
 have M3 := M2.callB hb3
 refine wq (aG (.tuple (List.toArray _)) rfl) rfl (wq (bE (.agg (List.toArray _)) rfl rfl) rfl (wq (bE (.agg (List.toArray _)) rfl rfl) rfl (aR fZ M3 rfl rfl (fun b4 w4 M4 => (aR fZ M4 rfl rfl (fun b5 w5 M5 => (bC 2 _ bH M5 rfl rfl rfl rfl rfl (aQ rfl) rfl (fun w6 M6 => ?_))))))))
 refine bC 3 _ bH M6 rfl rfl rfl rfl rfl (aQ rfl) rfl (fun w7 M7 => (aB (aC (aD (aA (wq (bA 0 bP M7 rfl rfl rfl) rfl (wq (bA 2 bH M7 rfl rfl rfl) rfl (wq (bA 3 bH M7 rfl rfl rfl) rfl (wq (cN [(0, .agg (List.toArray _)), (1, .agg (List.toArray _)), (2, .agg (List.toArray _))] _ aPa rfl rfl) rfl ?_)))))))))
 refine bC 1 _ kP M7 rfl rfl rfl rfl rfl (aQ rfl) rfl (fun w8 M8 => (aB (aC (aN (fR 1 kP M8 rfl rfl rfl ?_)))))
 exact ⟨rfl, M8.below⟩
set_option maxHeartbeats 4000000 in
theorem aWk (w : World) (a b : Body) (ha : Okb a) (hb : Okb b) :
  Calls Tryz.prog 171 #[(.agg (aF a).toArray), (.agg (aF b).toArray)] w (fun ex w' => ∃ v, ex = .returned v ∧ (fun v w' => v = .tuple #[(.agg (lG (loB a b)).toArray), (.agg (lG (hiB a b)).toArray)] ∧ Below w.heap.size w w') v w') := by
 refine aH #[.cell 4 239, .cell 5 239] 17 Tryz.func171 rfl Tryz.results171 Tryz.ntmps171 rfl ?_
 have M0 := Mem.refl w
 refine aD (aA (bK (.agg (List.toArray _)) M0 rfl rfl rfl (fun b1 w1 M1 => (bK (.agg (List.toArray _)) M1 rfl rfl rfl (fun b2 w2 M2 => (aR rZ M2 rfl rfl (fun b3 w3 M3 => (aR rZ M3 rfl rfl (fun b4 w4 M4 => (aB (aC (aD (aD (aA ?_))))))))))))))
 refine wq (aE 0 eZ rfl) rfl (wq (aM 0 (.int _ _) bZ M4 rfl rfl rfl) rfl (wq (aE 0 eZ rfl) rfl (wq (aM 1 (.int _ _) bZ M4 rfl rfl rfl) rfl (cT rfl rfl rfl rfl (aB (aC ?_))))))
 refine aW rfl (fun h10 => ?_) (fun h10 => ?_)
 ·refine aA (wq (bA 1 bP M4 rfl rfl rfl) rfl (wq (bA 0 bP M4 rfl rfl rfl) rfl (bC 0 _ bP M4 rfl rfl rfl rfl rfl (aQ rfl) rfl (fun w5 M5 => (bC 1 _ bP M5 rfl rfl rfl rfl rfl (aQ rfl) rfl (fun w6 M6 => (aB (aC (aD ?_)))))))))
  refine bQ [(0, 1), (2, 1), (1, 2), (3, 2), (4, 2), (5, 2)] mixed rfl (by kernel_rfl) (fun w7 hb7 hh7 => ?_)
  have M7 := M6.drew hb7 hh7
  refine cD rfl rfl rfl (bA 0 bP M7 rfl rfl rfl) (cD rfl rfl rfl (bA 1 bP M7 rfl rfl rfl) (dP [false, true] rfl (by kernel_rfl) (bV aEo rfl rfl (wL _ b hb) ?_)))
  rintro v8 w8 ⟨rfl, hb8⟩
  have M8 := M7.callB hb8
  refine aB (aC ⟨(eK (bN rfl (bA 1 bP M8 rfl rfl rfl)) dQ), ?_⟩)
  refine dP [true] rfl (by kernel_rfl) (bV aEo rfl rfl (wL _ a ha) ?_)
  rintro v9 w9 ⟨rfl, hb9⟩
  have M9 := M8.callB hb9
  refine aB (aC ⟨dQ, ?_⟩)
  refine dP [] rfl (by kernel_rfl) (bC 2 _ kP M9 rfl rfl rfl rfl rfl (aQ rfl) rfl (fun w10 M10 => ?_))
  refine aB (aC ⟨dQ, ?_⟩)
  refine dP [] rfl (by kernel_rfl) (bC 3 _ kP M10 rfl rfl rfl rfl rfl (aQ rfl) rfl (fun w11 M11 => ?_))
  refine aB (aC ⟨dQ, ?_⟩)
  refine cF (aC (aN (aMo 2 3 kP M11 rfl rfl rfl rfl rfl rfl ?_)))
  exact ⟨by unfold loB hiB; first | rw [if_pos (by omega), if_pos (by omega)] | rw [if_neg (by omega), if_neg (by omega)], M11.below⟩
 ·refine aK (aC (aD (bQ [(0, 1), (2, 1), (1, 2), (3, 2), (4, 2), (5, 2)] mixed rfl (by kernel_rfl) (fun w12 hb12 hh12 => ?_))))
  have M12 := M4.drew hb12 hh12
  refine cD rfl rfl rfl (bA 0 bP M12 rfl rfl rfl) (cD rfl rfl rfl (bA 1 bP M12 rfl rfl rfl) (dP [false, true] rfl (by kernel_rfl) (bV aEo rfl rfl (wL _ a ha) ?_)))
  rintro v13 w13 ⟨rfl, hb13⟩
  have M13 := M12.callB hb13
  refine aB (aC ⟨(eK (bN rfl (bA 1 bP M13 rfl rfl rfl)) dQ), ?_⟩)
  refine dP [true] rfl (by kernel_rfl) (bV aEo rfl rfl (wL _ b hb) ?_)
  rintro v14 w14 ⟨rfl, hb14⟩
  have M14 := M13.callB hb14
  refine aB (aC ⟨dQ, ?_⟩)
  refine dP [] rfl (by kernel_rfl) (bC 2 _ kP M14 rfl rfl rfl rfl rfl (aQ rfl) rfl (fun w15 M15 => ?_))
  refine aB (aC ⟨dQ, ?_⟩)
  refine dP [] rfl (by kernel_rfl) (bC 3 _ kP M15 rfl rfl rfl rfl rfl (aQ rfl) rfl (fun w16 M16 => ?_))
  refine aB (aC ⟨dQ, ?_⟩)
  refine cF (aC (aN (aMo 2 3 kP M16 rfl rfl rfl rfl rfl rfl ?_)))
  exact ⟨by unfold loB hiB; first | rw [if_pos (by omega), if_pos (by omega)] | rw [if_neg (by omega), if_neg (by omega)], M16.below⟩
set_option maxHeartbeats 4000000 in
theorem aXo (w : World) (a b : Body) (ha : Okb a) (hb : Okb b) :
  Calls Tryz.prog 172 #[(.agg (lG a).toArray), (.agg (lG b).toArray)] w (fun ex w' => ∃ v, ex = .returned v ∧ (fun v w' => v = .tuple #[.int .i64 (yE (vO a b)), .int .i64 (xG (vO a b)), .int .i64 (a.radius + b.radius)] ∧ Below w.heap.size w w') v w') := by
 have hra := ha.r
 have hrb := hb.r
 have hch := xV ha hb
 refine aH #[.tmp 4, .tmp 5, .tmp 6] 38 Tryz.func172 rfl Tryz.results172 Tryz.ntmps172 rfl ?_
 have M0 := Mem.refl w
 refine aD (aA (bK (.agg (List.toArray _)) M0 rfl rfl rfl (fun b1 w1 M1 => (bK (.agg (List.toArray _)) M1 rfl rfl rfl (fun b2 w2 M2 => (bJ rfl rfl (bJ rfl rfl (bJ rfl rfl ?_))))))))
 refine aB (aC (aD (aA (wq (aE 10 aFy rfl) rfl (wq (mS 0 _ bH M2 rfl rfl rfl rfl) rfl (wq (aE 12 aHk rfl) rfl (wq (mS 0 _ bH M2 rfl rfl rfl rfl) rfl (wq (aE 10 aFy rfl) rfl ?_))))))))
 refine wq (mS 1 _ bH M2 rfl rfl rfl rfl) rfl (wq (aE 12 aHk rfl) rfl (wq (mS 1 _ bH M2 rfl rfl rfl rfl) rfl (bV bBa rfl rfl (aJw _ (aFd a) (aFa a) (aFd b) (aFa b) (wN ha) (wN hb)) ?_)))
 rintro v3 w3 ⟨rfl, hb3⟩
 have M3 := M2.callB hb3
 refine wq (aG (.tuple (List.toArray _)) rfl) rfl (wq (bE (.agg (List.toArray _)) rfl rfl) rfl (wq (bE (.agg (List.toArray _)) rfl rfl) rfl (aR fZ M3 rfl rfl (fun b4 w4 M4 => (aR fZ M4 rfl rfl (fun b5 w5 M5 => (bC 2 _ bH M5 rfl rfl rfl rfl rfl (aQ rfl) rfl (fun w6 M6 => ?_))))))))
 refine bC 3 _ bH M6 rfl rfl rfl rfl rfl (aQ rfl) rfl (fun w7 M7 => (aB (aC (aD (aA (wq (bA 2 bH M7 rfl rfl rfl) rfl (wq (bA 3 bH M7 rfl rfl rfl) rfl (bV zC rfl rfl (oN _ (vO a b).1 (vO a b).2.1 hch.a.i32 hch.b.i32) ?_))))))))
 rintro v8 w8 ⟨rfl, hb8⟩
 have M8 := M7.callB hb8
 refine wq (aG (.tuple (List.toArray _)) rfl) rfl (wq (bE (.int _ _) rfl rfl) rfl (wq (bE (.int _ _) rfl rfl) rfl (bJ rfl rfl (bJ rfl rfl (aB (aC (aD ?_)))))))
 refine bQ [(0, 0), (1, 0), (2, 0), (3, 0), (4, 1), (5, 0), (6, 0), (7, 0), (8, 1), (9, 0), (10, 0), (11, 0), (12, 0), (13, 0)] mixed rfl (by kernel_rfl) (fun w9 hb9 hh9 => ?_)
 have M9 := M8.drew hb9 hh9
 refine gG rfl rfl rfl (gG rfl rfl rfl (aY rfl rfl rfl (fun _ => aE 0 sD rfl) (aY rfl rfl rfl (fun _ => aE 1 nN rfl) (cD rfl rfl rfl (aM 0 (.int _ _) aU M9 rfl rfl rfl) (aY rfl rfl rfl (fun _ => bU fL Tryz.underlying2 rfl (kJ _ (by omega) (by omega))) ?_)))))
 refine aY rfl rfl rfl (fun _ => aE 0 sD rfl) (aY rfl rfl rfl (fun _ => aE 1 nN rfl) (cD rfl rfl rfl (aM 1 (.int _ _) aU M9 rfl rfl rfl) (aY rfl rfl rfl (fun _ => bU fL Tryz.underlying2 rfl (kJ _ (by omega) (by omega))) (aY rfl rfl rfl (fun _ => bM rfl rfl (by omega) (by omega)) ?_))))
 refine pX rfl rfl rfl (pX rfl rfl rfl (pX rfl rfl rfl (cF (aC (aN (bGa (.int _ _) (.int _ _) (.int _ _) rfl rfl rfl ?_))))))
 exact ⟨rfl, M9.below⟩
set_option maxHeartbeats 4000000 in
theorem zD (w : World) (a b : Body) (ha : Okb a) (hb : Okb b) :
  Calls Tryz.prog 137 #[(.agg (aF a).toArray), (.agg (aF b).toArray)] w (fun ex w' => ∃ v, ex = .returned v ∧ (fun v w' => v = .tuple #[.agg (bBv (oD a b)).toArray, .bool (oD a b).isSome] ∧ Below w.heap.size w w') v w') := by
 obtain ⟨hlo, hhi⟩ := bBe ha hb
 have hd := aYy hlo hhi
 have hl := aDz hd.1 hd.2
 have hss := bBl hlo hhi
 have hr1 := hlo.r
 have hr2 := hhi.r
 refine aH #[.cell 4 121, .tmp 5] 52 Tryz.func137 rfl Tryz.results137 Tryz.ntmps137 rfl ?_
 have M0 := Mem.refl w
 refine aD (aA (bK (.agg (List.toArray _)) M0 rfl rfl rfl (fun b1 w1 M1 => (bK (.agg (List.toArray _)) M1 rfl rfl rfl (fun b2 w2 M2 => (aR sJ M2 rfl rfl (fun b3 w3 M3 => (wq (aI (.bool false) rfl) rfl (aB (aC (aD (aA ?_))))))))))))
 refine wq (bA 0 bP M3 rfl rfl rfl) rfl (wq (bA 1 bP M3 rfl rfl rfl) rfl (bV bDf rfl rfl (aWk _ a b ha hb) ?_))
 rintro v4 w4 ⟨rfl, hb4⟩
 have M4 := M3.callB hb4
 refine wq (aG (.tuple (List.toArray _)) rfl) rfl (wq (bE (.agg (List.toArray _)) rfl rfl) rfl (wq (bE (.agg (List.toArray _)) rfl rfl) rfl (aR rZ M4 rfl rfl (fun b5 w5 M5 => (aR rZ M5 rfl rfl (fun b6 w6 M6 => (bC 3 _ kP M6 rfl rfl rfl rfl rfl (aQ rfl) rfl (fun w7 M7 => ?_))))))))
 refine bC 4 _ kP M7 rfl rfl rfl rfl rfl (aQ rfl) rfl (fun w8 M8 => (aB (aC (aD (aA (wq (bA 3 kP M8 rfl rfl rfl) rfl (wq (bA 4 kP M8 rfl rfl rfl) rfl (bV bAj rfl rfl (aXo _ (loB a b) (hiB a b) hlo hhi) ?_))))))))
 rintro v9 w9 ⟨rfl, hb9⟩
 have M9 := M8.callB hb9
 refine wq (aG (.tuple (List.toArray _)) rfl) rfl (wq (bE (.int _ _) rfl rfl) rfl (wq (bE (.int _ _) rfl rfl) rfl (wq (bE (.int _ _) rfl rfl) rfl (bJ rfl rfl (bJ rfl rfl ?_)))))
 refine bJ rfl rfl (aB (aC (aD (aD (aA (aV rfl rfl (aV rfl rfl (bV aIr rfl rfl (nL _ (yE (vO (loB a b) (hiB a b))) (xG (vO (loB a b) (hiB a b))) hd.1 hd.2) ?_))))))))
 rintro v10 w10 ⟨rfl, hb10⟩
 have M10 := M9.callB hb10
 refine aV rfl rfl (aV rfl rfl (wq (fT rfl rfl (by omega) (by omega)) rfl (wq (dT us2 Tryz.underlying170 rfl) rfl (aT 31 (.int .u64 ((((loB a b).radius + (hiB a b).radius).natAbs * ((loB a b).radius + (hiB a b).radius).natAbs : Nat) : Int)) (iE (aYb _ hss)) (cT rfl rfl rfl rfl ?_)))))
 refine aB (aC ?_)
 refine aW rfl (fun h32 => ?_) (fun h32 => ?_)
 ·refine aD (aA (wq (cN [] _ aBx rfl rfl) rfl (bC 2 _ gE M10 rfl rfl rfl rfl rfl (aQ rfl) rfl (fun w11 M11 => (wq (aI (.bool false) rfl) rfl (aB (aC (aN (cE (aCe (v2 := .bool false) 2 gE M11 rfl rfl rfl rfl ?_))))))))))
  exact ⟨by rw [aGi]; unfold nM; first | (rw [if_pos (by omega)]; rfl) | (rw [if_neg (by omega)]; rfl), M11.below⟩
 ·refine aK (aC (aD (aA (wq (aE 0 sD rfl) rfl (wq (aE 0 eZ rfl) rfl (wq (aM 3 (.int _ _) bZ M10 rfl rfl rfl) rfl (wq (aE 0 sD rfl) rfl (wq (aE 0 eZ rfl) rfl ?_))))))))
  refine wq (aM 4 (.int _ _) bZ M10 rfl rfl rfl) rfl (wq (cN [(0, .int _ _), (1, .int _ _)] _ aBw rfl rfl) rfl (aR qD M10 rfl rfl (fun b12 w12 M12 => (bC 5 _ fQ M12 rfl rfl rfl rfl rfl (aQ rfl) rfl (fun w13 M13 => (aB (aC (aD (bQ [(0, 1), (1, 0), (2, 0), (4, 0), (5, 0), (6, 0), (3, 2), (7, 2), (8, 0), (9, 0), (10, 0), (11, 2), (12, 0)] mixed rfl (by kernel_rfl) (fun w14 hb14 hh14 => ?_))))))))))
  have M14 := M13.drew hb14 hh14
  refine cD rfl rfl rfl (bA 5 fQ M14 rfl rfl rfl) (gG rfl rfl rfl (gG rfl rfl rfl (gG rfl rfl rfl (gG rfl rfl rfl (gG rfl rfl rfl ?_)))))
  refine dP [false] rfl (by kernel_rfl) (bV bAu rfl rfl (aRs _ (yE (vO (loB a b) (hiB a b))) (xG (vO (loB a b) (hiB a b))) hd.1 hd.2) ?_)
  rintro v15 w15 ⟨rfl, hb15⟩
  have M15 := M14.callB hb15
  refine aB (aC ⟨(eK (bN rfl (bA 5 fQ M15 rfl rfl rfl)) dQ), ?_⟩)
  refine dP [false] rfl (by kernel_rfl) (bV aSk rfl rfl (yH _ (yE (vO (loB a b) (hiB a b))) (xG (vO (loB a b) (hiB a b))) hd.1 hd.2) ?_)
  rintro v16 w16 ⟨rfl, hb16⟩
  have M16 := M15.callB hb16
  refine aB (aC ⟨(eK (bN rfl (bA 5 fQ M16 rfl rfl rfl)) dQ), ?_⟩)
  refine aY rfl rfl rfl (fun _ => nE rfl rfl (by omega) (by omega)) (aY rfl rfl rfl (fun _ => dT us2 Tryz.underlying21 rfl) (aY rfl rfl rfl (fun _ => cN [(0, .agg (List.toArray _)), (1, .agg (List.toArray _)), (2, .int _ _)] _ aBx rfl rfl) (dP [true] rfl (by kernel_rfl) (bC 2 _ gE M16 rfl rfl rfl rfl rfl (aQ rfl) rfl (fun w17 M17 => ?_)))))
  refine aB (aC ⟨dQ, ?_⟩)
  refine aY rfl rfl rfl (fun _ => aI (.bool true) rfl) (cF (aC (aN (aCe (v2 := .bool true) 2 gE M17 rfl rfl rfl rfl ?_))))
  exact ⟨by rw [aGi]; unfold nM; first | (rw [if_pos (by omega)]; rfl) | (rw [if_neg (by omega)]; rfl), M17.below⟩
end Go.Proofs.YtlmcphcgiclanaaGreatDoor
