/- Part of the proof of the laws of this seat: Z1, Z1b, Z1c, Z1d, W3, Z2, W4, Z3, Z4, W5, W6. No conditions. -/
import Derived.Test.YtaoaknafiegfoaaGreatDoorK2
import Derived.Test.YtaoaknafiegfoaaGreatDoorK5
import Derived.Test.YtaoaknafiegfoaaGreatDoorK12
import Derived.Test.YtaoaknafiegfoaaGreatDoorK18
import Derived.Test.YtaoaknafiegfoaaGreatDoorK11
import Derived.Test.YtaoaknafiegfoaaGreatDoorK17
set_option linter.unusedVariables false
set_option linter.unusedSimpArgs false
set_option linter.unnecessarySimpa false
namespace Go.Proofs.YtaoaknafiegfoaaGreatDoor
open Go.Bil
open Go.RowKit (Below)
open Go.Proofs
set_option maxHeartbeats 8000000 in
theorem bJa (w : World) (n : Nat) (hn : n < 18446744073709551616) :
  Calls Tryz.prog 242 #[.int .u64 (n : Int)] w (fun ex w' => ∃ v, ex = .returned v ∧ (fun v w' => v = .int .u64 ((vP n : Nat) : Int) ∧ Below w.heap.size w w') v w') := by
 refine aH #[.tmp 2] 32 Tryz.func242 rfl Tryz.results242 Tryz.ntmps242 rfl ?_
 have M0 := Mem.refl w
 refine aD (aA (bO rfl rfl (aB (aC (aD (aA (aY rfl rfl (bO rfl rfl (bO rfl rfl ?_)))))))))
 refine aB (aC (aD (aD (aA (aY rfl rfl (aB (aC (aT (dL (σ := Nat × Nat × Nat) [2] (fun (i, R, e) => [(8, .int .i64 (i : Int)), (3, .int .u64 ((n - R * R : Nat) : Int)), (4, .int .u64 ((R * e : Nat) : Int))]) (fun (i, R, e) w' => Iq n i R e ∧ Mem w [] [] w') (fun (i, R, e) => 32 - i) (0, 0, 4294967296) (bM rfl (bM (iv rfl (by simp)) (bM (iv rfl (by simp)) eX))) (⟨aZp hn, M0⟩) ?_)))))))))
 rintro ⟨i, R, e⟩ ρ1 w1 ⟨I, hM1⟩
 have hile := I.ile
 have hle := I.le
 refine aD (aA (cY rfl rfl rfl rfl (aB (aC (aD ?_)))))
 refine bB rfl (fun h9 => ?_) (fun h9 => ?_)
 ·obtain ⟨f, hf1, hf2, hf3, hf4, hf5, hf6, hf7, hf8, hfy, hfn⟩ := aZb (by omega) I
  refine aK (aC (aD (aT (aD (aA (aY rfl rfl (bO rfl rfl (aB (aC (aD (aA (aY rfl rfl (wq (gC rfl rfl (by omega) (by omega)) rfl ?_)))))))))))))
  refine wq (gO rfl rfl (by omega)) rfl (aV 13 (.int .u64 ((f * f : Nat) : Int)) (iE ((bAq (2 * i) _ (by omega) (by omega)).trans (congrArg _ hf4))) (bO rfl rfl (aB (aC (aD (aA (aY rfl rfl (aY rfl rfl ?_))))))))
  refine aY rfl rfl (wq (dY (.int _ _) rfl rfl rfl) rfl (aV 17 (.int .u64 ((R * e + f * f : Nat) : Int)) (iE (by rw [rZ]; omega)) (cY rfl rfl rfl rfl (aB (aC ?_)))))
  refine bB rfl (fun h18 => ?_) (fun h18 => ?_)
  ·have h18' : R * e + f * f ≤ n - R * R := by omega
   refine aD (aA (aY rfl rfl (aY rfl rfl (aY rfl rfl (wq (dY (.int _ _) rfl rfl rfl) rfl (aV 22 (.int .u64 ((R * e + f * f : Nat) : Int)) (iE (by rw [rZ]; omega)) ?_))))))
   refine wq (dY (.int _ _) rfl rfl rfl) rfl (aV 23 (.int .u64 ((n - (R + f) * (R + f) : Nat) : Int)) (iE (by rw [rZ]; omega)) (bO rfl rfl (aB (aC (aA (aY rfl rfl (wq (gO rfl rfl (by decide)) rfl ?_)))))))
   refine aV 25 (.int .u64 ((R * f : Nat) : Int)) (iE ((aWt (R * e)).trans (congrArg _ hf5))) (aY rfl rfl (wq (dY (.int _ _) rfl rfl rfl) rfl (aV 27 (.int .u64 (((R + f) * f : Nat) : Int)) (iE (by rw [rZ]; omega)) (bO rfl rfl (aB ?_)))))
   refine dE (aC (aA (wq (bQ rfl rfl (by omega) (by omega)) rfl (aY rfl rfl (aB ?_)))))
   refine cR (i + 1, R + f, f) (bM rfl (bM rfl (bM rfl eX))) (cV rfl kA) ?_ ?_
   ·exact ⟨hfy h18', hM1⟩
   ·(show 32 - (i + 1) < 32 - i; omega)
  ·have h18' : ¬ (R * e + f * f ≤ n - R * R) := by omega
   refine aA (aY rfl rfl (wq (gO rfl rfl (by decide)) rfl (aV 29 (.int .u64 ((R * f : Nat) : Int)) (iE ((aWt (R * e)).trans (congrArg _ hf5))) (bO rfl rfl (aB ?_)))))
   refine dE (aC (aA (wq (bQ rfl rfl (by omega) (by omega)) rfl (aY rfl rfl (aB ?_)))))
   refine cR (i + 1, R, f) (bM rfl (bM rfl (bM rfl eX))) (cV rfl kA) ?_ ?_
   ·exact ⟨hfn h18', hM1⟩
   ·(show 32 - (i + 1) < 32 - i; omega)
 ·obtain rfl : i = 32 := by omega
  refine cQ (dC (cX (eT (aC (aD (aA (aY rfl rfl ?_)))))))
  refine bO rfl rfl (aB (aC (aO (cD (.int _ _) rfl ?_))))
  exact ⟨iE (by rw [aZz I]), hM1.below⟩
set_option maxHeartbeats 4000000 in
theorem qH (w : World) (a b : Int × Int) (ha : I32 a) (hb : I32 b) :
  Calls Tryz.prog 239 #[(.agg (cO a).toArray), (.agg (cO b).toArray)] w (fun ex w' => ∃ v, ex = .returned v ∧ (fun v w' => v = .tuple #[.int .i64 (b.1 - a.1), .int .i64 (b.2 - a.2)] ∧ Below w.heap.size w w') v w') := by
 have hax := ha.x
 have hay := ha.y
 have hbx := hb.x
 have hby := hb.y
 refine aH #[.tmp 4, .tmp 5] 20 Tryz.func239 rfl Tryz.results239 Tryz.ntmps239 rfl ?_
 have M0 := Mem.refl w
 refine aD (aA (bE (.agg (List.toArray _)) M0 rfl rfl rfl (fun b1 w1 M1 => (bE (.agg (List.toArray _)) M1 rfl rfl rfl (fun b2 w2 M2 => (bO rfl rfl (bO rfl rfl (aB (aC (aD ?_))))))))))
 refine bP [(0, 0), (1, 1), (2, 0), (3, 0), (4, 1), (5, 0), (6, 0), (7, 0), (8, 1), (9, 0), (10, 0), (11, 1), (12, 0), (13, 0), (14, 0), (15, 0)] mixed rfl (by kernel_rfl) (fun w3 hb3 hh3 => ?_)
 have M3 := M2.drew hb3 hh3
 refine aX rfl rfl rfl (fun _ => aE 0 dW rfl) (bW rfl rfl rfl (aL 1 (.int _ _) aW M3 rfl rfl rfl) (aX rfl rfl rfl (fun _ => bU fV Tryz.underlying2 rfl (kO _ (by omega) (by omega))) (aX rfl rfl rfl (fun _ => aE 0 dW rfl) (bW rfl rfl rfl (aL 0 (.int _ _) aW M3 rfl rfl rfl) ?_))))
 refine aX rfl rfl rfl (fun _ => bU fV Tryz.underlying2 rfl (kO _ (by omega) (by omega))) (aX rfl rfl rfl (fun _ => nE rfl rfl (by omega) (by omega)) (aX rfl rfl rfl (fun _ => aE 1 dO rfl) (bW rfl rfl rfl (aL 1 (.int _ _) aW M3 rfl rfl rfl) (aX rfl rfl rfl (fun _ => bU fV Tryz.underlying2 rfl (kO _ (by omega) (by omega))) ?_))))
 refine aX rfl rfl rfl (fun _ => aE 1 dO rfl) (bW rfl rfl rfl (aL 0 (.int _ _) aW M3 rfl rfl rfl) (aX rfl rfl rfl (fun _ => bU fV Tryz.underlying2 rfl (kO _ (by omega) (by omega))) (aX rfl rfl rfl (fun _ => nE rfl rfl (by omega) (by omega)) (qO rfl rfl rfl (qO rfl rfl rfl ?_)))))
 refine cE (aC (aO (iM (.int _ _) (.int _ _) rfl rfl ?_)))
 exact ⟨rfl, M3.below⟩
set_option maxHeartbeats 4000000 in
theorem yE (w : World) (n : Int) (hn : wV n) :
  Calls Tryz.prog 240 #[.int .i64 n] w (fun ex w' => ∃ v, ex = .returned v ∧ (fun v w' => v = .int .u64 ((n.natAbs * n.natAbs : Nat) : Int) ∧ Below w.heap.size w w') v w') := by
 have hlt := (xK hn hn).2.1
 unfold wV at hn
 refine aH #[.tmp 2] 12 Tryz.func240 rfl Tryz.results240 Tryz.ntmps240 rfl ?_
 have M0 := Mem.refl w
 refine aD (aA (bO rfl rfl (aB (aC (aD (aD (aA (aY rfl rfl (cY rfl rfl rfl rfl (aB (aC ?_)))))))))))
 refine bB rfl (fun h4 => ?_) (fun h4 => ?_)
 ·refine aA (aY rfl rfl (wq (aBl rfl) rfl (aV 6 (.int .i64 (-n)) (iE (kO _ (by omega) (by omega))) (bO rfl rfl (aB (aC (aD (aA ?_))))))))
  refine aY rfl rfl (wq (dT us2 Tryz.underlying237 rfl) rfl (aV 8 (.int .u64 ((n.natAbs : Nat) : Int)) (iE (by rw [rZ]; omega)) (aY rfl rfl (wq (dT us2 Tryz.underlying237 rfl) rfl (aV 10 (.int .u64 ((n.natAbs : Nat) : Int)) (iE (by rw [rZ]; omega)) ?_)))))
  refine wq (dY (.int _ _) rfl rfl rfl) rfl (aV 11 (.int .u64 ((n.natAbs * n.natAbs : Nat) : Int)) (iE (aRf _ _ (by omega))) (bO rfl rfl (aB (aC (aO (cD (.int _ _) rfl ?_))))))
  exact ⟨rfl, M0.below⟩
 ·refine aK (aC (aD (aA (aY rfl rfl (wq (dT us2 Tryz.underlying237 rfl) rfl (aV 8 (.int .u64 ((n.natAbs : Nat) : Int)) (iE (by rw [rZ]; omega)) (aY rfl rfl (wq (dT us2 Tryz.underlying237 rfl) rfl ?_))))))))
  refine aV 10 (.int .u64 ((n.natAbs : Nat) : Int)) (iE (by rw [rZ]; omega)) (wq (dY (.int _ _) rfl rfl rfl) rfl (aV 11 (.int .u64 ((n.natAbs * n.natAbs : Nat) : Int)) (iE (aRf _ _ (by omega))) (bO rfl rfl (aB (aC (aO (cD (.int _ _) rfl ?_)))))))
  exact ⟨rfl, M0.below⟩
set_option maxHeartbeats 4000000 in
theorem oE (w : World) (dx dy : Int) (hx : wV dx) (hy : wV dy) :
  Calls Tryz.prog 216 #[.int .i64 dx, .int .i64 dy] w (fun ex w' => ∃ v, ex = .returned v ∧ (fun v w' => v = .int .u64 ((lsq dx dy : Nat) : Int) ∧ Below w.heap.size w w') v w') := by
 have hl := xK hx hy
 refine aH #[.tmp 4] 10 Tryz.func216 rfl Tryz.results216 Tryz.ntmps216 rfl ?_
 have M0 := Mem.refl w
 refine aD (aA (bO rfl rfl (aB (aC (aD (aA (aY rfl rfl (cA aWs rfl rfl (yE _ dx hx) ?_))))))))
 rintro v1 w1 ⟨rfl, hb1⟩
 have M1 := M0.callB hb1
 refine aY rfl rfl (cA aWs rfl rfl (yE _ dy hy) ?_)
 rintro v2 w2 ⟨rfl, hb2⟩
 have M2 := M1.callB hb2
 refine wq (dY (.int _ _) rfl rfl rfl) rfl (aV 9 (.int .u64 ((lsq dx dy : Nat) : Int)) (iE (by rw [rZ]; unfold lsq at *; omega)) (bO rfl rfl (aB (aC (aO (cD (.int _ _) rfl ?_))))))
 exact ⟨rfl, M2.below⟩
set_option maxHeartbeats 4000000 in
theorem zJ (w : World) (dx dy : Int) (hx : wV dx) (hy : wV dy) :
  Calls Tryz.prog 218 #[.int .i64 dx, .int .i64 dy] w (fun ex w' => ∃ v, ex = .returned v ∧ (fun v w' => v = .int .i64 (len dx dy) ∧ Below w.heap.size w w') v w') := by
 have hl := aDs hx hy
 refine aH #[.tmp 4] 10 Tryz.func218 rfl Tryz.results218 Tryz.ntmps218 rfl ?_
 have M0 := Mem.refl w
 refine aD (aA (bO rfl rfl (aB (aC (aD (aA (aY rfl rfl (aY rfl rfl (cA aIz rfl rfl (oE _ dx dy hx hy) ?_)))))))))
 rintro v1 w1 ⟨rfl, hb1⟩
 have M1 := M0.callB hb1
 refine cA bDr rfl rfl (bJa _ (lsq dx dy) (xK hx hy).1) ?_
 rintro v2 w2 ⟨rfl, hb2⟩
 have M2 := M1.callB hb2
 refine wq (dT aBg Tryz.underlying2 rfl) rfl (aV 9 (.int .i64 (len dx dy)) (iE (kO (len dx dy) (by omega) (by omega))) (bO rfl rfl (aB (aC (aO (cD (.int _ _) rfl ?_))))))
 exact ⟨rfl, M2.below⟩
set_option maxHeartbeats 4000000 in
theorem aBv (w : World) (a b : Int) (hb : 0 < b) (h0 : -1000000000000000000 ≤ a) (h1 : a ≤ 1000000000000000000) :
  Calls Tryz.prog 241 #[.int .i64 a, .int .i64 b] w (fun ex w' => ∃ v, ex = .returned v ∧ (fun v w' => v = .int .i64 (a / b) ∧ Below w.heap.size w w') v w') := by
 have hf := aHf (a := a) hb
 have hb1 := aJs a b
 refine aH #[.tmp 4] 16 Tryz.func241 rfl Tryz.results241 Tryz.ntmps241 rfl ?_
 have M0 := Mem.refl w
 refine aD (aA (bO rfl rfl (aB (aC (aD (aA (aY rfl rfl (aY rfl rfl (wq (aNw rfl rfl (by omega)) rfl ?_)))))))))
 refine aV 8 (.int .i64 (a.tdiv b)) (iE (kO _ (by omega) (by omega))) (bO rfl rfl (aB (aC (aD (aD (aA (aY rfl rfl (aY rfl rfl (wq (bBj rfl rfl (by omega)) rfl ?_)))))))))
 refine cY rfl rfl rfl rfl (aB (aC ?_))
 refine bB rfl (fun h12 => ?_) (fun h12 => ?_)
 ·refine aA (aY rfl rfl (wq (nE rfl rfl (by omega) (by omega)) rfl (bO rfl rfl (aB (aC (aD (aA (aY rfl rfl ?_))))))))
  refine bO rfl rfl (aB (aC (aO (cD (.int _ _) rfl ?_))))
  exact ⟨iE (by first | exact hf.1 (by omega) | exact hf.2 (by omega)), M0.below⟩
 ·refine aK (aC (aD (aA (aY rfl rfl (bO rfl rfl (aB (aC (aO (cD (.int _ _) rfl ?_)))))))))
  exact ⟨iE (by first | exact hf.1 (by omega) | exact hf.2 (by omega)), M0.below⟩
set_option maxHeartbeats 4000000 in
theorem aRo (w : World) (dx dy : Int) (hx : wV dx) (hy : wV dy) :
  Calls Tryz.prog 217 #[.int .i64 dx, .int .i64 dy] w (fun ex w' => ∃ v, ex = .returned v ∧ (fun v w' => v = (.agg (cO (pI dx dy)).toArray) ∧ Below w.heap.size w w') v w') := by
 have hl := aDs hx hy
 have hxx := hx
 have hyy := hy
 unfold wV at hxx hyy
 refine aH #[.cell 4 37] 23 Tryz.func217 rfl Tryz.results217 Tryz.ntmps217 rfl ?_
 have M0 := Mem.refl w
 refine aD (aA (aQ gK M0 rfl rfl (fun b1 w1 M1 => (aB (aC (aD (aA (aY rfl rfl (aY rfl rfl (cA aVn rfl rfl (zJ _ dx dy hx hy) ?_))))))))))
 rintro v2 w2 ⟨rfl, hb2⟩
 have M2 := M1.callB hb2
 refine bO rfl rfl (aB (aC (aD (aD (aA (aY rfl rfl (cY rfl rfl rfl rfl (aB (aC ?_)))))))))
 refine bB rfl (fun h10 => ?_) (fun h10 => ?_)
 ·refine aD (aA (wq (cF [(0, .int _ _)] _ gD rfl rfl) rfl (bC 0 _ bL M2 rfl rfl rfl rfl rfl (aR rfl) rfl (fun w3 M3 => (aB (aC (aO (cM (eQ 0 bL M3 rfl rfl rfl ?_)))))))))
  exact ⟨by unfold pI; first | (rw [if_pos (by omega)]; rfl) | (rw [if_neg (by omega)]; rfl), M3.below⟩
 ·refine aK (aC (aD (aA (aY rfl rfl (wq (tM rfl rfl (by decide)) rfl (aV 13 (.int .i64 (dx * 65536)) (iE (aBt dx hx)) (aY rfl rfl (cA aSi rfl rfl (aBv _ (dx * 65536) (len dx dy) (by omega) (by omega) (by omega)) ?_))))))))
  rintro v4 w4 ⟨rfl, hb4⟩
  have M4 := M2.callB hb4
  refine wq (dT us2 Tryz.underlying21 rfl) rfl (aY rfl rfl (wq (tM rfl rfl (by decide)) rfl (aV 18 (.int .i64 (dy * 65536)) (iE (aBt dy hy)) (aY rfl rfl (cA aSi rfl rfl (aBv _ (dy * 65536) (len dx dy) (by omega) (by omega) (by omega)) ?_)))))
  rintro v5 w5 ⟨rfl, hb5⟩
  have M5 := M4.callB hb5
  refine wq (dT us2 Tryz.underlying21 rfl) rfl (wq (cF [(0, .int _ _), (1, .int _ _)] _ gD rfl rfl) rfl (bC 0 _ bL M5 rfl rfl rfl rfl rfl (aR rfl) rfl (fun w6 M6 => (aB (aC (aO (eQ 0 bL M6 rfl rfl rfl ?_)))))))
  exact ⟨by unfold pI; first | (rw [if_pos (by omega)]; rfl) | (rw [if_neg (by omega)]; rfl), M6.below⟩
set_option maxHeartbeats 4000000 in
theorem aPb (w : World) (b : Body) (hb : Okb b) :
  Calls Tryz.prog 258 #[(.agg (aF b).toArray)] w (fun ex w' => ∃ v, ex = .returned v ∧ (fun v w' => v = .tuple #[(.agg (cO (aIg b)).toArray), (.agg (cO (aIk b)).toArray)] ∧ Below w.heap.size w w') v w') := by
 have ha := hb.a
 have hp := hb.p
 refine aH #[.cell 2 37, .cell 3 37] 36 Tryz.func258 rfl Tryz.results258 Tryz.ntmps258 rfl ?_
 have M0 := Mem.refl w
 refine aD (aA (bE (.agg (List.toArray _)) M0 rfl rfl rfl (fun b1 w1 M1 => (aQ gK M1 rfl rfl (fun b2 w2 M2 => (aQ gK M2 rfl rfl (fun b3 w3 M3 => (aB (aC (aD (aA (wq (aE 6 gU rfl) rfl ?_))))))))))))
 refine wq (aE 0 dW rfl) rfl (wq (aL 0 (.int _ _) aW M3 rfl rfl rfl) rfl (wq (aE 2 lB rfl) rfl (wq (aE 0 dW rfl) rfl (wq (aL 0 (.int _ _) aW M3 rfl rfl rfl) rfl (wq (lR rfl rfl (mB _ (by omega) (by omega))) rfl ?_)))))
 refine wq (aE 6 gU rfl) rfl (wq (aE 1 dO rfl) rfl (wq (aL 0 (.int _ _) aW M3 rfl rfl rfl) rfl (wq (aE 2 lB rfl) rfl (wq (aE 1 dO rfl) rfl (wq (aL 0 (.int _ _) aW M3 rfl rfl rfl) rfl ?_)))))
 refine wq (lR rfl rfl (mB _ (by omega) (by omega))) rfl (wq (cF [(0, .int _ _), (1, .int _ _)] _ gD rfl rfl) rfl (bC 1 _ bL M3 rfl rfl rfl rfl rfl (aR rfl) rfl (fun w4 M4 => (aB (aC (aD (aA (wq (aE 6 gU rfl) rfl (wq (aE 0 dW rfl) rfl ?_)))))))))
 refine wq (aL 0 (.int _ _) aW M4 rfl rfl rfl) rfl (wq (aE 2 lB rfl) rfl (wq (aE 0 dW rfl) rfl (wq (aL 0 (.int _ _) aW M4 rfl rfl rfl) rfl (wq (iV rfl rfl (mB _ (by omega) (by omega))) rfl (wq (aE 6 gU rfl) rfl ?_)))))
 refine wq (aE 1 dO rfl) rfl (wq (aL 0 (.int _ _) aW M4 rfl rfl rfl) rfl (wq (aE 2 lB rfl) rfl (wq (aE 1 dO rfl) rfl (wq (aL 0 (.int _ _) aW M4 rfl rfl rfl) rfl (wq (iV rfl rfl (mB _ (by omega) (by omega))) rfl ?_)))))
 refine wq (cF [(0, .int _ _), (1, .int _ _)] _ gD rfl rfl) rfl (bC 2 _ bL M4 rfl rfl rfl rfl rfl (aR rfl) rfl (fun w5 M5 => (aB (aC (aD (bP [(0, 1), (1, 1), (2, 2), (3, 2)] mixed rfl (by kernel_rfl) (fun w6 hb6 hh6 => ?_)))))))
 have M6 := M5.drew hb6 hh6
 refine bW rfl rfl rfl (bA 1 bL M6 rfl rfl rfl) (bW rfl rfl rfl (bA 2 bL M6 rfl rfl rfl) (dM [false, true] rfl (by kernel_rfl) (bC 1 _ bL M6 rfl rfl rfl rfl rfl (aR rfl) rfl (fun w7 M7 => ?_))))
 refine aB (aC ⟨(eL (bN rfl (bA 2 bL M7 rfl rfl rfl)) dN), ?_⟩)
 refine dM [true] rfl (by kernel_rfl) (bC 2 _ bL M7 rfl rfl rfl rfl rfl (aR rfl) rfl (fun w8 M8 => ?_))
 refine aB (aC ⟨dN, ?_⟩)
 refine cE (aC (aO (aMv 1 2 bL M8 rfl rfl rfl rfl rfl rfl ?_)))
 exact ⟨rfl, M8.below⟩
set_option maxHeartbeats 4000000 in
theorem aFx (w : World) (p q c : Pt) (h : SgI p q) (hc : PtI c) :
  Calls Tryz.prog 282 #[(.agg (cO p).toArray), (.agg (cO q).toArray), (.agg (cO c).toArray)] w (fun ex w' => ∃ v, ex = .returned v ∧ (fun v w' => v = .tuple #[.int .i64 (oZ p q c), .int .i64 (lV p q)] ∧ Below w.heap.size w w') v w') := by
 have hD := tL h
 have hx := aOa h hc
 refine aH #[.tmp 6, .tmp 7] 42 Tryz.func282 rfl Tryz.results282 Tryz.ntmps282 rfl ?_
 have M0 := Mem.refl w
 refine aD (aA (bE (.agg (List.toArray _)) M0 rfl rfl rfl (fun b1 w1 M1 => (bE (.agg (List.toArray _)) M1 rfl rfl rfl (fun b2 w2 M2 => (bE (.agg (List.toArray _)) M2 rfl rfl rfl (fun b3 w3 M3 => (bO rfl rfl (bO rfl rfl ?_)))))))))
 refine aB (aC (aD (aA (wq (bA 0 bL M3 rfl rfl rfl) rfl (wq (bA 1 bL M3 rfl rfl rfl) rfl (cA zU rfl rfl (qH _ p q h.hp.i32 h.hq.i32) ?_))))))
 rintro v4 w4 ⟨rfl, hb4⟩
 have M4 := M3.callB hb4
 refine wq (aG (.tuple (List.toArray _)) rfl) rfl (wq (bG (.int _ _) rfl rfl) rfl (wq (bG (.int _ _) rfl rfl) rfl (bO rfl rfl (bO rfl rfl (aB (aC (aD (aA ?_))))))))
 refine wq (bA 0 bL M4 rfl rfl rfl) rfl (wq (bA 2 bL M4 rfl rfl rfl) rfl (cA zU rfl rfl (qH _ p c h.hp.i32 hc.i32) ?_))
 rintro v5 w5 ⟨rfl, hb5⟩
 have M5 := M4.callB hb5
 refine wq (aG (.tuple (List.toArray _)) rfl) rfl (wq (bG (.int _ _) rfl rfl) rfl (wq (bG (.int _ _) rfl rfl) rfl (bO rfl rfl (bO rfl rfl (aB (aC (aD (aA ?_))))))))
 refine aY rfl rfl (aY rfl rfl (wq (gC rfl rfl (by omega) (by omega)) rfl (aY rfl rfl (aY rfl rfl (wq (gC rfl rfl (by omega) (by omega)) rfl ?_)))))
 refine wq (bQ rfl rfl (by omega) (by omega)) rfl (aV 30 (.int .i64 (lV p q)) rfl (bO rfl rfl (aB (aC (aD (aA (aY rfl rfl (aY rfl rfl ?_))))))))
 refine wq (gC rfl rfl (by omega) (by omega)) rfl (aY rfl rfl (aY rfl rfl (wq (gC rfl rfl (by omega) (by omega)) rfl (wq (bQ rfl rfl (by omega) (by omega)) rfl (aY rfl rfl ?_)))))
 refine wq (zS rfl rfl ) rfl (wq (oC rfl rfl ) rfl (aY rfl rfl (bO rfl rfl (bO rfl rfl (aB (aC (aO ?_)))))))
 refine iM (.int _ _) (.int _ _) rfl rfl ?_
 exact ⟨rfl, M5.below⟩
set_option maxHeartbeats 4000000 in
theorem aCt (w : World) (f a n d : Int) (bn bd : Nat) (ha : -16777216 ≤ a ∧ a ≤ 16777216) (hn : 0 ≤ n) (hnd : n ≤ d) (hd0 : 0 < d) (hd : d ≤ 562949953421312) (h1 : -16777216 ≤ a * n / d ∧ a * n / d ≤ 16777216) (h2 : -1082130432 ≤ f + a * n / d ∧ f + a * n / d ≤ 1082130432) (K1 : Rd w 1 (some ⟨bn, 0, none⟩) 1 [[.int .i64 n]]) (K2 : Rd w 1 (some ⟨bd, 0, none⟩) 1 [[.int .i64 d]]) :
  Calls Tryz.prog 283 #[.int .i32 f, .int .i64 a, .pointer (some ⟨bn, 0, none⟩), .pointer (some ⟨bd, 0, none⟩)] w (fun ex w' => ∃ v, ex = .returned v ∧ (fun v w' => v = .int .i32 (f + a * n / d) ∧ Below w.heap.size w w') v w') := by
 rw [← eO bn, ← eO bd]
 refine aH #[.tmp 6] 20 Tryz.func283 rfl Tryz.results283 Tryz.ntmps283 rfl ?_
 have M0 := Mem.refl w
 refine aD (aA (bO rfl rfl (aB (aC (aD (aA (aY rfl rfl (wq (dS (o := 0) (.int _ _) lJ (K1.mem M0) (show ([[.int .i64 n]] : List (List Value))[0]? = some [.int .i64 n] from rfl) rfl rfl) rfl (wq (dS (o := 0) (.int _ _) lJ (K2.mem M0) (show ([[.int .i64 d]] : List (List Value))[0]? = some [.int .i64 d] from rfl) rfl rfl) rfl ?_)))))))))
 refine cA aEs rfl rfl (bCf _ a n d (by omega) hn hnd hd0 (by omega)) ?_
 rintro v1 w1 ⟨rfl, hb1⟩
 have M1 := M0.callB hb1
 refine wq (aG (.tuple (List.toArray _)) rfl) rfl (wq (bG (.int _ _) rfl rfl) rfl (wq (bG (.int _ _) rfl rfl) rfl (bO rfl rfl (bO rfl rfl (aB (aC (aD (aA ?_))))))))
 refine aY rfl rfl (aY rfl rfl (wq (bU us2 Tryz.underlying21 rfl (mB _ (by omega) (by omega))) rfl (wq (iV rfl rfl (mB _ (by omega) (by omega))) rfl (bO rfl rfl (aB (aC (aO ?_)))))))
 refine cD (.int _ _) rfl ?_
 exact ⟨rfl, M1.below⟩
set_option maxHeartbeats 4000000 in
theorem kI (w : World) (p q c : Pt) (h : SgI p q) (hc : PtI c) :
  Calls Tryz.prog 277 #[(.agg (cO p).toArray), (.agg (cO q).toArray), (.agg (cO c).toArray)] w (fun ex w' => ∃ v, ex = .returned v ∧ (fun v w' => v = (.agg (cO (eC p q c)).toArray) ∧ Below w.heap.size w w') v w') := by
 have hD := tL h
 have hn := aGk (c := c) h
 have hx := h.x
 have hy := h.y
 refine aH #[.cell 6 37] 40 Tryz.func277 rfl Tryz.results277 Tryz.ntmps277 rfl ?_
 have M0 := Mem.refl w
 refine aD (aA (bE (.agg (List.toArray _)) M0 rfl rfl rfl (fun b1 w1 M1 => (bE (.agg (List.toArray _)) M1 rfl rfl rfl (fun b2 w2 M2 => (bE (.agg (List.toArray _)) M2 rfl rfl rfl (fun b3 w3 M3 => (aQ gK M3 rfl rfl (fun b4 w4 M4 => (aB (aC (aD (aA ?_)))))))))))))
 refine wq (bA 0 bL M4 rfl rfl rfl) rfl (wq (bA 1 bL M4 rfl rfl rfl) rfl (wq (bA 2 bL M4 rfl rfl rfl) rfl (cA bEd rfl rfl (aFx _ p q c h hc) ?_)))
 rintro v5 w5 ⟨rfl, hb5⟩
 have M5 := M4.callB hb5
 refine wq (aG (.tuple (List.toArray _)) rfl) rfl (wq (bG (.int _ _) rfl rfl) rfl (wq (bG (.int _ _) rfl rfl) rfl (aQ zZ M5 rfl rfl (fun b6 w6 M6 => (aQ zZ M6 rfl rfl (fun b7 w7 M7 => (eD 4 (.int _ _) lJ M7 rfl rfl rfl rfl rfl rfl (fun w8 M8 => ?_))))))))
 refine eD 5 (.int _ _) lJ M8 rfl rfl rfl rfl rfl rfl (fun w9 M9 => (aB (aC (aD (aD (aA (wq (aL 5 (.int _ _) lJ M9 rfl rfl rfl) rfl (cY rfl rfl rfl rfl (aB (aC ?_))))))))))
 refine bB rfl (fun h20 => ?_) (fun h20 => ?_)
 ·refine aD (aA (wq (bA 0 bL M9 rfl rfl rfl) rfl (bC 3 _ bL M9 rfl rfl rfl rfl rfl (aR rfl) rfl (fun w10 M10 => (aB (aC (aO (cM (eQ 3 bL M10 rfl rfl rfl ?_)))))))))
  exact ⟨by unfold eC; first | (rw [if_pos h20]; rfl) | (rw [if_neg h20]; rfl), M10.below⟩
 ·have hnr := aGu (c := c) h h20
  refine aK (aC (aD (aA (wq (cL [] [.pointer _, .pointer _] rfl rfl) rfl (wq (aI (.func _ _ _) rfl) rfl (aB (aC (aD (aA (wq (bA 0 bL M9 rfl rfl rfl) rfl (wq (bA 1 bL M9 rfl rfl rfl) rfl ?_)))))))))))
  refine cA zU rfl rfl (qH _ p q h.hp.i32 h.hq.i32) ?_
  rintro v11 w11 ⟨rfl, hb11⟩
  have M11 := M9.callB hb11
  refine wq (aG (.tuple (List.toArray _)) rfl) rfl (wq (bG (.int _ _) rfl rfl) rfl (wq (bG (.int _ _) rfl rfl) rfl (bO rfl rfl (bO rfl rfl (aB (aC (aD ?_)))))))
  refine bP [(0, 0), (1, 0), (2, 1), (3, 0), (5, 0), (6, 0), (7, 1), (8, 0), (4, 2), (9, 2), (10, 0), (11, 2)] mixed rfl (by kernel_rfl) (fun w12 hb12 hh12 => ?_)
  have M12 := M11.drew hb12 hh12
  refine aX rfl rfl rfl (fun _ => aG (.func _ _ _) rfl) (aX rfl rfl rfl (fun _ => aE 0 dW rfl) (bW rfl rfl rfl (aL 0 (.int _ _) aW M12 rfl rfl rfl) (gR rfl rfl rfl (aX rfl rfl rfl (fun _ => aG (.func _ _ _) rfl) (aX rfl rfl rfl (fun _ => aE 1 dO rfl) ?_)))))
  refine bW rfl rfl rfl (aL 0 (.int _ _) aW M12 rfl rfl rfl) (gR rfl rfl rfl (dM [false, true] rfl (by kernel_rfl) (cA aRv rfl rfl (aCt _ p.1 (q.1 - p.1) (oZ p q c) (lV p q) b6 b7 (by omega) hn.1 hn.2 (by omega) (by omega) hnr.1.1 hnr.1.2 (mA 4 M12 rfl rfl) (mA 5 M12 rfl rfl)) ?_)))
  rintro v13 w13 ⟨rfl, hb13⟩
  have M13 := M12.callB hb13
  refine aB (aC ⟨(eL (bN rfl (aL 0 (.int _ _) aW M13 rfl rfl rfl)) dN), ?_⟩)
  refine dM [true] rfl (by kernel_rfl) (cA aRv rfl rfl (aCt _ p.2 (q.2 - p.2) (oZ p q c) (lV p q) b6 b7 (by omega) hn.1 hn.2 (by omega) (by omega) hnr.2.1 hnr.2.2 (mA 4 M13 rfl rfl) (mA 5 M13 rfl rfl)) ?_)
  rintro v14 w14 ⟨rfl, hb14⟩
  have M14 := M13.callB hb14
  refine aB (aC ⟨dN, ?_⟩)
  refine aX rfl rfl rfl (fun _ => cF [(0, .int _ _), (1, .int _ _)] _ gD rfl rfl) (dM [] rfl (by kernel_rfl) (bC 3 _ bL M14 rfl rfl rfl rfl rfl (aR rfl) rfl (fun w15 M15 => ?_)))
  refine aB (aC ⟨dN, ?_⟩)
  refine cE (aC (aO (eQ 3 bL M15 rfl rfl rfl ?_)))
  exact ⟨by unfold eC; first | (rw [if_pos h20]; rfl) | (rw [if_neg h20]; rfl), M15.below⟩
set_option maxHeartbeats 4000000 in
theorem xC (w : World) (s : Ch) (x y : Pt) (ba bb bl : Nat) (hx : PtI x) (hy : PtI y) (hO : Own [(some ba, bc (cO s.1) 37), (some bb, bc (cO s.2.1) 37), (some bl, bc [.int .u64 (s.2.2 : Int)] 237)] w) :
  Calls Tryz.prog 276 #[(.agg (cO x).toArray), (.agg (cO y).toArray), .pointer (some ⟨bl, 0, none⟩), .pointer (some ⟨ba, 0, none⟩), .pointer (some ⟨bb, 0, none⟩)] w (fun ex w' => ∃ v, ex = .returned v ∧ (fun v w' => v = .tuple #[] ∧ Mem w (bJ [(some ba, bc (cO s.1) 37), (some bb, bc (cO s.2.1) 37), (some bl, bc [.int .u64 (s.2.2 : Int)] 237)]) [(some ba, bc (cO (fP s x y).1) 37), (some bb, bc (cO (fP s x y).2.1) 37), (some bl, bc [.int .u64 ((fP s x y).2.2 : Int)] 237)] w') v w') := by
 refine aH #[] 20 Tryz.func276 rfl Tryz.results276 Tryz.ntmps276 rfl ?_
 have M0 := hO.mem
 refine aD (aA (bE (.agg (List.toArray _)) M0 rfl rfl rfl (fun b1 w1 M1 => (bE (.agg (List.toArray _)) M1 rfl rfl rfl (fun b2 w2 M2 => (aB (aC (aD (aA (wq (bA 3 bL M2 rfl rfl rfl) rfl (wq (bA 4 bL M2 rfl rfl rfl) rfl ?_)))))))))))
 refine cA zU rfl rfl (qH _ x y hx.i32 hy.i32) ?_
 rintro v3 w3 ⟨rfl, hb3⟩
 have M3 := M2.callB hb3
 refine wq (bG (.int _ _) rfl rfl) rfl (wq (bG (.int _ _) rfl rfl) rfl (cA aIz rfl rfl (oE _ (y.1 - x.1) (y.2 - x.2) (hx.inX hy) (hx.inY hy)) ?_))
 rintro v4 w4 ⟨rfl, hb4⟩
 have M4 := M3.callB hb4
 refine bO rfl rfl (aB (aC (aD (aA (aY rfl rfl (wq (aL 2 (.int _ _) qJ M4 rfl rfl rfl) rfl (cY rfl rfl rfl rfl (aB (aC ?_)))))))))
 refine bB rfl (fun h16 => ?_) (fun h16 => ?_)
 ·refine bP [(0, 1), (1, 1), (2, 0), (3, 2), (4, 2), (5, 2)] mixed rfl (by kernel_rfl) (fun w5 hb5 hh5 => ?_)
  have M5 := M4.drew hb5 hh5
  refine bW rfl rfl rfl (bA 3 bL M5 rfl rfl rfl) (bW rfl rfl rfl (bA 4 bL M5 rfl rfl rfl) (gR rfl rfl rfl (dM [false, true] rfl (by kernel_rfl) (bC 0 _ bL M5 rfl rfl rfl rfl rfl (aR rfl) rfl (fun w6 M6 => ?_)))))
  refine aB (aC ⟨(eL (bN rfl (bA 4 bL M6 rfl rfl rfl)) dN), ?_⟩)
  refine dM [true] rfl (by kernel_rfl) (bC 1 _ bL M6 rfl rfl rfl rfl rfl (aR rfl) rfl (fun w7 M7 => ?_))
  refine aB (aC ⟨dN, ?_⟩)
  refine dM [] rfl (by kernel_rfl) (eD 2 (.int _ _) qJ M7 rfl rfl rfl rfl rfl rfl (fun w8 M8 => ?_))
  refine aB (aC ⟨dN, ?_⟩)
  refine cE (iZ ?_)
  exact ⟨rfl, by unfold fP; first | (rw [if_pos (by omega)]; exact M8.keep [true, true, true, false, false]) | (rw [if_neg (by omega)]; exact M8.keep [true, true, true, false, false])⟩
 ·refine aK (iZ ?_)
  exact ⟨rfl, by unfold fP; first | (rw [if_pos (by omega)]; exact M4.keep [true, true, true, false, false]) | (rw [if_neg (by omega)]; exact M4.keep [true, true, true, false, false])⟩
set_option maxHeartbeats 8000000 in
theorem aKj (w : World) (ap aq bp bq : Pt) (h1 : SgI ap aq) (h2 : SgI bp bq) :
  Calls Tryz.prog 259 #[(.agg (cO ap).toArray), (.agg (cO aq).toArray), (.agg (cO bp).toArray), (.agg (cO bq).toArray)] w (fun ex w' => ∃ v, ex = .returned v ∧ (fun v w' => v = .tuple #[(.agg (cO (qE ap aq bp bq).1).toArray), (.agg (cO (qE ap aq bp bq).2.1).toArray), .int .u64 ((qE ap aq bp bq).2.2 : Int)] ∧ Below w.heap.size w w') v w') := by
 refine aH #[.cell 8 37, .cell 9 37, .cell 10 237] 48 Tryz.func259 rfl Tryz.results259 Tryz.ntmps259 rfl ?_
 have M0 := Mem.refl w
 refine aD (aA (bE (.agg (List.toArray _)) M0 rfl rfl rfl (fun b1 w1 M1 => (bE (.agg (List.toArray _)) M1 rfl rfl rfl (fun b2 w2 M2 => (bE (.agg (List.toArray _)) M2 rfl rfl rfl (fun b3 w3 M3 => (bE (.agg (List.toArray _)) M3 rfl rfl rfl (fun b4 w4 M4 => (aQ gK M4 rfl rfl (fun b5 w5 M5 => ?_)))))))))))
 refine aQ gK M5 rfl rfl (fun b6 w6 M6 => (aQ aYi M6 rfl rfl (fun b7 w7 M7 => (aB (aC (aD (aA (eD 6 (.int _ _) qJ M7 rfl rfl rfl rfl rfl rfl (fun w8 M8 => (aB (aC (aD (aA ?_)))))))))))))
 obtain ⟨s, hS⟩ : ∃ z, z = ch0 := ⟨_, rfl⟩
 have hC : ChI s := by rw [hS]; exact aVk
 have M9 : Mem _ _ [_, _, _, _, (some b5, bc (cO ch0.1) 37), (some b6, bc (cO ch0.2.1) 37), (some b7, bc [.int .u64 (ch0.2.2 : Int)] 237)] _ := M8
 rw [← hS] at M9
 refine wq (cL [] [.pointer _, .pointer _, .pointer _] rfl rfl) rfl (wq (aI (.func _ _ _) rfl) rfl (aB (aC (aD (aD (aA (wq (bA 0 bL M9 rfl rfl rfl) rfl (wq (bA 1 bL M9 rfl rfl rfl) rfl (wq (pF [.agg (List.toArray _), .agg (List.toArray _)] uU aNl rfl rfl (dA rfl)) rfl ?_)))))))))
 refine aY rfl rfl (aB (aC (aT (lN 3 (iI (aD (aA (cY rfl rfl rfl rfl (nU 21 rfl (by first | decide | omega) ?_)))))))))
 refine aB (aC (aD (cS rfl (aK (aC (aD (aT (aD (aA (wq (mT 0 _ uU bL rfl rfl (by decide) (by decide) rfl rfl) rfl (aQ gK M9 rfl rfl (fun b10 w10 M10 => (bC 7 _ bL M10 rfl rfl rfl rfl rfl (aR rfl) rfl (fun w11 M11 => ?_))))))))))))))
 refine aB (aC (bP [(0, 0), (1, 1), (2, 1), (3, 1), (4, 1), (5, 2), (6, 2)] mixed rfl (by kernel_rfl) (fun w12 hb12 hh12 => ?_)))
 have M12 := M11.drew hb12 hh12
 refine aX rfl rfl rfl (fun _ => aG (.func _ _ _) rfl) (bW rfl rfl rfl (bA 7 bL M12 rfl rfl rfl) (bW rfl rfl rfl (bA 2 bL M12 rfl rfl rfl) (bW rfl rfl rfl (bA 3 bL M12 rfl rfl rfl) (bW rfl rfl rfl (bA 7 bL M12 rfl rfl rfl) (dM [true, true, true, false] rfl (by kernel_rfl) ?_)))))
 refine cA aDq rfl rfl (kI _ bp bq ap h2 h1.hp) ?_
 rintro v13 w13 ⟨rfl, hb13⟩
 have M13 := M12.callB hb13
 refine aB (aC ⟨(eL (bN rfl (bA 7 bL M13 rfl rfl rfl)) dN), ?_⟩)
 refine dM [true] rfl (by kernel_rfl) (cA aEp rfl rfl (xC _ s ap (eC bp bq ap) _ _ _ h1.hp (eS h2) (M13.ownSeg 4 3)) ?_)
 rintro v14 w14 ⟨rfl, hM14⟩
 have M14 : Mem _ _ [_, _, _, _, _, _, _, _] _ := M13.seg 4 3 hM14
 obtain ⟨s, hs⟩ : ∃ z, z = fP s ap (eC bp bq ap) := ⟨_, rfl⟩
 rw [← hs] at M14
 replace hC := hC.step (x := ap) (y := (eC bp bq ap)) h1.hp (eS h2)
 rw [← hs] at hC
 replace hS := hs.trans (congrArg (fun z => fP z ap (eC bp bq ap)) hS)
 refine aB (aC ⟨dN, ?_⟩)
 refine cE (dE (aC (aA (wq (bQ rfl rfl (by first | decide | omega) (by first | decide | omega)) rfl (aV 30 (.int .i64 1) (iE (by first | decide | omega)) (aY rfl rfl ?_))))))
 refine aB (aC (iI (aD (aA (cY rfl rfl rfl rfl (nU 21 rfl (by first | decide | omega) (aB (aC (aD ?_)))))))))
 refine cS rfl (aK (aC (aD (aT (aD (aA (wq (mT 1 _ uU bL rfl rfl (by decide) (by decide) rfl rfl) rfl (aQ gK M14 rfl rfl (fun b15 w15 M15 => (bC 8 _ bL M15 rfl rfl rfl rfl rfl (aR rfl) rfl (fun w16 M16 => (aB (aC ?_)))))))))))))
 refine bP [(0, 0), (1, 1), (2, 1), (3, 1), (4, 1), (5, 2), (6, 2)] mixed rfl (by kernel_rfl) (fun w17 hb17 hh17 => ?_)
 have M17 := M16.drew hb17 hh17
 refine aX rfl rfl rfl (fun _ => aG (.func _ _ _) rfl) (bW rfl rfl rfl (bA 8 bL M17 rfl rfl rfl) (bW rfl rfl rfl (bA 2 bL M17 rfl rfl rfl) (bW rfl rfl rfl (bA 3 bL M17 rfl rfl rfl) (bW rfl rfl rfl (bA 8 bL M17 rfl rfl rfl) (dM [true, true, true, false] rfl (by kernel_rfl) ?_)))))
 refine cA aDq rfl rfl (kI _ bp bq aq h2 h1.hq) ?_
 rintro v18 w18 ⟨rfl, hb18⟩
 have M18 := M17.callB hb18
 refine aB (aC ⟨(eL (bN rfl (bA 8 bL M18 rfl rfl rfl)) dN), ?_⟩)
 refine dM [true] rfl (by kernel_rfl) (cA aEp rfl rfl (xC _ s aq (eC bp bq aq) _ _ _ h1.hq (eS h2) (M18.ownSeg 4 3)) ?_)
 rintro v19 w19 ⟨rfl, hM19⟩
 have M19 : Mem _ _ [_, _, _, _, _, _, _, _, _] _ := M18.seg 4 3 hM19
 obtain ⟨s, hs⟩ : ∃ z, z = fP s aq (eC bp bq aq) := ⟨_, rfl⟩
 rw [← hs] at M19
 replace hC := hC.step (x := aq) (y := (eC bp bq aq)) h1.hq (eS h2)
 rw [← hs] at hC
 replace hS := hs.trans (congrArg (fun z => fP z aq (eC bp bq aq)) hS)
 refine aB (aC ⟨dN, ?_⟩)
 refine cE (dE (aC (aA (wq (bQ rfl rfl (by first | decide | omega) (by first | decide | omega)) rfl (aV 30 (.int .i64 2) (iE (by first | decide | omega)) (aY rfl rfl ?_))))))
 refine aB (aC (iI (aD (aA (cY rfl rfl rfl rfl (tS 21 rfl (by first | decide | omega) (aB (aC (aD ?_)))))))))
 refine bY rfl (cQ (dC (dC (eT (aC (aD (aD (aA (wq (bA 2 bL M19 rfl rfl rfl) rfl ?_)))))))))
 refine wq (bA 3 bL M19 rfl rfl rfl) rfl (wq (pF [.agg (List.toArray _), .agg (List.toArray _)] uU aNl rfl rfl (dA rfl)) rfl (aY rfl rfl (aB (aC (aT (lN 3 (iI (aD (aA ?_)))))))))
 refine cY rfl rfl rfl rfl (nU 35 rfl (by first | decide | omega) (aB (aC (aD (cS rfl (aK (aC (aD (aT (aD (aA (wq (mT 0 _ uU bL rfl rfl (by decide) (by decide) rfl rfl) rfl ?_))))))))))))
 refine aQ gK M19 rfl rfl (fun b20 w20 M20 => (bC 9 _ bL M20 rfl rfl rfl rfl rfl (aR rfl) rfl (fun w21 M21 => (aB (aC (bP [(0, 0), (1, 1), (2, 1), (3, 1), (5, 1), (4, 2), (6, 2)] mixed rfl (by kernel_rfl) (fun w22 hb22 hh22 => ?_)))))))
 have M22 := M21.drew hb22 hh22
 refine aX rfl rfl rfl (fun _ => aG (.func _ _ _) rfl) (bW rfl rfl rfl (bA 0 bL M22 rfl rfl rfl) (bW rfl rfl rfl (bA 1 bL M22 rfl rfl rfl) (bW rfl rfl rfl (bA 9 bL M22 rfl rfl rfl) (bW rfl rfl rfl (bA 9 bL M22 rfl rfl rfl) (dM [false, true, true, true] rfl (by kernel_rfl) ?_)))))
 refine cA aDq rfl rfl (kI _ ap aq bp h1 h2.hp) ?_
 rintro v23 w23 ⟨rfl, hb23⟩
 have M23 := M22.callB hb23
 refine aB (aC ⟨(eL (bN rfl (bA 9 bL M23 rfl rfl rfl)) dN), ?_⟩)
 refine dM [true] rfl (by kernel_rfl) (cA aEp rfl rfl (xC _ s (eC ap aq bp) bp _ _ _ (eS h1) h2.hp (M23.ownSeg 4 3)) ?_)
 rintro v24 w24 ⟨rfl, hM24⟩
 have M24 : Mem _ _ [_, _, _, _, _, _, _, _, _, _] _ := M23.seg 4 3 hM24
 obtain ⟨s, hs⟩ : ∃ z, z = fP s (eC ap aq bp) bp := ⟨_, rfl⟩
 rw [← hs] at M24
 replace hC := hC.step (x := (eC ap aq bp)) (y := bp) (eS h1) h2.hp
 rw [← hs] at hC
 replace hS := hs.trans (congrArg (fun z => fP z (eC ap aq bp) bp) hS)
 refine aB (aC ⟨dN, ?_⟩)
 refine cE (dE (aC (aA (wq (bQ rfl rfl (by first | decide | omega) (by first | decide | omega)) rfl (aV 44 (.int .i64 1) (iE (by first | decide | omega)) (aY rfl rfl ?_))))))
 refine aB (aC (iI (aD (aA (cY rfl rfl rfl rfl (nU 35 rfl (by first | decide | omega) (aB (aC (aD ?_)))))))))
 refine cS rfl (aK (aC (aD (aT (aD (aA (wq (mT 1 _ uU bL rfl rfl (by decide) (by decide) rfl rfl) rfl (aQ gK M24 rfl rfl (fun b25 w25 M25 => (bC 10 _ bL M25 rfl rfl rfl rfl rfl (aR rfl) rfl (fun w26 M26 => (aB (aC ?_)))))))))))))
 refine bP [(0, 0), (1, 1), (2, 1), (3, 1), (5, 1), (4, 2), (6, 2)] mixed rfl (by kernel_rfl) (fun w27 hb27 hh27 => ?_)
 have M27 := M26.drew hb27 hh27
 refine aX rfl rfl rfl (fun _ => aG (.func _ _ _) rfl) (bW rfl rfl rfl (bA 0 bL M27 rfl rfl rfl) (bW rfl rfl rfl (bA 1 bL M27 rfl rfl rfl) (bW rfl rfl rfl (bA 10 bL M27 rfl rfl rfl) (bW rfl rfl rfl (bA 10 bL M27 rfl rfl rfl) (dM [false, true, true, true] rfl (by kernel_rfl) ?_)))))
 refine cA aDq rfl rfl (kI _ ap aq bq h1 h2.hq) ?_
 rintro v28 w28 ⟨rfl, hb28⟩
 have M28 := M27.callB hb28
 refine aB (aC ⟨(eL (bN rfl (bA 10 bL M28 rfl rfl rfl)) dN), ?_⟩)
 refine dM [true] rfl (by kernel_rfl) (cA aEp rfl rfl (xC _ s (eC ap aq bq) bq _ _ _ (eS h1) h2.hq (M28.ownSeg 4 3)) ?_)
 rintro v29 w29 ⟨rfl, hM29⟩
 have M29 : Mem _ _ [_, _, _, _, _, _, _, _, _, _, _] _ := M28.seg 4 3 hM29
 obtain ⟨s, hs⟩ : ∃ z, z = fP s (eC ap aq bq) bq := ⟨_, rfl⟩
 rw [← hs] at M29
 replace hC := hC.step (x := (eC ap aq bq)) (y := bq) (eS h1) h2.hq
 rw [← hs] at hC
 replace hS := hs.trans (congrArg (fun z => fP z (eC ap aq bq) bq) hS)
 refine aB (aC ⟨dN, ?_⟩)
 refine cE (dE (aC (aA (wq (bQ rfl rfl (by first | decide | omega) (by first | decide | omega)) rfl (aV 44 (.int .i64 2) (iE (by first | decide | omega)) (aY rfl rfl ?_))))))
 refine aB (aC (iI (aD (aA (cY rfl rfl rfl rfl (tS 35 rfl (by first | decide | omega) (aB (aC (aD ?_)))))))))
 refine bY rfl (cQ (dC (dC (eT (aC (aD (bP [(0, 1), (1, 1), (2, 1), (3, 2), (4, 2), (5, 2)] mixed rfl (by kernel_rfl) (fun w30 hb30 hh30 => ?_))))))))
 have M30 := M29.drew hb30 hh30
 refine bW rfl rfl rfl (bA 4 bL M30 rfl rfl rfl) (bW rfl rfl rfl (bA 5 bL M30 rfl rfl rfl) (bW rfl rfl rfl (aL 6 (.int _ _) qJ M30 rfl rfl rfl) (dM [false, false, true] rfl (by kernel_rfl) (bC 4 _ bL M30 rfl rfl rfl rfl rfl (aR rfl) rfl (fun w31 M31 => ?_)))))
 refine aB (aC ⟨(eL (bN rfl (aL 6 (.int _ _) qJ M31 rfl rfl rfl)) (eL (bN rfl (bA 5 bL M31 rfl rfl rfl)) dN)), ?_⟩)
 refine dM [false, true] rfl (by kernel_rfl) (bC 5 _ bL M31 rfl rfl rfl rfl rfl (aR rfl) rfl (fun w32 M32 => ?_))
 refine aB (aC ⟨(eL (bN rfl (aL 6 (.int _ _) qJ M32 rfl rfl rfl)) dN), ?_⟩)
 refine dM [true] rfl (by kernel_rfl) (eD 6 (.int _ _) qJ M32 rfl rfl rfl rfl rfl rfl (fun w33 M33 => ?_))
 refine aB (aC ⟨dN, ?_⟩)
 refine cE (aC (aO (bCk 4 5 6 bL qJ M33 rfl rfl rfl rfl rfl rfl rfl rfl ?_)))
 exact ⟨by rw [show s = qE ap aq bp bq from hS], M33.below⟩
set_option maxHeartbeats 4000000 in
theorem aLw (w : World) (ap aq bp bq : Pt) (h1 : SgI ap aq) (h2 : SgI bp bq) :
  Calls Tryz.prog 238 #[(.agg (cO ap).toArray), (.agg (cO aq).toArray), (.agg (cO bp).toArray), (.agg (cO bq).toArray)] w (fun ex w' => ∃ v, ex = .returned v ∧ (fun v w' => v = .tuple #[(.agg (cO (qE ap aq bp bq).1).toArray), (.agg (cO (qE ap aq bp bq).2.1).toArray)] ∧ Below w.heap.size w w') v w') := by
 refine aH #[.cell 8 37, .cell 9 37] 21 Tryz.func238 rfl Tryz.results238 Tryz.ntmps238 rfl ?_
 have M0 := Mem.refl w
 refine aD (aA (bE (.agg (List.toArray _)) M0 rfl rfl rfl (fun b1 w1 M1 => (bE (.agg (List.toArray _)) M1 rfl rfl rfl (fun b2 w2 M2 => (bE (.agg (List.toArray _)) M2 rfl rfl rfl (fun b3 w3 M3 => (bE (.agg (List.toArray _)) M3 rfl rfl rfl (fun b4 w4 M4 => (aQ gK M4 rfl rfl (fun b5 w5 M5 => ?_)))))))))))
 refine aQ gK M5 rfl rfl (fun b6 w6 M6 => (aB (aC (aD (aA (wq (bA 0 bL M6 rfl rfl rfl) rfl (wq (bA 1 bL M6 rfl rfl rfl) rfl (wq (bA 2 bL M6 rfl rfl rfl) rfl (wq (bA 3 bL M6 rfl rfl rfl) rfl ?_)))))))))
 refine cA bCy rfl rfl (aKj _ ap aq bp bq h1 h2) ?_
 rintro v7 w7 ⟨rfl, hb7⟩
 have M7 := M6.callB hb7
 refine wq (aG (.tuple (List.toArray _)) rfl) rfl (wq (bG (.agg (List.toArray _)) rfl rfl) rfl (wq (bG (.agg (List.toArray _)) rfl rfl) rfl (wq (bG (.int _ _) rfl rfl) rfl (bC 4 _ bL M7 rfl rfl rfl rfl rfl (aR rfl) rfl (fun w8 M8 => (bC 5 _ bL M8 rfl rfl rfl rfl rfl (aR rfl) rfl (fun w9 M9 => ?_)))))))
 refine aB (aC (aD (bP [(0, 1), (1, 1), (2, 2), (3, 2)] mixed rfl (by kernel_rfl) (fun w10 hb10 hh10 => ?_))))
 have M10 := M9.drew hb10 hh10
 refine bW rfl rfl rfl (bA 4 bL M10 rfl rfl rfl) (bW rfl rfl rfl (bA 5 bL M10 rfl rfl rfl) (dM [false, true] rfl (by kernel_rfl) (bC 4 _ bL M10 rfl rfl rfl rfl rfl (aR rfl) rfl (fun w11 M11 => ?_))))
 refine aB (aC ⟨(eL (bN rfl (bA 5 bL M11 rfl rfl rfl)) dN), ?_⟩)
 refine dM [true] rfl (by kernel_rfl) (bC 5 _ bL M11 rfl rfl rfl rfl rfl (aR rfl) rfl (fun w12 M12 => ?_))
 refine aB (aC ⟨dN, ?_⟩)
 refine cE (aC (aO (aMv 4 5 bL M12 rfl rfl rfl rfl rfl rfl ?_)))
 exact ⟨rfl, M12.below⟩
set_option maxHeartbeats 4000000 in
theorem wU (w : World) (b : Body) (hb : Okb b) :
  Calls Tryz.prog 237 #[(.agg (aF b).toArray)] w (fun ex w' => ∃ v, ex = .returned v ∧ (fun v w' => v = (.agg (lS b).toArray) ∧ Below w.heap.size w w') v w') := by
 refine aH #[.cell 2 296] 14 Tryz.func237 rfl Tryz.results237 Tryz.ntmps237 rfl ?_
 have M0 := Mem.refl w
 refine aD (aA (bE (.agg (List.toArray _)) M0 rfl rfl rfl (fun b1 w1 M1 => (aQ sG M1 rfl rfl (fun b2 w2 M2 => (aB (aC (aD (aA (wq (bA 0 bS M2 rfl rfl rfl) rfl (cA bFg rfl rfl (aPb _ b hb) ?_)))))))))))
 rintro v3 w3 ⟨rfl, hb3⟩
 have M3 := M2.callB hb3
 refine wq (aG (.tuple (List.toArray _)) rfl) rfl (wq (bG (.agg (List.toArray _)) rfl rfl) rfl (wq (bG (.agg (List.toArray _)) rfl rfl) rfl (aQ gK M3 rfl rfl (fun b4 w4 M4 => (aQ gK M4 rfl rfl (fun b5 w5 M5 => (bC 2 _ bL M5 rfl rfl rfl rfl rfl (aR rfl) rfl (fun w6 M6 => ?_))))))))
 refine bC 3 _ bL M6 rfl rfl rfl rfl rfl (aR rfl) rfl (fun w7 M7 => (aB (aC (aD (aA (wq (bA 0 bS M7 rfl rfl rfl) rfl (wq (bA 2 bL M7 rfl rfl rfl) rfl (wq (bA 3 bL M7 rfl rfl rfl) rfl (wq (cF [(0, .agg (List.toArray _)), (1, .agg (List.toArray _)), (2, .agg (List.toArray _))] _ aRe rfl rfl) rfl ?_)))))))))
 refine bC 1 _ kQ M7 rfl rfl rfl rfl rfl (aR rfl) rfl (fun w8 M8 => (aB (aC (aO (eQ 1 kQ M8 rfl rfl rfl ?_)))))
 exact ⟨rfl, M8.below⟩
set_option maxHeartbeats 4000000 in
theorem aYu (w : World) (a b : Body) (ha : Okb a) (hb : Okb b) :
  Calls Tryz.prog 214 #[(.agg (aF a).toArray), (.agg (aF b).toArray)] w (fun ex w' => ∃ v, ex = .returned v ∧ (fun v w' => v = .tuple #[(.agg (lS (loB a b)).toArray), (.agg (lS (hiB a b)).toArray)] ∧ Below w.heap.size w w') v w') := by
 refine aH #[.cell 4 296, .cell 5 296] 17 Tryz.func214 rfl Tryz.results214 Tryz.ntmps214 rfl ?_
 have M0 := Mem.refl w
 refine aD (aA (bE (.agg (List.toArray _)) M0 rfl rfl rfl (fun b1 w1 M1 => (bE (.agg (List.toArray _)) M1 rfl rfl rfl (fun b2 w2 M2 => (aQ sG M2 rfl rfl (fun b3 w3 M3 => (aQ sG M3 rfl rfl (fun b4 w4 M4 => (aB (aC (aD (aD (aA ?_))))))))))))))
 refine wq (aE 0 fB rfl) rfl (wq (aL 0 (.int _ _) bZ M4 rfl rfl rfl) rfl (wq (aE 0 fB rfl) rfl (wq (aL 1 (.int _ _) bZ M4 rfl rfl rfl) rfl (cY rfl rfl rfl rfl (aB (aC ?_))))))
 refine bB rfl (fun h10 => ?_) (fun h10 => ?_)
 ·refine aA (wq (bA 1 bS M4 rfl rfl rfl) rfl (wq (bA 0 bS M4 rfl rfl rfl) rfl (bC 0 _ bS M4 rfl rfl rfl rfl rfl (aR rfl) rfl (fun w5 M5 => (bC 1 _ bS M5 rfl rfl rfl rfl rfl (aR rfl) rfl (fun w6 M6 => (aB (aC (aD ?_)))))))))
  refine bP [(0, 1), (2, 1), (1, 2), (3, 2), (4, 2), (5, 2)] mixed rfl (by kernel_rfl) (fun w7 hb7 hh7 => ?_)
  have M7 := M6.drew hb7 hh7
  refine bW rfl rfl rfl (bA 0 bS M7 rfl rfl rfl) (bW rfl rfl rfl (bA 1 bS M7 rfl rfl rfl) (dM [false, true] rfl (by kernel_rfl) (cA aEe rfl rfl (wU _ b hb) ?_)))
  rintro v8 w8 ⟨rfl, hb8⟩
  have M8 := M7.callB hb8
  refine aB (aC ⟨(eL (bN rfl (bA 1 bS M8 rfl rfl rfl)) dN), ?_⟩)
  refine dM [true] rfl (by kernel_rfl) (cA aEe rfl rfl (wU _ a ha) ?_)
  rintro v9 w9 ⟨rfl, hb9⟩
  have M9 := M8.callB hb9
  refine aB (aC ⟨dN, ?_⟩)
  refine dM [] rfl (by kernel_rfl) (bC 2 _ kQ M9 rfl rfl rfl rfl rfl (aR rfl) rfl (fun w10 M10 => ?_))
  refine aB (aC ⟨dN, ?_⟩)
  refine dM [] rfl (by kernel_rfl) (bC 3 _ kQ M10 rfl rfl rfl rfl rfl (aR rfl) rfl (fun w11 M11 => ?_))
  refine aB (aC ⟨dN, ?_⟩)
  refine cE (aC (aO (aMv 2 3 kQ M11 rfl rfl rfl rfl rfl rfl ?_)))
  exact ⟨by unfold loB hiB; first | rw [if_pos (by omega), if_pos (by omega)] | rw [if_neg (by omega), if_neg (by omega)], M11.below⟩
 ·refine aK (aC (aD (bP [(0, 1), (2, 1), (1, 2), (3, 2), (4, 2), (5, 2)] mixed rfl (by kernel_rfl) (fun w12 hb12 hh12 => ?_))))
  have M12 := M4.drew hb12 hh12
  refine bW rfl rfl rfl (bA 0 bS M12 rfl rfl rfl) (bW rfl rfl rfl (bA 1 bS M12 rfl rfl rfl) (dM [false, true] rfl (by kernel_rfl) (cA aEe rfl rfl (wU _ a ha) ?_)))
  rintro v13 w13 ⟨rfl, hb13⟩
  have M13 := M12.callB hb13
  refine aB (aC ⟨(eL (bN rfl (bA 1 bS M13 rfl rfl rfl)) dN), ?_⟩)
  refine dM [true] rfl (by kernel_rfl) (cA aEe rfl rfl (wU _ b hb) ?_)
  rintro v14 w14 ⟨rfl, hb14⟩
  have M14 := M13.callB hb14
  refine aB (aC ⟨dN, ?_⟩)
  refine dM [] rfl (by kernel_rfl) (bC 2 _ kQ M14 rfl rfl rfl rfl rfl (aR rfl) rfl (fun w15 M15 => ?_))
  refine aB (aC ⟨dN, ?_⟩)
  refine dM [] rfl (by kernel_rfl) (bC 3 _ kQ M15 rfl rfl rfl rfl rfl (aR rfl) rfl (fun w16 M16 => ?_))
  refine aB (aC ⟨dN, ?_⟩)
  refine cE (aC (aO (aMv 2 3 kQ M16 rfl rfl rfl rfl rfl rfl ?_)))
  exact ⟨by unfold loB hiB; first | rw [if_pos (by omega), if_pos (by omega)] | rw [if_neg (by omega), if_neg (by omega)], M16.below⟩
set_option maxHeartbeats 4000000 in
theorem aXy (w : World) (a b : Body) (ha : Okb a) (hb : Okb b) :
  Calls Tryz.prog 215 #[(.agg (lS a).toArray), (.agg (lS b).toArray)] w (fun ex w' => ∃ v, ex = .returned v ∧ (fun v w' => v = .tuple #[.int .i64 (xF (wP a b)), .int .i64 (zB (wP a b)), .int .i64 (a.radius + b.radius)] ∧ Below w.heap.size w w') v w') := by
 have hra := ha.r
 have hrb := hb.r
 have hch := yD ha hb
 refine aH #[.tmp 4, .tmp 5, .tmp 6] 38 Tryz.func215 rfl Tryz.results215 Tryz.ntmps215 rfl ?_
 have M0 := Mem.refl w
 refine aD (aA (bE (.agg (List.toArray _)) M0 rfl rfl rfl (fun b1 w1 M1 => (bE (.agg (List.toArray _)) M1 rfl rfl rfl (fun b2 w2 M2 => (bO rfl rfl (bO rfl rfl (bO rfl rfl ?_))))))))
 refine aB (aC (aD (aA (wq (aE 10 aIh rfl) rfl (wq (qB 0 _ bL M2 rfl rfl rfl rfl) rfl (wq (aE 12 aFs rfl) rfl (wq (qB 0 _ bL M2 rfl rfl rfl rfl) rfl (wq (aE 10 aIh rfl) rfl ?_))))))))
 refine wq (qB 1 _ bL M2 rfl rfl rfl rfl) rfl (wq (aE 12 aFs rfl) rfl (wq (qB 1 _ bL M2 rfl rfl rfl rfl) rfl (cA bDs rfl rfl (aLw _ (aIg a) (aIk a) (aIg b) (aIk b) (xE ha) (xE hb)) ?_)))
 rintro v3 w3 ⟨rfl, hb3⟩
 have M3 := M2.callB hb3
 refine wq (aG (.tuple (List.toArray _)) rfl) rfl (wq (bG (.agg (List.toArray _)) rfl rfl) rfl (wq (bG (.agg (List.toArray _)) rfl rfl) rfl (aQ gK M3 rfl rfl (fun b4 w4 M4 => (aQ gK M4 rfl rfl (fun b5 w5 M5 => (bC 2 _ bL M5 rfl rfl rfl rfl rfl (aR rfl) rfl (fun w6 M6 => ?_))))))))
 refine bC 3 _ bL M6 rfl rfl rfl rfl rfl (aR rfl) rfl (fun w7 M7 => (aB (aC (aD (aA (wq (bA 2 bL M7 rfl rfl rfl) rfl (wq (bA 3 bL M7 rfl rfl rfl) rfl (cA zU rfl rfl (qH _ (wP a b).1 (wP a b).2.1 hch.a.i32 hch.b.i32) ?_))))))))
 rintro v8 w8 ⟨rfl, hb8⟩
 have M8 := M7.callB hb8
 refine wq (aG (.tuple (List.toArray _)) rfl) rfl (wq (bG (.int _ _) rfl rfl) rfl (wq (bG (.int _ _) rfl rfl) rfl (bO rfl rfl (bO rfl rfl (aB (aC (aD ?_)))))))
 refine bP [(0, 0), (1, 0), (2, 0), (3, 0), (4, 1), (5, 0), (6, 0), (7, 0), (8, 1), (9, 0), (10, 0), (11, 0), (12, 0), (13, 0)] mixed rfl (by kernel_rfl) (fun w9 hb9 hh9 => ?_)
 have M9 := M8.drew hb9 hh9
 refine gR rfl rfl rfl (gR rfl rfl rfl (aX rfl rfl rfl (fun _ => aE 0 sU rfl) (aX rfl rfl rfl (fun _ => aE 1 oB rfl) (bW rfl rfl rfl (aL 0 (.int _ _) aW M9 rfl rfl rfl) (aX rfl rfl rfl (fun _ => bU fV Tryz.underlying2 rfl (kO _ (by omega) (by omega))) ?_)))))
 refine aX rfl rfl rfl (fun _ => aE 0 sU rfl) (aX rfl rfl rfl (fun _ => aE 1 oB rfl) (bW rfl rfl rfl (aL 1 (.int _ _) aW M9 rfl rfl rfl) (aX rfl rfl rfl (fun _ => bU fV Tryz.underlying2 rfl (kO _ (by omega) (by omega))) (aX rfl rfl rfl (fun _ => bQ rfl rfl (by omega) (by omega)) ?_))))
 refine qO rfl rfl rfl (qO rfl rfl rfl (qO rfl rfl rfl (cE (aC (aO (bJr (.int _ _) (.int _ _) (.int _ _) rfl rfl rfl ?_))))))
 exact ⟨rfl, M9.below⟩
set_option maxHeartbeats 4000000 in
theorem zE (w : World) (a b : Body) (ha : Okb a) (hb : Okb b) :
  Calls Tryz.prog 185 #[(.agg (aF a).toArray), (.agg (aF b).toArray)] w (fun ex w' => ∃ v, ex = .returned v ∧ (fun v w' => v = .tuple #[.agg (bCv (oW a b)).toArray, .bool (oW a b).isSome] ∧ Below w.heap.size w w') v w') := by
 obtain ⟨hlo, hhi⟩ := bCb ha hb
 have hd := bBx hlo hhi
 have hl := aDs hd.1 hd.2
 have hss := bFt hlo hhi
 have hr1 := hlo.r
 have hr2 := hhi.r
 refine aH #[.cell 4 211, .tmp 5] 52 Tryz.func185 rfl Tryz.results185 Tryz.ntmps185 rfl ?_
 have M0 := Mem.refl w
 refine aD (aA (bE (.agg (List.toArray _)) M0 rfl rfl rfl (fun b1 w1 M1 => (bE (.agg (List.toArray _)) M1 rfl rfl rfl (fun b2 w2 M2 => (aQ tE M2 rfl rfl (fun b3 w3 M3 => (wq (aI (.bool false) rfl) rfl (aB (aC (aD (aA ?_))))))))))))
 refine wq (bA 0 bS M3 rfl rfl rfl) rfl (wq (bA 1 bS M3 rfl rfl rfl) rfl (cA bDg rfl rfl (aYu _ a b ha hb) ?_))
 rintro v4 w4 ⟨rfl, hb4⟩
 have M4 := M3.callB hb4
 refine wq (aG (.tuple (List.toArray _)) rfl) rfl (wq (bG (.agg (List.toArray _)) rfl rfl) rfl (wq (bG (.agg (List.toArray _)) rfl rfl) rfl (aQ sG M4 rfl rfl (fun b5 w5 M5 => (aQ sG M5 rfl rfl (fun b6 w6 M6 => (bC 3 _ kQ M6 rfl rfl rfl rfl rfl (aR rfl) rfl (fun w7 M7 => ?_))))))))
 refine bC 4 _ kQ M7 rfl rfl rfl rfl rfl (aR rfl) rfl (fun w8 M8 => (aB (aC (aD (aA (wq (bA 3 kQ M8 rfl rfl rfl) rfl (wq (bA 4 kQ M8 rfl rfl rfl) rfl (cA bEt rfl rfl (aXy _ (loB a b) (hiB a b) hlo hhi) ?_))))))))
 rintro v9 w9 ⟨rfl, hb9⟩
 have M9 := M8.callB hb9
 refine wq (aG (.tuple (List.toArray _)) rfl) rfl (wq (bG (.int _ _) rfl rfl) rfl (wq (bG (.int _ _) rfl rfl) rfl (wq (bG (.int _ _) rfl rfl) rfl (bO rfl rfl (bO rfl rfl ?_)))))
 refine bO rfl rfl (aB (aC (aD (aD (aA (aY rfl rfl (aY rfl rfl (cA aIz rfl rfl (oE _ (xF (wP (loB a b) (hiB a b))) (zB (wP (loB a b) (hiB a b))) hd.1 hd.2) ?_))))))))
 rintro v10 w10 ⟨rfl, hb10⟩
 have M10 := M9.callB hb10
 refine aY rfl rfl (aY rfl rfl (wq (gC rfl rfl (by omega) (by omega)) rfl (wq (dT us2 Tryz.underlying237 rfl) rfl (aV 31 (.int .u64 ((((loB a b).radius + (hiB a b).radius).natAbs * ((loB a b).radius + (hiB a b).radius).natAbs : Nat) : Int)) (iE (aYn _ hss)) (cY rfl rfl rfl rfl ?_)))))
 refine aB (aC ?_)
 refine bB rfl (fun h32 => ?_) (fun h32 => ?_)
 ·refine aD (aA (wq (cF [] _ aBp rfl rfl) rfl (bC 2 _ gI M10 rfl rfl rfl rfl rfl (aR rfl) rfl (fun w11 M11 => (wq (aI (.bool false) rfl) rfl (aB (aC (aO (cM (aCk (v2 := .bool false) 2 gI M11 rfl rfl rfl rfl ?_))))))))))
  exact ⟨by rw [aGh]; unfold oM; first | (rw [if_pos (by omega)]; rfl) | (rw [if_neg (by omega)]; rfl), M11.below⟩
 ·refine aK (aC (aD (aA (wq (aE 0 sU rfl) rfl (wq (aE 0 fB rfl) rfl (wq (aL 3 (.int _ _) bZ M10 rfl rfl rfl) rfl (wq (aE 0 sU rfl) rfl (wq (aE 0 fB rfl) rfl ?_))))))))
  refine wq (aL 4 (.int _ _) bZ M10 rfl rfl rfl) rfl (wq (cF [(0, .int _ _), (1, .int _ _)] _ aCl rfl rfl) rfl (aQ qZ M10 rfl rfl (fun b12 w12 M12 => (bC 5 _ gB M12 rfl rfl rfl rfl rfl (aR rfl) rfl (fun w13 M13 => (aB (aC (aD (bP [(0, 1), (1, 0), (2, 0), (4, 0), (5, 0), (6, 0), (3, 2), (7, 2), (8, 0), (9, 0), (10, 0), (11, 2), (12, 0)] mixed rfl (by kernel_rfl) (fun w14 hb14 hh14 => ?_))))))))))
  have M14 := M13.drew hb14 hh14
  refine bW rfl rfl rfl (bA 5 gB M14 rfl rfl rfl) (gR rfl rfl rfl (gR rfl rfl rfl (gR rfl rfl rfl (gR rfl rfl rfl (gR rfl rfl rfl ?_)))))
  refine dM [false] rfl (by kernel_rfl) (cA bDd rfl rfl (aRo _ (xF (wP (loB a b) (hiB a b))) (zB (wP (loB a b) (hiB a b))) hd.1 hd.2) ?_)
  rintro v15 w15 ⟨rfl, hb15⟩
  have M15 := M14.callB hb15
  refine aB (aC ⟨(eL (bN rfl (bA 5 gB M15 rfl rfl rfl)) dN), ?_⟩)
  refine dM [false] rfl (by kernel_rfl) (cA aVn rfl rfl (zJ _ (xF (wP (loB a b) (hiB a b))) (zB (wP (loB a b) (hiB a b))) hd.1 hd.2) ?_)
  rintro v16 w16 ⟨rfl, hb16⟩
  have M16 := M15.callB hb16
  refine aB (aC ⟨(eL (bN rfl (bA 5 gB M16 rfl rfl rfl)) dN), ?_⟩)
  refine aX rfl rfl rfl (fun _ => nE rfl rfl (by omega) (by omega)) (aX rfl rfl rfl (fun _ => dT us2 Tryz.underlying21 rfl) (aX rfl rfl rfl (fun _ => cF [(0, .agg (List.toArray _)), (1, .agg (List.toArray _)), (2, .int _ _)] _ aBp rfl rfl) (dM [true] rfl (by kernel_rfl) (bC 2 _ gI M16 rfl rfl rfl rfl rfl (aR rfl) rfl (fun w17 M17 => ?_)))))
  refine aB (aC ⟨dN, ?_⟩)
  refine aX rfl rfl rfl (fun _ => aI (.bool true) rfl) (cE (aC (aO (aCk (v2 := .bool true) 2 gI M17 rfl rfl rfl rfl ?_))))
  exact ⟨by rw [aGh]; unfold oM; first | (rw [if_pos (by omega)]; rfl) | (rw [if_neg (by omega)]; rfl), M17.below⟩
end Go.Proofs.YtaoaknafiegfoaaGreatDoor
