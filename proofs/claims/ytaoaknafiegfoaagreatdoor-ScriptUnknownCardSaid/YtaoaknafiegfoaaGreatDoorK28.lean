/- Part of the proof of the laws of this seat: Z1, Z1b, Z1c, Z1d, W3, Z2, W4, Z3, Z4, W5, W6. No conditions. -/
import Derived.Test.YtaoaknafiegfoaaGreatDoorK2
import Derived.Test.YtaoaknafiegfoaaGreatDoorK5
import Derived.Test.YtaoaknafiegfoaaGreatDoorK12
import Derived.Test.YtaoaknafiegfoaaGreatDoorK18
import Derived.Test.YtaoaknafiegfoaaGreatDoorK11
import Derived.Test.YtaoaknafiegfoaaGreatDoorK17
set_option linter.unusedVariables false
set_option linter.unusedSimpArgs false
set_option linter.unnecessarySimpa false
namespace Go.Proofs.YtaoaknafiegfoaaGreatDoor
open Go.Bil
open Go.RowKit (Below)
open Go.Proofs
set_option maxHeartbeats 8000000 in
theorem bIh (w : World) (n : Nat) (hn : n < 18446744073709551616) :
  Calls Tryz.prog 242 #[.int .u64 (n : Int)] w (fun ex w' => ∃ v, ex = .returned v ∧ (fun v w' => v = .int .u64 ((vG n : Nat) : Int) ∧ Below w.heap.size w w') v w') := by
 refine aH #[.tmp 2] 32 Tryz.func242 rfl Tryz.results242 Tryz.ntmps242 rfl ?_
 have M0 := Mem.refl w
 refine aD (aA (bP rfl rfl (aB (aC (aD (aA (aY rfl rfl (bP rfl rfl (bP rfl rfl ?_)))))))))
 refine aB (aC (aD (aD (aA (aY rfl rfl (aB (aC (aT (dP (σ := Nat × Nat × Nat) [2] (fun (i, R, e) => [(8, .int .i64 (i : Int)), (3, .int .u64 ((n - R * R : Nat) : Int)), (4, .int .u64 ((R * e : Nat) : Int))]) (fun (i, R, e) w' => Iq n i R e ∧ Mem w [] [] w') (fun (i, R, e) => 32 - i) (0, 0, 4294967296) (bM rfl (bM (iv rfl (by simp)) (bM (iv rfl (by simp)) fD))) (⟨bAc hn, M0⟩) ?_)))))))))
 rintro ⟨i, R, e⟩ ρ1 w1 ⟨I, hM1⟩
 have hile := I.ile
 have hle := I.le
 refine aD (aA (cY rfl rfl rfl rfl (aB (aC (aD ?_)))))
 refine bE rfl (fun h9 => ?_) (fun h9 => ?_)
 ·obtain ⟨f, hf1, hf2, hf3, hf4, hf5, hf6, hf7, hf8, hfy, hfn⟩ := bAe (by omega) I
  refine aM (aC (aD (aT (aD (aA (aY rfl rfl (bP rfl rfl (aB (aC (aD (aA (aY rfl rfl (wq (fX rfl rfl (by omega) (by omega)) rfl ?_)))))))))))))
  refine wq (gL rfl rfl (by omega)) rfl (aS 13 (.int .u64 ((f * f : Nat) : Int)) (iE ((aYt (2 * i) _ (by omega) (by omega)).trans (congrArg _ hf4))) (bP rfl rfl (aB (aC (aD (aA (aY rfl rfl (aY rfl rfl ?_))))))))
  refine aY rfl rfl (wq (dY (.int _ _) rfl rfl rfl) rfl (aS 17 (.int .u64 ((R * e + f * f : Nat) : Int)) (iE (by rw [rO]; omega)) (cY rfl rfl rfl rfl (aB (aC ?_)))))
  refine bE rfl (fun h18 => ?_) (fun h18 => ?_)
  ·have h18' : R * e + f * f ≤ n - R * R := by omega
   refine aD (aA (aY rfl rfl (aY rfl rfl (aY rfl rfl (wq (dY (.int _ _) rfl rfl rfl) rfl (aS 22 (.int .u64 ((R * e + f * f : Nat) : Int)) (iE (by rw [rO]; omega)) ?_))))))
   refine wq (dY (.int _ _) rfl rfl rfl) rfl (aS 23 (.int .u64 ((n - (R + f) * (R + f) : Nat) : Int)) (iE (by rw [rO]; omega)) (bP rfl rfl (aB (aC (aA (aY rfl rfl (wq (gL rfl rfl (by decide)) rfl ?_)))))))
   refine aS 25 (.int .u64 ((R * f : Nat) : Int)) (iE ((aRj (R * e)).trans (congrArg _ hf5))) (aY rfl rfl (wq (dY (.int _ _) rfl rfl rfl) rfl (aS 27 (.int .u64 (((R + f) * f : Nat) : Int)) (iE (by rw [rO]; omega)) (bP rfl rfl (aB ?_)))))
   refine dJ (aC (aA (wq (bQ rfl rfl (by omega) (by omega)) rfl (aY rfl rfl (aB ?_)))))
   refine cT (i + 1, R + f, f) (bM rfl (bM rfl (bM rfl fD))) (cW rfl kK) ?_ ?_
   ·exact ⟨hfy h18', hM1⟩
   ·(show 32 - (i + 1) < 32 - i; omega)
  ·have h18' : ¬ (R * e + f * f ≤ n - R * R) := by omega
   refine aA (aY rfl rfl (wq (gL rfl rfl (by decide)) rfl (aS 29 (.int .u64 ((R * f : Nat) : Int)) (iE ((aRj (R * e)).trans (congrArg _ hf5))) (bP rfl rfl (aB ?_)))))
   refine dJ (aC (aA (wq (bQ rfl rfl (by omega) (by omega)) rfl (aY rfl rfl (aB ?_)))))
   refine cT (i + 1, R, f) (bM rfl (bM rfl (bM rfl fD))) (cW rfl kK) ?_ ?_
   ·exact ⟨hfn h18', hM1⟩
   ·(show 32 - (i + 1) < 32 - i; omega)
 ·obtain rfl : i = 32 := by omega
  refine cO (dC (dA (eV (aC (aD (aA (aY rfl rfl ?_)))))))
  refine bP rfl rfl (aB (aC (aN (cB (.int _ _) rfl ?_))))
  exact ⟨iE (by rw [aYw I]), hM1.below⟩
set_option maxHeartbeats 4000000 in
theorem oU (w : World) (a b : Int × Int) (ha : I32 a) (hb : I32 b) :
  Calls Tryz.prog 239 #[(.agg (cN a).toArray), (.agg (cN b).toArray)] w (fun ex w' => ∃ v, ex = .returned v ∧ (fun v w' => v = .tuple #[.int .i64 (b.1 - a.1), .int .i64 (b.2 - a.2)] ∧ Below w.heap.size w w') v w') := by
 have hax := ha.x
 have hay := ha.y
 have hbx := hb.x
 have hby := hb.y
 refine aH #[.tmp 4, .tmp 5] 20 Tryz.func239 rfl Tryz.results239 Tryz.ntmps239 rfl ?_
 have M0 := Mem.refl w
 refine aD (aA (bC (.agg (List.toArray _)) M0 rfl rfl rfl (fun b1 w1 M1 => (bC (.agg (List.toArray _)) M1 rfl rfl rfl (fun b2 w2 M2 => (bP rfl rfl (bP rfl rfl (aB (aC (aD ?_))))))))))
 refine bO [(0, 0), (1, 1), (2, 0), (3, 0), (4, 1), (5, 0), (6, 0), (7, 0), (8, 1), (9, 0), (10, 0), (11, 1), (12, 0), (13, 0), (14, 0), (15, 0)] mixed rfl (by kernel_rfl) (fun w3 hb3 hh3 => ?_)
 have M3 := M2.drew hb3 hh3
 refine aX rfl rfl rfl (fun _ => aE 0 dT rfl) (cA rfl rfl rfl (aK 1 (.int _ _) aW M3 rfl rfl rfl) (aX rfl rfl rfl (fun _ => bS fR Tryz.underlying2 rfl (kJ _ (by omega) (by omega))) (aX rfl rfl rfl (fun _ => aE 0 dT rfl) (cA rfl rfl rfl (aK 0 (.int _ _) aW M3 rfl rfl rfl) ?_))))
 refine aX rfl rfl rfl (fun _ => bS fR Tryz.underlying2 rfl (kJ _ (by omega) (by omega))) (aX rfl rfl rfl (fun _ => nE rfl rfl (by omega) (by omega)) (aX rfl rfl rfl (fun _ => aE 1 dN rfl) (cA rfl rfl rfl (aK 1 (.int _ _) aW M3 rfl rfl rfl) (aX rfl rfl rfl (fun _ => bS fR Tryz.underlying2 rfl (kJ _ (by omega) (by omega))) ?_))))
 refine aX rfl rfl rfl (fun _ => aE 1 dN rfl) (cA rfl rfl rfl (aK 0 (.int _ _) aW M3 rfl rfl rfl) (aX rfl rfl rfl (fun _ => bS fR Tryz.underlying2 rfl (kJ _ (by omega) (by omega))) (aX rfl rfl rfl (fun _ => nE rfl rfl (by omega) (by omega)) (qL rfl rfl rfl (qL rfl rfl rfl ?_)))))
 refine cF (aC (aN (iK (.int _ _) (.int _ _) rfl rfl ?_)))
 exact ⟨rfl, M3.below⟩
set_option maxHeartbeats 4000000 in
theorem zE (w : World) (n : Int) (hn : wK n) :
  Calls Tryz.prog 240 #[.int .i64 n] w (fun ex w' => ∃ v, ex = .returned v ∧ (fun v w' => v = .int .u64 ((n.natAbs * n.natAbs : Nat) : Int) ∧ Below w.heap.size w w') v w') := by
 have hlt := (zZ hn hn).2.1
 unfold wK at hn
 refine aH #[.tmp 2] 12 Tryz.func240 rfl Tryz.results240 Tryz.ntmps240 rfl ?_
 have M0 := Mem.refl w
 refine aD (aA (bP rfl rfl (aB (aC (aD (aD (aA (aY rfl rfl (cY rfl rfl rfl rfl (aB (aC ?_)))))))))))
 refine bE rfl (fun h4 => ?_) (fun h4 => ?_)
 ·refine aA (aY rfl rfl (wq (aBf rfl) rfl (aS 6 (.int .i64 (-n)) (iE (kJ _ (by omega) (by omega))) (bP rfl rfl (aB (aC (aD (aA ?_))))))))
  refine aY rfl rfl (wq (dR us2 Tryz.underlying237 rfl) rfl (aS 8 (.int .u64 ((n.natAbs : Nat) : Int)) (iE (by rw [rO]; omega)) (aY rfl rfl (wq (dR us2 Tryz.underlying237 rfl) rfl (aS 10 (.int .u64 ((n.natAbs : Nat) : Int)) (iE (by rw [rO]; omega)) ?_)))))
  refine wq (dY (.int _ _) rfl rfl rfl) rfl (aS 11 (.int .u64 ((n.natAbs * n.natAbs : Nat) : Int)) (iE (aOz _ _ (by omega))) (bP rfl rfl (aB (aC (aN (cB (.int _ _) rfl ?_))))))
  exact ⟨rfl, M0.below⟩
 ·refine aM (aC (aD (aA (aY rfl rfl (wq (dR us2 Tryz.underlying237 rfl) rfl (aS 8 (.int .u64 ((n.natAbs : Nat) : Int)) (iE (by rw [rO]; omega)) (aY rfl rfl (wq (dR us2 Tryz.underlying237 rfl) rfl ?_))))))))
  refine aS 10 (.int .u64 ((n.natAbs : Nat) : Int)) (iE (by rw [rO]; omega)) (wq (dY (.int _ _) rfl rfl rfl) rfl (aS 11 (.int .u64 ((n.natAbs * n.natAbs : Nat) : Int)) (iE (aOz _ _ (by omega))) (bP rfl rfl (aB (aC (aN (cB (.int _ _) rfl ?_)))))))
  exact ⟨rfl, M0.below⟩
set_option maxHeartbeats 4000000 in
theorem oJ (w : World) (dx dy : Int) (hx : wK dx) (hy : wK dy) :
  Calls Tryz.prog 216 #[.int .i64 dx, .int .i64 dy] w (fun ex w' => ∃ v, ex = .returned v ∧ (fun v w' => v = .int .u64 ((lsq dx dy : Nat) : Int) ∧ Below w.heap.size w w') v w') := by
 have hl := zZ hx hy
 refine aH #[.tmp 4] 10 Tryz.func216 rfl Tryz.results216 Tryz.ntmps216 rfl ?_
 have M0 := Mem.refl w
 refine aD (aA (bP rfl rfl (aB (aC (aD (aA (aY rfl rfl (bX aTh rfl rfl (zE _ dx hx) ?_))))))))
 rintro v1 w1 ⟨rfl, hb1⟩
 have M1 := M0.callB hb1
 refine aY rfl rfl (bX aTh rfl rfl (zE _ dy hy) ?_)
 rintro v2 w2 ⟨rfl, hb2⟩
 have M2 := M1.callB hb2
 refine wq (dY (.int _ _) rfl rfl rfl) rfl (aS 9 (.int .u64 ((lsq dx dy : Nat) : Int)) (iE (by rw [rO]; unfold lsq at *; omega)) (bP rfl rfl (aB (aC (aN (cB (.int _ _) rfl ?_))))))
 exact ⟨rfl, M2.below⟩
set_option maxHeartbeats 4000000 in
theorem zN (w : World) (dx dy : Int) (hx : wK dx) (hy : wK dy) :
  Calls Tryz.prog 218 #[.int .i64 dx, .int .i64 dy] w (fun ex w' => ∃ v, ex = .returned v ∧ (fun v w' => v = .int .i64 (len dx dy) ∧ Below w.heap.size w w') v w') := by
 have hl := aEb hx hy
 refine aH #[.tmp 4] 10 Tryz.func218 rfl Tryz.results218 Tryz.ntmps218 rfl ?_
 have M0 := Mem.refl w
 refine aD (aA (bP rfl rfl (aB (aC (aD (aA (aY rfl rfl (aY rfl rfl (bX aLd rfl rfl (oJ _ dx dy hx hy) ?_)))))))))
 rintro v1 w1 ⟨rfl, hb1⟩
 have M1 := M0.callB hb1
 refine bX bBp rfl rfl (bIh _ (lsq dx dy) (zZ hx hy).1) ?_
 rintro v2 w2 ⟨rfl, hb2⟩
 have M2 := M1.callB hb2
 refine wq (dR aBm Tryz.underlying2 rfl) rfl (aS 9 (.int .i64 (len dx dy)) (iE (kJ (len dx dy) (by omega) (by omega))) (bP rfl rfl (aB (aC (aN (cB (.int _ _) rfl ?_))))))
 exact ⟨rfl, M2.below⟩
set_option maxHeartbeats 4000000 in
theorem aBx (w : World) (a b : Int) (hb : 0 < b) (h0 : -1000000000000000000 ≤ a) (h1 : a ≤ 1000000000000000000) :
  Calls Tryz.prog 241 #[.int .i64 a, .int .i64 b] w (fun ex w' => ∃ v, ex = .returned v ∧ (fun v w' => v = .int .i64 (a / b) ∧ Below w.heap.size w w') v w') := by
 have hf := aFa (a := a) hb
 have hb1 := aIx a b
 refine aH #[.tmp 4] 16 Tryz.func241 rfl Tryz.results241 Tryz.ntmps241 rfl ?_
 have M0 := Mem.refl w
 refine aD (aA (bP rfl rfl (aB (aC (aD (aA (aY rfl rfl (aY rfl rfl (wq (aMt rfl rfl (by omega)) rfl ?_)))))))))
 refine aS 8 (.int .i64 (a.tdiv b)) (iE (kJ _ (by omega) (by omega))) (bP rfl rfl (aB (aC (aD (aD (aA (aY rfl rfl (aY rfl rfl (wq (bAs rfl rfl (by omega)) rfl ?_)))))))))
 refine cY rfl rfl rfl rfl (aB (aC ?_))
 refine bE rfl (fun h12 => ?_) (fun h12 => ?_)
 ·refine aA (aY rfl rfl (wq (nE rfl rfl (by omega) (by omega)) rfl (bP rfl rfl (aB (aC (aD (aA (aY rfl rfl ?_))))))))
  refine bP rfl rfl (aB (aC (aN (cB (.int _ _) rfl ?_))))
  exact ⟨iE (by first | exact hf.1 (by omega) | exact hf.2 (by omega)), M0.below⟩
 ·refine aM (aC (aD (aA (aY rfl rfl (bP rfl rfl (aB (aC (aN (cB (.int _ _) rfl ?_)))))))))
  exact ⟨iE (by first | exact hf.1 (by omega) | exact hf.2 (by omega)), M0.below⟩
set_option maxHeartbeats 4000000 in
theorem aVs (w : World) (dx dy : Int) (hx : wK dx) (hy : wK dy) :
  Calls Tryz.prog 217 #[.int .i64 dx, .int .i64 dy] w (fun ex w' => ∃ v, ex = .returned v ∧ (fun v w' => v = (.agg (cN (pQ dx dy)).toArray) ∧ Below w.heap.size w w') v w') := by
 have hl := aEb hx hy
 have hxx := hx
 have hyy := hy
 unfold wK at hxx hyy
 refine aH #[.cell 4 37] 23 Tryz.func217 rfl Tryz.results217 Tryz.ntmps217 rfl ?_
 have M0 := Mem.refl w
 refine aD (aA (aP gC M0 rfl rfl (fun b1 w1 M1 => (aB (aC (aD (aA (aY rfl rfl (aY rfl rfl (bX aVm rfl rfl (zN _ dx dy hx hy) ?_))))))))))
 rintro v2 w2 ⟨rfl, hb2⟩
 have M2 := M1.callB hb2
 refine bP rfl rfl (aB (aC (aD (aD (aA (aY rfl rfl (cY rfl rfl rfl rfl (aB (aC ?_)))))))))
 refine bE rfl (fun h10 => ?_) (fun h10 => ?_)
 ·refine aD (aA (wq (cD [(0, .int _ _)] _ fY rfl rfl) rfl (bB 0 _ bJ M2 rfl rfl rfl rfl rfl (aQ rfl) rfl (fun w3 M3 => (aB (aC (aN (cJ (eP 0 bJ M3 rfl rfl rfl ?_)))))))))
  exact ⟨by unfold pQ; first | (rw [if_pos (by omega)]; rfl) | (rw [if_neg (by omega)]; rfl), M3.below⟩
 ·refine aM (aC (aD (aA (aY rfl rfl (wq (tA rfl rfl (by decide)) rfl (aS 13 (.int .i64 (dx * 65536)) (iE (aBu dx hx)) (aY rfl rfl (bX aUr rfl rfl (aBx _ (dx * 65536) (len dx dy) (by omega) (by omega) (by omega)) ?_))))))))
  rintro v4 w4 ⟨rfl, hb4⟩
  have M4 := M2.callB hb4
  refine wq (dR us2 Tryz.underlying21 rfl) rfl (aY rfl rfl (wq (tA rfl rfl (by decide)) rfl (aS 18 (.int .i64 (dy * 65536)) (iE (aBu dy hy)) (aY rfl rfl (bX aUr rfl rfl (aBx _ (dy * 65536) (len dx dy) (by omega) (by omega) (by omega)) ?_)))))
  rintro v5 w5 ⟨rfl, hb5⟩
  have M5 := M4.callB hb5
  refine wq (dR us2 Tryz.underlying21 rfl) rfl (wq (cD [(0, .int _ _), (1, .int _ _)] _ fY rfl rfl) rfl (bB 0 _ bJ M5 rfl rfl rfl rfl rfl (aQ rfl) rfl (fun w6 M6 => (aB (aC (aN (eP 0 bJ M6 rfl rfl rfl ?_)))))))
  exact ⟨by unfold pQ; first | (rw [if_pos (by omega)]; rfl) | (rw [if_neg (by omega)]; rfl), M6.below⟩
set_option maxHeartbeats 4000000 in
theorem aPp (w : World) (b : Body) (hb : Okb b) :
  Calls Tryz.prog 258 #[(.agg (aF b).toArray)] w (fun ex w' => ∃ v, ex = .returned v ∧ (fun v w' => v = .tuple #[(.agg (cN (aHi b)).toArray), (.agg (cN (aFm b)).toArray)] ∧ Below w.heap.size w w') v w') := by
 have ha := hb.a
 have hp := hb.p
 refine aH #[.cell 2 37, .cell 3 37] 36 Tryz.func258 rfl Tryz.results258 Tryz.ntmps258 rfl ?_
 have M0 := Mem.refl w
 refine aD (aA (bC (.agg (List.toArray _)) M0 rfl rfl rfl (fun b1 w1 M1 => (aP gC M1 rfl rfl (fun b2 w2 M2 => (aP gC M2 rfl rfl (fun b3 w3 M3 => (aB (aC (aD (aA (wq (aE 6 gQ rfl) rfl ?_))))))))))))
 refine wq (aE 0 dT rfl) rfl (wq (aK 0 (.int _ _) aW M3 rfl rfl rfl) rfl (wq (aE 2 kW rfl) rfl (wq (aE 0 dT rfl) rfl (wq (aK 0 (.int _ _) aW M3 rfl rfl rfl) rfl (wq (lH rfl rfl (lU _ (by omega) (by omega))) rfl ?_)))))
 refine wq (aE 6 gQ rfl) rfl (wq (aE 1 dN rfl) rfl (wq (aK 0 (.int _ _) aW M3 rfl rfl rfl) rfl (wq (aE 2 kW rfl) rfl (wq (aE 1 dN rfl) rfl (wq (aK 0 (.int _ _) aW M3 rfl rfl rfl) rfl ?_)))))
 refine wq (lH rfl rfl (lU _ (by omega) (by omega))) rfl (wq (cD [(0, .int _ _), (1, .int _ _)] _ fY rfl rfl) rfl (bB 1 _ bJ M3 rfl rfl rfl rfl rfl (aQ rfl) rfl (fun w4 M4 => (aB (aC (aD (aA (wq (aE 6 gQ rfl) rfl (wq (aE 0 dT rfl) rfl ?_)))))))))
 refine wq (aK 0 (.int _ _) aW M4 rfl rfl rfl) rfl (wq (aE 2 kW rfl) rfl (wq (aE 0 dT rfl) rfl (wq (aK 0 (.int _ _) aW M4 rfl rfl rfl) rfl (wq (iV rfl rfl (lU _ (by omega) (by omega))) rfl (wq (aE 6 gQ rfl) rfl ?_)))))
 refine wq (aE 1 dN rfl) rfl (wq (aK 0 (.int _ _) aW M4 rfl rfl rfl) rfl (wq (aE 2 kW rfl) rfl (wq (aE 1 dN rfl) rfl (wq (aK 0 (.int _ _) aW M4 rfl rfl rfl) rfl (wq (iV rfl rfl (lU _ (by omega) (by omega))) rfl ?_)))))
 refine wq (cD [(0, .int _ _), (1, .int _ _)] _ fY rfl rfl) rfl (bB 2 _ bJ M4 rfl rfl rfl rfl rfl (aQ rfl) rfl (fun w5 M5 => (aB (aC (aD (bO [(0, 1), (1, 1), (2, 2), (3, 2)] mixed rfl (by kernel_rfl) (fun w6 hb6 hh6 => ?_)))))))
 have M6 := M5.drew hb6 hh6
 refine cA rfl rfl rfl (bA 1 bJ M6 rfl rfl rfl) (cA rfl rfl rfl (bA 2 bJ M6 rfl rfl rfl) (dL [false, true] rfl (by kernel_rfl) (bB 1 _ bJ M6 rfl rfl rfl rfl rfl (aQ rfl) rfl (fun w7 M7 => ?_))))
 refine aB (aC ⟨(eK (bL rfl (bA 2 bJ M7 rfl rfl rfl)) dM), ?_⟩)
 refine dL [true] rfl (by kernel_rfl) (bB 2 _ bJ M7 rfl rfl rfl rfl rfl (aQ rfl) rfl (fun w8 M8 => ?_))
 refine aB (aC ⟨dM, ?_⟩)
 refine cF (aC (aN (aNf 1 2 bJ M8 rfl rfl rfl rfl rfl rfl ?_)))
 exact ⟨rfl, M8.below⟩
set_option maxHeartbeats 4000000 in
theorem aFr (w : World) (p q c : Pt) (h : SgI p q) (hc : PtI c) :
  Calls Tryz.prog 282 #[(.agg (cN p).toArray), (.agg (cN q).toArray), (.agg (cN c).toArray)] w (fun ex w' => ∃ v, ex = .returned v ∧ (fun v w' => v = .tuple #[.int .i64 (oP p q c), .int .i64 (lM p q)] ∧ Below w.heap.size w w') v w') := by
 have hD := sL h
 have hx := aOb h hc
 refine aH #[.tmp 6, .tmp 7] 42 Tryz.func282 rfl Tryz.results282 Tryz.ntmps282 rfl ?_
 have M0 := Mem.refl w
 refine aD (aA (bC (.agg (List.toArray _)) M0 rfl rfl rfl (fun b1 w1 M1 => (bC (.agg (List.toArray _)) M1 rfl rfl rfl (fun b2 w2 M2 => (bC (.agg (List.toArray _)) M2 rfl rfl rfl (fun b3 w3 M3 => (bP rfl rfl (bP rfl rfl ?_)))))))))
 refine aB (aC (aD (aA (wq (bA 0 bJ M3 rfl rfl rfl) rfl (wq (bA 1 bJ M3 rfl rfl rfl) rfl (bX xK rfl rfl (oU _ p q h.hp.i32 h.hq.i32) ?_))))))
 rintro v4 w4 ⟨rfl, hb4⟩
 have M4 := M3.callB hb4
 refine wq (aG (.tuple (List.toArray _)) rfl) rfl (wq (bG (.int _ _) rfl rfl) rfl (wq (bG (.int _ _) rfl rfl) rfl (bP rfl rfl (bP rfl rfl (aB (aC (aD (aA ?_))))))))
 refine wq (bA 0 bJ M4 rfl rfl rfl) rfl (wq (bA 2 bJ M4 rfl rfl rfl) rfl (bX xK rfl rfl (oU _ p c h.hp.i32 hc.i32) ?_))
 rintro v5 w5 ⟨rfl, hb5⟩
 have M5 := M4.callB hb5
 refine wq (aG (.tuple (List.toArray _)) rfl) rfl (wq (bG (.int _ _) rfl rfl) rfl (wq (bG (.int _ _) rfl rfl) rfl (bP rfl rfl (bP rfl rfl (aB (aC (aD (aA ?_))))))))
 refine aY rfl rfl (aY rfl rfl (wq (fX rfl rfl (by omega) (by omega)) rfl (aY rfl rfl (aY rfl rfl (wq (fX rfl rfl (by omega) (by omega)) rfl ?_)))))
 refine wq (bQ rfl rfl (by omega) (by omega)) rfl (aS 30 (.int .i64 (lM p q)) rfl (bP rfl rfl (aB (aC (aD (aA (aY rfl rfl (aY rfl rfl ?_))))))))
 refine wq (fX rfl rfl (by omega) (by omega)) rfl (aY rfl rfl (aY rfl rfl (wq (fX rfl rfl (by omega) (by omega)) rfl (wq (bQ rfl rfl (by omega) (by omega)) rfl (aY rfl rfl ?_)))))
 refine wq (xU rfl rfl ) rfl (wq (nP rfl rfl ) rfl (aY rfl rfl (bP rfl rfl (bP rfl rfl (aB (aC (aN ?_)))))))
 refine iK (.int _ _) (.int _ _) rfl rfl ?_
 exact ⟨rfl, M5.below⟩
set_option maxHeartbeats 4000000 in
theorem aAz (w : World) (f a n d : Int) (bn bd : Nat) (ha : -16777216 ≤ a ∧ a ≤ 16777216) (hn : 0 ≤ n) (hnd : n ≤ d) (hd0 : 0 < d) (hd : d ≤ 562949953421312) (h1 : -16777216 ≤ a * n / d ∧ a * n / d ≤ 16777216) (h2 : -1082130432 ≤ f + a * n / d ∧ f + a * n / d ≤ 1082130432) (K1 : Rd w 1 (some ⟨bn, 0, none⟩) 1 [[.int .i64 n]]) (K2 : Rd w 1 (some ⟨bd, 0, none⟩) 1 [[.int .i64 d]]) :
  Calls Tryz.prog 283 #[.int .i32 f, .int .i64 a, .pointer (some ⟨bn, 0, none⟩), .pointer (some ⟨bd, 0, none⟩)] w (fun ex w' => ∃ v, ex = .returned v ∧ (fun v w' => v = .int .i32 (f + a * n / d) ∧ Below w.heap.size w w') v w') := by
 rw [← eM bn, ← eM bd]
 refine aH #[.tmp 6] 20 Tryz.func283 rfl Tryz.results283 Tryz.ntmps283 rfl ?_
 have M0 := Mem.refl w
 refine aD (aA (bP rfl rfl (aB (aC (aD (aA (aY rfl rfl (wq (eI (o := 0) (.int _ _) lC (K1.mem M0) (show ([[.int .i64 n]] : List (List Value))[0]? = some [.int .i64 n] from rfl) rfl rfl) rfl (wq (eI (o := 0) (.int _ _) lC (K2.mem M0) (show ([[.int .i64 d]] : List (List Value))[0]? = some [.int .i64 d] from rfl) rfl rfl) rfl ?_)))))))))
 refine bX aDm rfl rfl (bEc _ a n d (by omega) hn hnd hd0 (by omega)) ?_
 rintro v1 w1 ⟨rfl, hb1⟩
 have M1 := M0.callB hb1
 refine wq (aG (.tuple (List.toArray _)) rfl) rfl (wq (bG (.int _ _) rfl rfl) rfl (wq (bG (.int _ _) rfl rfl) rfl (bP rfl rfl (bP rfl rfl (aB (aC (aD (aA ?_))))))))
 refine aY rfl rfl (aY rfl rfl (wq (bS us2 Tryz.underlying21 rfl (lU _ (by omega) (by omega))) rfl (wq (iV rfl rfl (lU _ (by omega) (by omega))) rfl (bP rfl rfl (aB (aC (aN ?_)))))))
 refine cB (.int _ _) rfl ?_
 exact ⟨rfl, M1.below⟩
set_option maxHeartbeats 4000000 in
theorem kB (w : World) (p q c : Pt) (h : SgI p q) (hc : PtI c) :
  Calls Tryz.prog 277 #[(.agg (cN p).toArray), (.agg (cN q).toArray), (.agg (cN c).toArray)] w (fun ex w' => ∃ v, ex = .returned v ∧ (fun v w' => v = (.agg (cN (dW p q c)).toArray) ∧ Below w.heap.size w w') v w') := by
 have hD := sL h
 have hn := aHw (c := c) h
 have hx := h.x
 have hy := h.y
 refine aH #[.cell 6 37] 40 Tryz.func277 rfl Tryz.results277 Tryz.ntmps277 rfl ?_
 have M0 := Mem.refl w
 refine aD (aA (bC (.agg (List.toArray _)) M0 rfl rfl rfl (fun b1 w1 M1 => (bC (.agg (List.toArray _)) M1 rfl rfl rfl (fun b2 w2 M2 => (bC (.agg (List.toArray _)) M2 rfl rfl rfl (fun b3 w3 M3 => (aP gC M3 rfl rfl (fun b4 w4 M4 => (aB (aC (aD (aA ?_)))))))))))))
 refine wq (bA 0 bJ M4 rfl rfl rfl) rfl (wq (bA 1 bJ M4 rfl rfl rfl) rfl (wq (bA 2 bJ M4 rfl rfl rfl) rfl (bX bDd rfl rfl (aFr _ p q c h hc) ?_)))
 rintro v5 w5 ⟨rfl, hb5⟩
 have M5 := M4.callB hb5
 refine wq (aG (.tuple (List.toArray _)) rfl) rfl (wq (bG (.int _ _) rfl rfl) rfl (wq (bG (.int _ _) rfl rfl) rfl (aP xL M5 rfl rfl (fun b6 w6 M6 => (aP xL M6 rfl rfl (fun b7 w7 M7 => (dX 4 (.int _ _) lC M7 rfl rfl rfl rfl rfl rfl (fun w8 M8 => ?_))))))))
 refine dX 5 (.int _ _) lC M8 rfl rfl rfl rfl rfl rfl (fun w9 M9 => (aB (aC (aD (aD (aA (wq (aK 5 (.int _ _) lC M9 rfl rfl rfl) rfl (cY rfl rfl rfl rfl (aB (aC ?_))))))))))
 refine bE rfl (fun h20 => ?_) (fun h20 => ?_)
 ·refine aD (aA (wq (bA 0 bJ M9 rfl rfl rfl) rfl (bB 3 _ bJ M9 rfl rfl rfl rfl rfl (aQ rfl) rfl (fun w10 M10 => (aB (aC (aN (cJ (eP 3 bJ M10 rfl rfl rfl ?_)))))))))
  exact ⟨by unfold dW; first | (rw [if_pos h20]; rfl) | (rw [if_neg h20]; rfl), M10.below⟩
 ·have hnr := aHv (c := c) h h20
  refine aM (aC (aD (aA (wq (cM [] [.pointer _, .pointer _] rfl rfl) rfl (wq (aI (.func _ _ _) rfl) rfl (aB (aC (aD (aA (wq (bA 0 bJ M9 rfl rfl rfl) rfl (wq (bA 1 bJ M9 rfl rfl rfl) rfl ?_)))))))))))
  refine bX xK rfl rfl (oU _ p q h.hp.i32 h.hq.i32) ?_
  rintro v11 w11 ⟨rfl, hb11⟩
  have M11 := M9.callB hb11
  refine wq (aG (.tuple (List.toArray _)) rfl) rfl (wq (bG (.int _ _) rfl rfl) rfl (wq (bG (.int _ _) rfl rfl) rfl (bP rfl rfl (bP rfl rfl (aB (aC (aD ?_)))))))
  refine bO [(0, 0), (1, 0), (2, 1), (3, 0), (5, 0), (6, 0), (7, 1), (8, 0), (4, 2), (9, 2), (10, 0), (11, 2)] mixed rfl (by kernel_rfl) (fun w12 hb12 hh12 => ?_)
  have M12 := M11.drew hb12 hh12
  refine aX rfl rfl rfl (fun _ => aG (.func _ _ _) rfl) (aX rfl rfl rfl (fun _ => aE 0 dT rfl) (cA rfl rfl rfl (aK 0 (.int _ _) aW M12 rfl rfl rfl) (iG rfl rfl rfl (aX rfl rfl rfl (fun _ => aG (.func _ _ _) rfl) (aX rfl rfl rfl (fun _ => aE 1 dN rfl) ?_)))))
  refine cA rfl rfl rfl (aK 0 (.int _ _) aW M12 rfl rfl rfl) (iG rfl rfl rfl (dL [false, true] rfl (by kernel_rfl) (bX aUp rfl rfl (aAz _ p.1 (q.1 - p.1) (oP p q c) (lM p q) b6 b7 (by omega) hn.1 hn.2 (by omega) (by omega) hnr.1.1 hnr.1.2 (lX 4 M12 rfl rfl) (lX 5 M12 rfl rfl)) ?_)))
  rintro v13 w13 ⟨rfl, hb13⟩
  have M13 := M12.callB hb13
  refine aB (aC ⟨(eK (bL rfl (aK 0 (.int _ _) aW M13 rfl rfl rfl)) dM), ?_⟩)
  refine dL [true] rfl (by kernel_rfl) (bX aUp rfl rfl (aAz _ p.2 (q.2 - p.2) (oP p q c) (lM p q) b6 b7 (by omega) hn.1 hn.2 (by omega) (by omega) hnr.2.1 hnr.2.2 (lX 4 M13 rfl rfl) (lX 5 M13 rfl rfl)) ?_)
  rintro v14 w14 ⟨rfl, hb14⟩
  have M14 := M13.callB hb14
  refine aB (aC ⟨dM, ?_⟩)
  refine aX rfl rfl rfl (fun _ => cD [(0, .int _ _), (1, .int _ _)] _ fY rfl rfl) (dL [] rfl (by kernel_rfl) (bB 3 _ bJ M14 rfl rfl rfl rfl rfl (aQ rfl) rfl (fun w15 M15 => ?_)))
  refine aB (aC ⟨dM, ?_⟩)
  refine cF (aC (aN (eP 3 bJ M15 rfl rfl rfl ?_)))
  exact ⟨by unfold dW; first | (rw [if_pos h20]; rfl) | (rw [if_neg h20]; rfl), M15.below⟩
set_option maxHeartbeats 4000000 in
theorem wW (w : World) (s : Ch) (x y : Pt) (ba bb bl : Nat) (hx : PtI x) (hy : PtI y) (hO : Own [(some ba, bc (cN s.1) 37), (some bb, bc (cN s.2.1) 37), (some bl, bc [.int .u64 (s.2.2 : Int)] 237)] w) :
  Calls Tryz.prog 276 #[(.agg (cN x).toArray), (.agg (cN y).toArray), .pointer (some ⟨bl, 0, none⟩), .pointer (some ⟨ba, 0, none⟩), .pointer (some ⟨bb, 0, none⟩)] w (fun ex w' => ∃ v, ex = .returned v ∧ (fun v w' => v = .tuple #[] ∧ Mem w (bH [(some ba, bc (cN s.1) 37), (some bb, bc (cN s.2.1) 37), (some bl, bc [.int .u64 (s.2.2 : Int)] 237)]) [(some ba, bc (cN (fN s x y).1) 37), (some bb, bc (cN (fN s x y).2.1) 37), (some bl, bc [.int .u64 ((fN s x y).2.2 : Int)] 237)] w') v w') := by
 refine aH #[] 20 Tryz.func276 rfl Tryz.results276 Tryz.ntmps276 rfl ?_
 have M0 := hO.mem
 refine aD (aA (bC (.agg (List.toArray _)) M0 rfl rfl rfl (fun b1 w1 M1 => (bC (.agg (List.toArray _)) M1 rfl rfl rfl (fun b2 w2 M2 => (aB (aC (aD (aA (wq (bA 3 bJ M2 rfl rfl rfl) rfl (wq (bA 4 bJ M2 rfl rfl rfl) rfl ?_)))))))))))
 refine bX xK rfl rfl (oU _ x y hx.i32 hy.i32) ?_
 rintro v3 w3 ⟨rfl, hb3⟩
 have M3 := M2.callB hb3
 refine wq (bG (.int _ _) rfl rfl) rfl (wq (bG (.int _ _) rfl rfl) rfl (bX aLd rfl rfl (oJ _ (y.1 - x.1) (y.2 - x.2) (hx.inX hy) (hx.inY hy)) ?_))
 rintro v4 w4 ⟨rfl, hb4⟩
 have M4 := M3.callB hb4
 refine bP rfl rfl (aB (aC (aD (aA (aY rfl rfl (wq (aK 2 (.int _ _) pO M4 rfl rfl rfl) rfl (cY rfl rfl rfl rfl (aB (aC ?_)))))))))
 refine bE rfl (fun h16 => ?_) (fun h16 => ?_)
 ·refine bO [(0, 1), (1, 1), (2, 0), (3, 2), (4, 2), (5, 2)] mixed rfl (by kernel_rfl) (fun w5 hb5 hh5 => ?_)
  have M5 := M4.drew hb5 hh5
  refine cA rfl rfl rfl (bA 3 bJ M5 rfl rfl rfl) (cA rfl rfl rfl (bA 4 bJ M5 rfl rfl rfl) (iG rfl rfl rfl (dL [false, true] rfl (by kernel_rfl) (bB 0 _ bJ M5 rfl rfl rfl rfl rfl (aQ rfl) rfl (fun w6 M6 => ?_)))))
  refine aB (aC ⟨(eK (bL rfl (bA 4 bJ M6 rfl rfl rfl)) dM), ?_⟩)
  refine dL [true] rfl (by kernel_rfl) (bB 1 _ bJ M6 rfl rfl rfl rfl rfl (aQ rfl) rfl (fun w7 M7 => ?_))
  refine aB (aC ⟨dM, ?_⟩)
  refine dL [] rfl (by kernel_rfl) (dX 2 (.int _ _) pO M7 rfl rfl rfl rfl rfl rfl (fun w8 M8 => ?_))
  refine aB (aC ⟨dM, ?_⟩)
  refine cF (iX ?_)
  exact ⟨rfl, by unfold fN; first | (rw [if_pos (by omega)]; exact M8.keep [true, true, true, false, false]) | (rw [if_neg (by omega)]; exact M8.keep [true, true, true, false, false])⟩
 ·refine aM (iX ?_)
  exact ⟨rfl, by unfold fN; first | (rw [if_pos (by omega)]; exact M4.keep [true, true, true, false, false]) | (rw [if_neg (by omega)]; exact M4.keep [true, true, true, false, false])⟩
set_option maxHeartbeats 8000000 in
theorem aIt (w : World) (ap aq bp bq : Pt) (h1 : SgI ap aq) (h2 : SgI bp bq) :
  Calls Tryz.prog 259 #[(.agg (cN ap).toArray), (.agg (cN aq).toArray), (.agg (cN bp).toArray), (.agg (cN bq).toArray)] w (fun ex w' => ∃ v, ex = .returned v ∧ (fun v w' => v = .tuple #[(.agg (cN (pS ap aq bp bq).1).toArray), (.agg (cN (pS ap aq bp bq).2.1).toArray), .int .u64 ((pS ap aq bp bq).2.2 : Int)] ∧ Below w.heap.size w w') v w') := by
 refine aH #[.cell 8 37, .cell 9 37, .cell 10 237] 48 Tryz.func259 rfl Tryz.results259 Tryz.ntmps259 rfl ?_
 have M0 := Mem.refl w
 refine aD (aA (bC (.agg (List.toArray _)) M0 rfl rfl rfl (fun b1 w1 M1 => (bC (.agg (List.toArray _)) M1 rfl rfl rfl (fun b2 w2 M2 => (bC (.agg (List.toArray _)) M2 rfl rfl rfl (fun b3 w3 M3 => (bC (.agg (List.toArray _)) M3 rfl rfl rfl (fun b4 w4 M4 => (aP gC M4 rfl rfl (fun b5 w5 M5 => ?_)))))))))))
 refine aP gC M5 rfl rfl (fun b6 w6 M6 => (aP aWz M6 rfl rfl (fun b7 w7 M7 => (aB (aC (aD (aA (dX 6 (.int _ _) pO M7 rfl rfl rfl rfl rfl rfl (fun w8 M8 => (aB (aC (aD (aA ?_)))))))))))))
 obtain ⟨s, hS⟩ : ∃ z, z = ch0 := ⟨_, rfl⟩
 have hC : ChI s := by rw [hS]; exact aVj
 have M9 : Mem _ _ [_, _, _, _, (some b5, bc (cN ch0.1) 37), (some b6, bc (cN ch0.2.1) 37), (some b7, bc [.int .u64 (ch0.2.2 : Int)] 237)] _ := M8
 rw [← hS] at M9
 refine wq (cM [] [.pointer _, .pointer _, .pointer _] rfl rfl) rfl (wq (aI (.func _ _ _) rfl) rfl (aB (aC (aD (aD (aA (wq (bA 0 bJ M9 rfl rfl rfl) rfl (wq (bA 1 bJ M9 rfl rfl rfl) rfl (wq (oT [.agg (List.toArray _), .agg (List.toArray _)] uH aMa rfl rfl (dD rfl)) rfl ?_)))))))))
 refine aY rfl rfl (aB (aC (aT (lO 3 (iC (aD (aA (cY rfl rfl rfl rfl (oG 21 rfl (by first | decide | omega) ?_)))))))))
 refine aB (aC (aD (cQ rfl (aM (aC (aD (aT (aD (aA (wq (mO 0 _ uH bJ rfl rfl (by decide) (by decide) rfl rfl) rfl (aP gC M9 rfl rfl (fun b10 w10 M10 => (bB 7 _ bJ M10 rfl rfl rfl rfl rfl (aQ rfl) rfl (fun w11 M11 => ?_))))))))))))))
 refine aB (aC (bO [(0, 0), (1, 1), (2, 1), (3, 1), (4, 1), (5, 2), (6, 2)] mixed rfl (by kernel_rfl) (fun w12 hb12 hh12 => ?_)))
 have M12 := M11.drew hb12 hh12
 refine aX rfl rfl rfl (fun _ => aG (.func _ _ _) rfl) (cA rfl rfl rfl (bA 7 bJ M12 rfl rfl rfl) (cA rfl rfl rfl (bA 2 bJ M12 rfl rfl rfl) (cA rfl rfl rfl (bA 3 bJ M12 rfl rfl rfl) (cA rfl rfl rfl (bA 7 bJ M12 rfl rfl rfl) (dL [true, true, true, false] rfl (by kernel_rfl) ?_)))))
 refine bX aEa rfl rfl (kB _ bp bq ap h2 h1.hp) ?_
 rintro v13 w13 ⟨rfl, hb13⟩
 have M13 := M12.callB hb13
 refine aB (aC ⟨(eK (bL rfl (bA 7 bJ M13 rfl rfl rfl)) dM), ?_⟩)
 refine dL [true] rfl (by kernel_rfl) (bX aDk rfl rfl (wW _ s ap (dW bp bq ap) _ _ _ h1.hp (eS h2) (M13.ownSeg 4 3)) ?_)
 rintro v14 w14 ⟨rfl, hM14⟩
 have M14 : Mem _ _ [_, _, _, _, _, _, _, _] _ := M13.seg 4 3 hM14
 obtain ⟨s, hs⟩ : ∃ z, z = fN s ap (dW bp bq ap) := ⟨_, rfl⟩
 rw [← hs] at M14
 replace hC := hC.step (x := ap) (y := (dW bp bq ap)) h1.hp (eS h2)
 rw [← hs] at hC
 replace hS := hs.trans (congrArg (fun z => fN z ap (dW bp bq ap)) hS)
 refine aB (aC ⟨dM, ?_⟩)
 refine cF (dJ (aC (aA (wq (bQ rfl rfl (by first | decide | omega) (by first | decide | omega)) rfl (aS 30 (.int .i64 1) (iE (by first | decide | omega)) (aY rfl rfl ?_))))))
 refine aB (aC (iC (aD (aA (cY rfl rfl rfl rfl (oG 21 rfl (by first | decide | omega) (aB (aC (aD ?_)))))))))
 refine cQ rfl (aM (aC (aD (aT (aD (aA (wq (mO 1 _ uH bJ rfl rfl (by decide) (by decide) rfl rfl) rfl (aP gC M14 rfl rfl (fun b15 w15 M15 => (bB 8 _ bJ M15 rfl rfl rfl rfl rfl (aQ rfl) rfl (fun w16 M16 => (aB (aC ?_)))))))))))))
 refine bO [(0, 0), (1, 1), (2, 1), (3, 1), (4, 1), (5, 2), (6, 2)] mixed rfl (by kernel_rfl) (fun w17 hb17 hh17 => ?_)
 have M17 := M16.drew hb17 hh17
 refine aX rfl rfl rfl (fun _ => aG (.func _ _ _) rfl) (cA rfl rfl rfl (bA 8 bJ M17 rfl rfl rfl) (cA rfl rfl rfl (bA 2 bJ M17 rfl rfl rfl) (cA rfl rfl rfl (bA 3 bJ M17 rfl rfl rfl) (cA rfl rfl rfl (bA 8 bJ M17 rfl rfl rfl) (dL [true, true, true, false] rfl (by kernel_rfl) ?_)))))
 refine bX aEa rfl rfl (kB _ bp bq aq h2 h1.hq) ?_
 rintro v18 w18 ⟨rfl, hb18⟩
 have M18 := M17.callB hb18
 refine aB (aC ⟨(eK (bL rfl (bA 8 bJ M18 rfl rfl rfl)) dM), ?_⟩)
 refine dL [true] rfl (by kernel_rfl) (bX aDk rfl rfl (wW _ s aq (dW bp bq aq) _ _ _ h1.hq (eS h2) (M18.ownSeg 4 3)) ?_)
 rintro v19 w19 ⟨rfl, hM19⟩
 have M19 : Mem _ _ [_, _, _, _, _, _, _, _, _] _ := M18.seg 4 3 hM19
 obtain ⟨s, hs⟩ : ∃ z, z = fN s aq (dW bp bq aq) := ⟨_, rfl⟩
 rw [← hs] at M19
 replace hC := hC.step (x := aq) (y := (dW bp bq aq)) h1.hq (eS h2)
 rw [← hs] at hC
 replace hS := hs.trans (congrArg (fun z => fN z aq (dW bp bq aq)) hS)
 refine aB (aC ⟨dM, ?_⟩)
 refine cF (dJ (aC (aA (wq (bQ rfl rfl (by first | decide | omega) (by first | decide | omega)) rfl (aS 30 (.int .i64 2) (iE (by first | decide | omega)) (aY rfl rfl ?_))))))
 refine aB (aC (iC (aD (aA (cY rfl rfl rfl rfl (tW 21 rfl (by first | decide | omega) (aB (aC (aD ?_)))))))))
 refine cC rfl (cO (dC (dC (eV (aC (aD (aD (aA (wq (bA 2 bJ M19 rfl rfl rfl) rfl ?_)))))))))
 refine wq (bA 3 bJ M19 rfl rfl rfl) rfl (wq (oT [.agg (List.toArray _), .agg (List.toArray _)] uH aMa rfl rfl (dD rfl)) rfl (aY rfl rfl (aB (aC (aT (lO 3 (iC (aD (aA ?_)))))))))
 refine cY rfl rfl rfl rfl (oG 35 rfl (by first | decide | omega) (aB (aC (aD (cQ rfl (aM (aC (aD (aT (aD (aA (wq (mO 0 _ uH bJ rfl rfl (by decide) (by decide) rfl rfl) rfl ?_))))))))))))
 refine aP gC M19 rfl rfl (fun b20 w20 M20 => (bB 9 _ bJ M20 rfl rfl rfl rfl rfl (aQ rfl) rfl (fun w21 M21 => (aB (aC (bO [(0, 0), (1, 1), (2, 1), (3, 1), (5, 1), (4, 2), (6, 2)] mixed rfl (by kernel_rfl) (fun w22 hb22 hh22 => ?_)))))))
 have M22 := M21.drew hb22 hh22
 refine aX rfl rfl rfl (fun _ => aG (.func _ _ _) rfl) (cA rfl rfl rfl (bA 0 bJ M22 rfl rfl rfl) (cA rfl rfl rfl (bA 1 bJ M22 rfl rfl rfl) (cA rfl rfl rfl (bA 9 bJ M22 rfl rfl rfl) (cA rfl rfl rfl (bA 9 bJ M22 rfl rfl rfl) (dL [false, true, true, true] rfl (by kernel_rfl) ?_)))))
 refine bX aEa rfl rfl (kB _ ap aq bp h1 h2.hp) ?_
 rintro v23 w23 ⟨rfl, hb23⟩
 have M23 := M22.callB hb23
 refine aB (aC ⟨(eK (bL rfl (bA 9 bJ M23 rfl rfl rfl)) dM), ?_⟩)
 refine dL [true] rfl (by kernel_rfl) (bX aDk rfl rfl (wW _ s (dW ap aq bp) bp _ _ _ (eS h1) h2.hp (M23.ownSeg 4 3)) ?_)
 rintro v24 w24 ⟨rfl, hM24⟩
 have M24 : Mem _ _ [_, _, _, _, _, _, _, _, _, _] _ := M23.seg 4 3 hM24
 obtain ⟨s, hs⟩ : ∃ z, z = fN s (dW ap aq bp) bp := ⟨_, rfl⟩
 rw [← hs] at M24
 replace hC := hC.step (x := (dW ap aq bp)) (y := bp) (eS h1) h2.hp
 rw [← hs] at hC
 replace hS := hs.trans (congrArg (fun z => fN z (dW ap aq bp) bp) hS)
 refine aB (aC ⟨dM, ?_⟩)
 refine cF (dJ (aC (aA (wq (bQ rfl rfl (by first | decide | omega) (by first | decide | omega)) rfl (aS 44 (.int .i64 1) (iE (by first | decide | omega)) (aY rfl rfl ?_))))))
 refine aB (aC (iC (aD (aA (cY rfl rfl rfl rfl (oG 35 rfl (by first | decide | omega) (aB (aC (aD ?_)))))))))
 refine cQ rfl (aM (aC (aD (aT (aD (aA (wq (mO 1 _ uH bJ rfl rfl (by decide) (by decide) rfl rfl) rfl (aP gC M24 rfl rfl (fun b25 w25 M25 => (bB 10 _ bJ M25 rfl rfl rfl rfl rfl (aQ rfl) rfl (fun w26 M26 => (aB (aC ?_)))))))))))))
 refine bO [(0, 0), (1, 1), (2, 1), (3, 1), (5, 1), (4, 2), (6, 2)] mixed rfl (by kernel_rfl) (fun w27 hb27 hh27 => ?_)
 have M27 := M26.drew hb27 hh27
 refine aX rfl rfl rfl (fun _ => aG (.func _ _ _) rfl) (cA rfl rfl rfl (bA 0 bJ M27 rfl rfl rfl) (cA rfl rfl rfl (bA 1 bJ M27 rfl rfl rfl) (cA rfl rfl rfl (bA 10 bJ M27 rfl rfl rfl) (cA rfl rfl rfl (bA 10 bJ M27 rfl rfl rfl) (dL [false, true, true, true] rfl (by kernel_rfl) ?_)))))
 refine bX aEa rfl rfl (kB _ ap aq bq h1 h2.hq) ?_
 rintro v28 w28 ⟨rfl, hb28⟩
 have M28 := M27.callB hb28
 refine aB (aC ⟨(eK (bL rfl (bA 10 bJ M28 rfl rfl rfl)) dM), ?_⟩)
 refine dL [true] rfl (by kernel_rfl) (bX aDk rfl rfl (wW _ s (dW ap aq bq) bq _ _ _ (eS h1) h2.hq (M28.ownSeg 4 3)) ?_)
 rintro v29 w29 ⟨rfl, hM29⟩
 have M29 : Mem _ _ [_, _, _, _, _, _, _, _, _, _, _] _ := M28.seg 4 3 hM29
 obtain ⟨s, hs⟩ : ∃ z, z = fN s (dW ap aq bq) bq := ⟨_, rfl⟩
 rw [← hs] at M29
 replace hC := hC.step (x := (dW ap aq bq)) (y := bq) (eS h1) h2.hq
 rw [← hs] at hC
 replace hS := hs.trans (congrArg (fun z => fN z (dW ap aq bq) bq) hS)
 refine aB (aC ⟨dM, ?_⟩)
 refine cF (dJ (aC (aA (wq (bQ rfl rfl (by first | decide | omega) (by first | decide | omega)) rfl (aS 44 (.int .i64 2) (iE (by first | decide | omega)) (aY rfl rfl ?_))))))
 refine aB (aC (iC (aD (aA (cY rfl rfl rfl rfl (tW 35 rfl (by first | decide | omega) (aB (aC (aD ?_)))))))))
 refine cC rfl (cO (dC (dC (eV (aC (aD (bO [(0, 1), (1, 1), (2, 1), (3, 2), (4, 2), (5, 2)] mixed rfl (by kernel_rfl) (fun w30 hb30 hh30 => ?_))))))))
 have M30 := M29.drew hb30 hh30
 refine cA rfl rfl rfl (bA 4 bJ M30 rfl rfl rfl) (cA rfl rfl rfl (bA 5 bJ M30 rfl rfl rfl) (cA rfl rfl rfl (aK 6 (.int _ _) pO M30 rfl rfl rfl) (dL [false, false, true] rfl (by kernel_rfl) (bB 4 _ bJ M30 rfl rfl rfl rfl rfl (aQ rfl) rfl (fun w31 M31 => ?_)))))
 refine aB (aC ⟨(eK (bL rfl (aK 6 (.int _ _) pO M31 rfl rfl rfl)) (eK (bL rfl (bA 5 bJ M31 rfl rfl rfl)) dM)), ?_⟩)
 refine dL [false, true] rfl (by kernel_rfl) (bB 5 _ bJ M31 rfl rfl rfl rfl rfl (aQ rfl) rfl (fun w32 M32 => ?_))
 refine aB (aC ⟨(eK (bL rfl (aK 6 (.int _ _) pO M32 rfl rfl rfl)) dM), ?_⟩)
 refine dL [true] rfl (by kernel_rfl) (dX 6 (.int _ _) pO M32 rfl rfl rfl rfl rfl rfl (fun w33 M33 => ?_))
 refine aB (aC ⟨dM, ?_⟩)
 refine cF (aC (aN (bFb 4 5 6 bJ pO M33 rfl rfl rfl rfl rfl rfl rfl rfl ?_)))
 exact ⟨by rw [show s = pS ap aq bp bq from hS], M33.below⟩
set_option maxHeartbeats 4000000 in
theorem aIq (w : World) (ap aq bp bq : Pt) (h1 : SgI ap aq) (h2 : SgI bp bq) :
  Calls Tryz.prog 238 #[(.agg (cN ap).toArray), (.agg (cN aq).toArray), (.agg (cN bp).toArray), (.agg (cN bq).toArray)] w (fun ex w' => ∃ v, ex = .returned v ∧ (fun v w' => v = .tuple #[(.agg (cN (pS ap aq bp bq).1).toArray), (.agg (cN (pS ap aq bp bq).2.1).toArray)] ∧ Below w.heap.size w w') v w') := by
 refine aH #[.cell 8 37, .cell 9 37] 21 Tryz.func238 rfl Tryz.results238 Tryz.ntmps238 rfl ?_
 have M0 := Mem.refl w
 refine aD (aA (bC (.agg (List.toArray _)) M0 rfl rfl rfl (fun b1 w1 M1 => (bC (.agg (List.toArray _)) M1 rfl rfl rfl (fun b2 w2 M2 => (bC (.agg (List.toArray _)) M2 rfl rfl rfl (fun b3 w3 M3 => (bC (.agg (List.toArray _)) M3 rfl rfl rfl (fun b4 w4 M4 => (aP gC M4 rfl rfl (fun b5 w5 M5 => ?_)))))))))))
 refine aP gC M5 rfl rfl (fun b6 w6 M6 => (aB (aC (aD (aA (wq (bA 0 bJ M6 rfl rfl rfl) rfl (wq (bA 1 bJ M6 rfl rfl rfl) rfl (wq (bA 2 bJ M6 rfl rfl rfl) rfl (wq (bA 3 bJ M6 rfl rfl rfl) rfl ?_)))))))))
 refine bX bBq rfl rfl (aIt _ ap aq bp bq h1 h2) ?_
 rintro v7 w7 ⟨rfl, hb7⟩
 have M7 := M6.callB hb7
 refine wq (aG (.tuple (List.toArray _)) rfl) rfl (wq (bG (.agg (List.toArray _)) rfl rfl) rfl (wq (bG (.agg (List.toArray _)) rfl rfl) rfl (wq (bG (.int _ _) rfl rfl) rfl (bB 4 _ bJ M7 rfl rfl rfl rfl rfl (aQ rfl) rfl (fun w8 M8 => (bB 5 _ bJ M8 rfl rfl rfl rfl rfl (aQ rfl) rfl (fun w9 M9 => ?_)))))))
 refine aB (aC (aD (bO [(0, 1), (1, 1), (2, 2), (3, 2)] mixed rfl (by kernel_rfl) (fun w10 hb10 hh10 => ?_))))
 have M10 := M9.drew hb10 hh10
 refine cA rfl rfl rfl (bA 4 bJ M10 rfl rfl rfl) (cA rfl rfl rfl (bA 5 bJ M10 rfl rfl rfl) (dL [false, true] rfl (by kernel_rfl) (bB 4 _ bJ M10 rfl rfl rfl rfl rfl (aQ rfl) rfl (fun w11 M11 => ?_))))
 refine aB (aC ⟨(eK (bL rfl (bA 5 bJ M11 rfl rfl rfl)) dM), ?_⟩)
 refine dL [true] rfl (by kernel_rfl) (bB 5 _ bJ M11 rfl rfl rfl rfl rfl (aQ rfl) rfl (fun w12 M12 => ?_))
 refine aB (aC ⟨dM, ?_⟩)
 refine cF (aC (aN (aNf 4 5 bJ M12 rfl rfl rfl rfl rfl rfl ?_)))
 exact ⟨rfl, M12.below⟩
set_option maxHeartbeats 4000000 in
theorem wL (w : World) (b : Body) (hb : Okb b) :
  Calls Tryz.prog 237 #[(.agg (aF b).toArray)] w (fun ex w' => ∃ v, ex = .returned v ∧ (fun v w' => v = (.agg (lK b).toArray) ∧ Below w.heap.size w w') v w') := by
 refine aH #[.cell 2 296] 14 Tryz.func237 rfl Tryz.results237 Tryz.ntmps237 rfl ?_
 have M0 := Mem.refl w
 refine aD (aA (bC (.agg (List.toArray _)) M0 rfl rfl rfl (fun b1 w1 M1 => (aP sY M1 rfl rfl (fun b2 w2 M2 => (aB (aC (aD (aA (wq (bA 0 bR M2 rfl rfl rfl) rfl (bX bDo rfl rfl (aPp _ b hb) ?_)))))))))))
 rintro v3 w3 ⟨rfl, hb3⟩
 have M3 := M2.callB hb3
 refine wq (aG (.tuple (List.toArray _)) rfl) rfl (wq (bG (.agg (List.toArray _)) rfl rfl) rfl (wq (bG (.agg (List.toArray _)) rfl rfl) rfl (aP gC M3 rfl rfl (fun b4 w4 M4 => (aP gC M4 rfl rfl (fun b5 w5 M5 => (bB 2 _ bJ M5 rfl rfl rfl rfl rfl (aQ rfl) rfl (fun w6 M6 => ?_))))))))
 refine bB 3 _ bJ M6 rfl rfl rfl rfl rfl (aQ rfl) rfl (fun w7 M7 => (aB (aC (aD (aA (wq (bA 0 bR M7 rfl rfl rfl) rfl (wq (bA 2 bJ M7 rfl rfl rfl) rfl (wq (bA 3 bJ M7 rfl rfl rfl) rfl (wq (cD [(0, .agg (List.toArray _)), (1, .agg (List.toArray _)), (2, .agg (List.toArray _))] _ aQx rfl rfl) rfl ?_)))))))))
 refine bB 1 _ kM M7 rfl rfl rfl rfl rfl (aQ rfl) rfl (fun w8 M8 => (aB (aC (aN (eP 1 kM M8 rfl rfl rfl ?_)))))
 exact ⟨rfl, M8.below⟩
set_option maxHeartbeats 4000000 in
theorem aZt (w : World) (a b : Body) (ha : Okb a) (hb : Okb b) :
  Calls Tryz.prog 214 #[(.agg (aF a).toArray), (.agg (aF b).toArray)] w (fun ex w' => ∃ v, ex = .returned v ∧ (fun v w' => v = .tuple #[(.agg (lK (loB a b)).toArray), (.agg (lK (hiB a b)).toArray)] ∧ Below w.heap.size w w') v w') := by
 refine aH #[.cell 4 296, .cell 5 296] 17 Tryz.func214 rfl Tryz.results214 Tryz.ntmps214 rfl ?_
 have M0 := Mem.refl w
 refine aD (aA (bC (.agg (List.toArray _)) M0 rfl rfl rfl (fun b1 w1 M1 => (bC (.agg (List.toArray _)) M1 rfl rfl rfl (fun b2 w2 M2 => (aP sY M2 rfl rfl (fun b3 w3 M3 => (aP sY M3 rfl rfl (fun b4 w4 M4 => (aB (aC (aD (aD (aA ?_))))))))))))))
 refine wq (aE 0 eX rfl) rfl (wq (aK 0 (.int _ _) bY M4 rfl rfl rfl) rfl (wq (aE 0 eX rfl) rfl (wq (aK 1 (.int _ _) bY M4 rfl rfl rfl) rfl (cY rfl rfl rfl rfl (aB (aC ?_))))))
 refine bE rfl (fun h10 => ?_) (fun h10 => ?_)
 ·refine aA (wq (bA 1 bR M4 rfl rfl rfl) rfl (wq (bA 0 bR M4 rfl rfl rfl) rfl (bB 0 _ bR M4 rfl rfl rfl rfl rfl (aQ rfl) rfl (fun w5 M5 => (bB 1 _ bR M5 rfl rfl rfl rfl rfl (aQ rfl) rfl (fun w6 M6 => (aB (aC (aD ?_)))))))))
  refine bO [(0, 1), (2, 1), (1, 2), (3, 2), (4, 2), (5, 2)] mixed rfl (by kernel_rfl) (fun w7 hb7 hh7 => ?_)
  have M7 := M6.drew hb7 hh7
  refine cA rfl rfl rfl (bA 0 bR M7 rfl rfl rfl) (cA rfl rfl rfl (bA 1 bR M7 rfl rfl rfl) (dL [false, true] rfl (by kernel_rfl) (bX aEn rfl rfl (wL _ b hb) ?_)))
  rintro v8 w8 ⟨rfl, hb8⟩
  have M8 := M7.callB hb8
  refine aB (aC ⟨(eK (bL rfl (bA 1 bR M8 rfl rfl rfl)) dM), ?_⟩)
  refine dL [true] rfl (by kernel_rfl) (bX aEn rfl rfl (wL _ a ha) ?_)
  rintro v9 w9 ⟨rfl, hb9⟩
  have M9 := M8.callB hb9
  refine aB (aC ⟨dM, ?_⟩)
  refine dL [] rfl (by kernel_rfl) (bB 2 _ kM M9 rfl rfl rfl rfl rfl (aQ rfl) rfl (fun w10 M10 => ?_))
  refine aB (aC ⟨dM, ?_⟩)
  refine dL [] rfl (by kernel_rfl) (bB 3 _ kM M10 rfl rfl rfl rfl rfl (aQ rfl) rfl (fun w11 M11 => ?_))
  refine aB (aC ⟨dM, ?_⟩)
  refine cF (aC (aN (aNf 2 3 kM M11 rfl rfl rfl rfl rfl rfl ?_)))
  exact ⟨by unfold loB hiB; first | rw [if_pos (by omega), if_pos (by omega)] | rw [if_neg (by omega), if_neg (by omega)], M11.below⟩
 ·refine aM (aC (aD (bO [(0, 1), (2, 1), (1, 2), (3, 2), (4, 2), (5, 2)] mixed rfl (by kernel_rfl) (fun w12 hb12 hh12 => ?_))))
  have M12 := M4.drew hb12 hh12
  refine cA rfl rfl rfl (bA 0 bR M12 rfl rfl rfl) (cA rfl rfl rfl (bA 1 bR M12 rfl rfl rfl) (dL [false, true] rfl (by kernel_rfl) (bX aEn rfl rfl (wL _ a ha) ?_)))
  rintro v13 w13 ⟨rfl, hb13⟩
  have M13 := M12.callB hb13
  refine aB (aC ⟨(eK (bL rfl (bA 1 bR M13 rfl rfl rfl)) dM), ?_⟩)
  refine dL [true] rfl (by kernel_rfl) (bX aEn rfl rfl (wL _ b hb) ?_)
  rintro v14 w14 ⟨rfl, hb14⟩
  have M14 := M13.callB hb14
  refine aB (aC ⟨dM, ?_⟩)
  refine dL [] rfl (by kernel_rfl) (bB 2 _ kM M14 rfl rfl rfl rfl rfl (aQ rfl) rfl (fun w15 M15 => ?_))
  refine aB (aC ⟨dM, ?_⟩)
  refine dL [] rfl (by kernel_rfl) (bB 3 _ kM M15 rfl rfl rfl rfl rfl (aQ rfl) rfl (fun w16 M16 => ?_))
  refine aB (aC ⟨dM, ?_⟩)
  refine cF (aC (aN (aNf 2 3 kM M16 rfl rfl rfl rfl rfl rfl ?_)))
  exact ⟨by unfold loB hiB; first | rw [if_pos (by omega), if_pos (by omega)] | rw [if_neg (by omega), if_neg (by omega)], M16.below⟩
set_option maxHeartbeats 4000000 in
theorem aZz (w : World) (a b : Body) (ha : Okb a) (hb : Okb b) :
  Calls Tryz.prog 215 #[(.agg (lK a).toArray), (.agg (lK b).toArray)] w (fun ex w' => ∃ v, ex = .returned v ∧ (fun v w' => v = .tuple #[.int .i64 (zM (wC a b)), .int .i64 (xA (wC a b)), .int .i64 (a.radius + b.radius)] ∧ Below w.heap.size w w') v w') := by
 have hra := ha.r
 have hrb := hb.r
 have hch := yD ha hb
 refine aH #[.tmp 4, .tmp 5, .tmp 6] 38 Tryz.func215 rfl Tryz.results215 Tryz.ntmps215 rfl ?_
 have M0 := Mem.refl w
 refine aD (aA (bC (.agg (List.toArray _)) M0 rfl rfl rfl (fun b1 w1 M1 => (bC (.agg (List.toArray _)) M1 rfl rfl rfl (fun b2 w2 M2 => (bP rfl rfl (bP rfl rfl (bP rfl rfl ?_))))))))
 refine aB (aC (aD (aA (wq (aE 10 aHm rfl) rfl (wq (pV 0 _ bJ M2 rfl rfl rfl rfl) rfl (wq (aE 12 aHb rfl) rfl (wq (pV 0 _ bJ M2 rfl rfl rfl rfl) rfl (wq (aE 10 aHm rfl) rfl ?_))))))))
 refine wq (pV 1 _ bJ M2 rfl rfl rfl rfl) rfl (wq (aE 12 aHb rfl) rfl (wq (pV 1 _ bJ M2 rfl rfl rfl rfl) rfl (bX bDy rfl rfl (aIq _ (aHi a) (aFm a) (aHi b) (aFm b) (wO ha) (wO hb)) ?_)))
 rintro v3 w3 ⟨rfl, hb3⟩
 have M3 := M2.callB hb3
 refine wq (aG (.tuple (List.toArray _)) rfl) rfl (wq (bG (.agg (List.toArray _)) rfl rfl) rfl (wq (bG (.agg (List.toArray _)) rfl rfl) rfl (aP gC M3 rfl rfl (fun b4 w4 M4 => (aP gC M4 rfl rfl (fun b5 w5 M5 => (bB 2 _ bJ M5 rfl rfl rfl rfl rfl (aQ rfl) rfl (fun w6 M6 => ?_))))))))
 refine bB 3 _ bJ M6 rfl rfl rfl rfl rfl (aQ rfl) rfl (fun w7 M7 => (aB (aC (aD (aA (wq (bA 2 bJ M7 rfl rfl rfl) rfl (wq (bA 3 bJ M7 rfl rfl rfl) rfl (bX xK rfl rfl (oU _ (wC a b).1 (wC a b).2.1 hch.a.i32 hch.b.i32) ?_))))))))
 rintro v8 w8 ⟨rfl, hb8⟩
 have M8 := M7.callB hb8
 refine wq (aG (.tuple (List.toArray _)) rfl) rfl (wq (bG (.int _ _) rfl rfl) rfl (wq (bG (.int _ _) rfl rfl) rfl (bP rfl rfl (bP rfl rfl (aB (aC (aD ?_)))))))
 refine bO [(0, 0), (1, 0), (2, 0), (3, 0), (4, 1), (5, 0), (6, 0), (7, 0), (8, 1), (9, 0), (10, 0), (11, 0), (12, 0), (13, 0)] mixed rfl (by kernel_rfl) (fun w9 hb9 hh9 => ?_)
 have M9 := M8.drew hb9 hh9
 refine iG rfl rfl rfl (iG rfl rfl rfl (aX rfl rfl rfl (fun _ => aE 0 sU rfl) (aX rfl rfl rfl (fun _ => aE 1 nQ rfl) (cA rfl rfl rfl (aK 0 (.int _ _) aW M9 rfl rfl rfl) (aX rfl rfl rfl (fun _ => bS fR Tryz.underlying2 rfl (kJ _ (by omega) (by omega))) ?_)))))
 refine aX rfl rfl rfl (fun _ => aE 0 sU rfl) (aX rfl rfl rfl (fun _ => aE 1 nQ rfl) (cA rfl rfl rfl (aK 1 (.int _ _) aW M9 rfl rfl rfl) (aX rfl rfl rfl (fun _ => bS fR Tryz.underlying2 rfl (kJ _ (by omega) (by omega))) (aX rfl rfl rfl (fun _ => bQ rfl rfl (by omega) (by omega)) ?_))))
 refine qL rfl rfl rfl (qL rfl rfl rfl (qL rfl rfl rfl (cF (aC (aN (bIw (.int _ _) (.int _ _) (.int _ _) rfl rfl rfl ?_))))))
 exact ⟨rfl, M9.below⟩
set_option maxHeartbeats 4000000 in
theorem xP (w : World) (a b : Body) (ha : Okb a) (hb : Okb b) :
  Calls Tryz.prog 185 #[(.agg (aF a).toArray), (.agg (aF b).toArray)] w (fun ex w' => ∃ v, ex = .returned v ∧ (fun v w' => v = .tuple #[.agg (bCu (oL a b)).toArray, .bool (oL a b).isSome] ∧ Below w.heap.size w w') v w') := by
 obtain ⟨hlo, hhi⟩ := bCr ha hb
 have hd := bBg hlo hhi
 have hl := aEb hd.1 hd.2
 have hss := bEy hlo hhi
 have hr1 := hlo.r
 have hr2 := hhi.r
 refine aH #[.cell 4 211, .tmp 5] 52 Tryz.func185 rfl Tryz.results185 Tryz.ntmps185 rfl ?_
 have M0 := Mem.refl w
 refine aD (aA (bC (.agg (List.toArray _)) M0 rfl rfl rfl (fun b1 w1 M1 => (bC (.agg (List.toArray _)) M1 rfl rfl rfl (fun b2 w2 M2 => (aP sK M2 rfl rfl (fun b3 w3 M3 => (wq (aI (.bool false) rfl) rfl (aB (aC (aD (aA ?_))))))))))))
 refine wq (bA 0 bR M3 rfl rfl rfl) rfl (wq (bA 1 bR M3 rfl rfl rfl) rfl (bX bBt rfl rfl (aZt _ a b ha hb) ?_))
 rintro v4 w4 ⟨rfl, hb4⟩
 have M4 := M3.callB hb4
 refine wq (aG (.tuple (List.toArray _)) rfl) rfl (wq (bG (.agg (List.toArray _)) rfl rfl) rfl (wq (bG (.agg (List.toArray _)) rfl rfl) rfl (aP sY M4 rfl rfl (fun b5 w5 M5 => (aP sY M5 rfl rfl (fun b6 w6 M6 => (bB 3 _ kM M6 rfl rfl rfl rfl rfl (aQ rfl) rfl (fun w7 M7 => ?_))))))))
 refine bB 4 _ kM M7 rfl rfl rfl rfl rfl (aQ rfl) rfl (fun w8 M8 => (aB (aC (aD (aA (wq (bA 3 kM M8 rfl rfl rfl) rfl (wq (bA 4 kM M8 rfl rfl rfl) rfl (bX bFj rfl rfl (aZz _ (loB a b) (hiB a b) hlo hhi) ?_))))))))
 rintro v9 w9 ⟨rfl, hb9⟩
 have M9 := M8.callB hb9
 refine wq (aG (.tuple (List.toArray _)) rfl) rfl (wq (bG (.int _ _) rfl rfl) rfl (wq (bG (.int _ _) rfl rfl) rfl (wq (bG (.int _ _) rfl rfl) rfl (bP rfl rfl (bP rfl rfl ?_)))))
 refine bP rfl rfl (aB (aC (aD (aD (aA (aY rfl rfl (aY rfl rfl (bX aLd rfl rfl (oJ _ (zM (wC (loB a b) (hiB a b))) (xA (wC (loB a b) (hiB a b))) hd.1 hd.2) ?_))))))))
 rintro v10 w10 ⟨rfl, hb10⟩
 have M10 := M9.callB hb10
 refine aY rfl rfl (aY rfl rfl (wq (fX rfl rfl (by omega) (by omega)) rfl (wq (dR us2 Tryz.underlying237 rfl) rfl (aS 31 (.int .u64 ((((loB a b).radius + (hiB a b).radius).natAbs * ((loB a b).radius + (hiB a b).radius).natAbs : Nat) : Int)) (iE (aXh _ hss)) (cY rfl rfl rfl rfl ?_)))))
 refine aB (aC ?_)
 refine bE rfl (fun h32 => ?_) (fun h32 => ?_)
 ·refine aD (aA (wq (cD [] _ aCn rfl rfl) rfl (bB 2 _ gH M10 rfl rfl rfl rfl rfl (aQ rfl) rfl (fun w11 M11 => (wq (aI (.bool false) rfl) rfl (aB (aC (aN (cJ (aBk (v2 := .bool false) 2 gH M11 rfl rfl rfl rfl ?_))))))))))
  exact ⟨by rw [aFf]; unfold nW; first | (rw [if_pos (by omega)]; rfl) | (rw [if_neg (by omega)]; rfl), M11.below⟩
 ·refine aM (aC (aD (aA (wq (aE 0 sU rfl) rfl (wq (aE 0 eX rfl) rfl (wq (aK 3 (.int _ _) bY M10 rfl rfl rfl) rfl (wq (aE 0 sU rfl) rfl (wq (aE 0 eX rfl) rfl ?_))))))))
  refine wq (aK 4 (.int _ _) bY M10 rfl rfl rfl) rfl (wq (cD [(0, .int _ _), (1, .int _ _)] _ aCj rfl rfl) rfl (aP qD M10 rfl rfl (fun b12 w12 M12 => (bB 5 _ gA M12 rfl rfl rfl rfl rfl (aQ rfl) rfl (fun w13 M13 => (aB (aC (aD (bO [(0, 1), (1, 0), (2, 0), (4, 0), (5, 0), (6, 0), (3, 2), (7, 2), (8, 0), (9, 0), (10, 0), (11, 2), (12, 0)] mixed rfl (by kernel_rfl) (fun w14 hb14 hh14 => ?_))))))))))
  have M14 := M13.drew hb14 hh14
  refine cA rfl rfl rfl (bA 5 gA M14 rfl rfl rfl) (iG rfl rfl rfl (iG rfl rfl rfl (iG rfl rfl rfl (iG rfl rfl rfl (iG rfl rfl rfl ?_)))))
  refine dL [false] rfl (by kernel_rfl) (bX bEe rfl rfl (aVs _ (zM (wC (loB a b) (hiB a b))) (xA (wC (loB a b) (hiB a b))) hd.1 hd.2) ?_)
  rintro v15 w15 ⟨rfl, hb15⟩
  have M15 := M14.callB hb15
  refine aB (aC ⟨(eK (bL rfl (bA 5 gA M15 rfl rfl rfl)) dM), ?_⟩)
  refine dL [false] rfl (by kernel_rfl) (bX aVm rfl rfl (zN _ (zM (wC (loB a b) (hiB a b))) (xA (wC (loB a b) (hiB a b))) hd.1 hd.2) ?_)
  rintro v16 w16 ⟨rfl, hb16⟩
  have M16 := M15.callB hb16
  refine aB (aC ⟨(eK (bL rfl (bA 5 gA M16 rfl rfl rfl)) dM), ?_⟩)
  refine aX rfl rfl rfl (fun _ => nE rfl rfl (by omega) (by omega)) (aX rfl rfl rfl (fun _ => dR us2 Tryz.underlying21 rfl) (aX rfl rfl rfl (fun _ => cD [(0, .agg (List.toArray _)), (1, .agg (List.toArray _)), (2, .int _ _)] _ aCn rfl rfl) (dL [true] rfl (by kernel_rfl) (bB 2 _ gH M16 rfl rfl rfl rfl rfl (aQ rfl) rfl (fun w17 M17 => ?_)))))
  refine aB (aC ⟨dM, ?_⟩)
  refine aX rfl rfl rfl (fun _ => aI (.bool true) rfl) (cF (aC (aN (aBk (v2 := .bool true) 2 gH M17 rfl rfl rfl rfl ?_))))
  exact ⟨by rw [aFf]; unfold nW; first | (rw [if_pos (by omega)]; rfl) | (rw [if_neg (by omega)]; rfl), M17.below⟩
end Go.Proofs.YtaoaknafiegfoaaGreatDoor
