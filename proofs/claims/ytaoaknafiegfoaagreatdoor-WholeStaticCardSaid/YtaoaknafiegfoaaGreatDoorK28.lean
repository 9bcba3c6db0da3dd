/- Part of the proof of the laws of this seat: Z1, Z1b, Z1c, Z1d, W3, Z2, W4, Z3, Z4, W5, W6. No conditions. -/
import Derived.Test.YtaoaknafiegfoaaGreatDoorK2
import Derived.Test.YtaoaknafiegfoaaGreatDoorK5
import Derived.Test.YtaoaknafiegfoaaGreatDoorK12
import Derived.Test.YtaoaknafiegfoaaGreatDoorK18
import Derived.Test.YtaoaknafiegfoaaGreatDoorK11
import Derived.Test.YtaoaknafiegfoaaGreatDoorK17
set_option linter.unusedVariables false
set_option linter.unusedSimpArgs false
set_option linter.unnecessarySimpa false
namespace Go.Proofs.YtaoaknafiegfoaaGreatDoor
open Go.Bil
open Go.RowKit (Below)
open Go.Proofs
set_option maxHeartbeats 8000000 in
theorem bKb (w : World) (n : Nat) (hn : n < 18446744073709551616) :
  Calls Tryz.prog 242 #[.int .u64 (n : Int)] w (fun ex w' => ∃ v, ex = .returned v ∧ (fun v w' => v = .int .u64 ((vD n : Nat) : Int) ∧ Below w.heap.size w w') v w') := by
 refine aH #[.tmp 2] 32 Tryz.func242 rfl Tryz.results242 Tryz.ntmps242 rfl ?_
 have M0 := Mem.refl w
 refine aD (aA (bI rfl rfl (aB (aC (aD (aA (aZ rfl rfl (bI rfl rfl (bI rfl rfl ?_)))))))))
 refine aB (aC (aD (aD (aA (aZ rfl rfl (aB (aC (aT (dI (σ := Nat × Nat × Nat) [2] (fun (i, R, e) => [(8, .int .i64 (i : Int)), (3, .int .u64 ((n - R * R : Nat) : Int)), (4, .int .u64 ((R * e : Nat) : Int))]) (fun (i, R, e) w' => Iq n i R e ∧ Mem w [] [] w') (fun (i, R, e) => 32 - i) (0, 0, 4294967296) (bM rfl (bM (iv rfl (by simp)) (bM (iv rfl (by simp)) eP))) (⟨bBi hn, M0⟩) ?_)))))))))
 rintro ⟨i, R, e⟩ ρ1 w1 ⟨I, hM1⟩
 have hile := I.ile
 have hle := I.le
 refine aD (aA (dB rfl rfl rfl rfl (aB (aC (aD ?_)))))
 refine aX rfl (fun h9 => ?_) (fun h9 => ?_)
 ·obtain ⟨f, hf1, hf2, hf3, hf4, hf5, hf6, hf7, hf8, hfy, hfn⟩ := bBo (by omega) I
  refine aK (aC (aD (aT (aD (aA (aZ rfl rfl (bI rfl rfl (aB (aC (aD (aA (aZ rfl rfl (wq (gJ rfl rfl (by omega) (by omega)) rfl ?_)))))))))))))
  refine wq (gT rfl rfl (by omega)) rfl (aV 13 (.int .u64 ((f * f : Nat) : Int)) (iE ((bAs (2 * i) _ (by omega) (by omega)).trans (congrArg _ hf4))) (bI rfl rfl (aB (aC (aD (aA (aZ rfl rfl (aZ rfl rfl ?_))))))))
  refine aZ rfl rfl (wq (dV (.int _ _) rfl rfl rfl) rfl (aV 17 (.int .u64 ((R * e + f * f : Nat) : Int)) (iE (by rw [sD]; omega)) (dB rfl rfl rfl rfl (aB (aC ?_)))))
  refine aX rfl (fun h18 => ?_) (fun h18 => ?_)
  ·have h18' : R * e + f * f ≤ n - R * R := by omega
   refine aD (aA (aZ rfl rfl (aZ rfl rfl (aZ rfl rfl (wq (dV (.int _ _) rfl rfl rfl) rfl (aV 22 (.int .u64 ((R * e + f * f : Nat) : Int)) (iE (by rw [sD]; omega)) ?_))))))
   refine wq (dV (.int _ _) rfl rfl rfl) rfl (aV 23 (.int .u64 ((n - (R + f) * (R + f) : Nat) : Int)) (iE (by rw [sD]; omega)) (bI rfl rfl (aB (aC (aA (aZ rfl rfl (wq (gT rfl rfl (by decide)) rfl ?_)))))))
   refine aV 25 (.int .u64 ((R * f : Nat) : Int)) (iE ((aTn (R * e)).trans (congrArg _ hf5))) (aZ rfl rfl (wq (dV (.int _ _) rfl rfl rfl) rfl (aV 27 (.int .u64 (((R + f) * f : Nat) : Int)) (iE (by rw [sD]; omega)) (bI rfl rfl (aB ?_)))))
   refine dD (aC (aA (wq (bP rfl rfl (by omega) (by omega)) rfl (aZ rfl rfl (aB ?_)))))
   refine cO (i + 1, R + f, f) (bM rfl (bM rfl (bM rfl eP))) (cU rfl jT) ?_ ?_
   ·exact ⟨hfy h18', hM1⟩
   ·(show 32 - (i + 1) < 32 - i; omega)
  ·have h18' : ¬ (R * e + f * f ≤ n - R * R) := by omega
   refine aA (aZ rfl rfl (wq (gT rfl rfl (by decide)) rfl (aV 29 (.int .u64 ((R * f : Nat) : Int)) (iE ((aTn (R * e)).trans (congrArg _ hf5))) (bI rfl rfl (aB ?_)))))
   refine dD (aC (aA (wq (bP rfl rfl (by omega) (by omega)) rfl (aZ rfl rfl (aB ?_)))))
   refine cO (i + 1, R, f) (bM rfl (bM rfl (bM rfl eP))) (cU rfl jT) ?_ ?_
   ·exact ⟨hfn h18', hM1⟩
   ·(show 32 - (i + 1) < 32 - i; omega)
 ·obtain rfl : i = 32 := by omega
  refine cR (dC (dA (eZ (aC (aD (aA (aZ rfl rfl ?_)))))))
  refine bI rfl rfl (aB (aC (aL (cA (.int _ _) rfl ?_))))
  exact ⟨iE (by rw [bAt I]), hM1.below⟩
set_option maxHeartbeats 4000000 in
theorem pO (w : World) (a b : Int × Int) (ha : I32 a) (hb : I32 b) :
  Calls Tryz.prog 239 #[(.agg (cP a).toArray), (.agg (cP b).toArray)] w (fun ex w' => ∃ v, ex = .returned v ∧ (fun v w' => v = .tuple #[.int .i64 (b.1 - a.1), .int .i64 (b.2 - a.2)] ∧ Below w.heap.size w w') v w') := by
 have hax := ha.x
 have hay := ha.y
 have hbx := hb.x
 have hby := hb.y
 refine aH #[.tmp 4, .tmp 5] 20 Tryz.func239 rfl Tryz.results239 Tryz.ntmps239 rfl ?_
 have M0 := Mem.refl w
 refine aD (aA (bG (.agg (List.toArray _)) M0 rfl rfl rfl (fun b1 w1 M1 => (bG (.agg (List.toArray _)) M1 rfl rfl rfl (fun b2 w2 M2 => (bI rfl rfl (bI rfl rfl (aB (aC (aD ?_))))))))))
 refine bO [(0, 0), (1, 1), (2, 0), (3, 0), (4, 1), (5, 0), (6, 0), (7, 0), (8, 1), (9, 0), (10, 0), (11, 1), (12, 0), (13, 0), (14, 0), (15, 0)] mixed rfl (by kernel_rfl) (fun w3 hb3 hh3 => ?_)
 have M3 := M2.drew hb3 hh3
 refine aY rfl rfl rfl (fun _ => aE 0 dS rfl) (bW rfl rfl rfl (aM 1 (.int _ _) aW M3 rfl rfl rfl) (aY rfl rfl rfl (fun _ => bY gB Tryz.underlying2 rfl (kT _ (by omega) (by omega))) (aY rfl rfl rfl (fun _ => aE 0 dS rfl) (bW rfl rfl rfl (aM 0 (.int _ _) aW M3 rfl rfl rfl) ?_))))
 refine aY rfl rfl rfl (fun _ => bY gB Tryz.underlying2 rfl (kT _ (by omega) (by omega))) (aY rfl rfl rfl (fun _ => oE rfl rfl (by omega) (by omega)) (aY rfl rfl rfl (fun _ => aE 1 dG rfl) (bW rfl rfl rfl (aM 1 (.int _ _) aW M3 rfl rfl rfl) (aY rfl rfl rfl (fun _ => bY gB Tryz.underlying2 rfl (kT _ (by omega) (by omega))) ?_))))
 refine aY rfl rfl rfl (fun _ => aE 1 dG rfl) (bW rfl rfl rfl (aM 0 (.int _ _) aW M3 rfl rfl rfl) (aY rfl rfl rfl (fun _ => bY gB Tryz.underlying2 rfl (kT _ (by omega) (by omega))) (aY rfl rfl rfl (fun _ => oE rfl rfl (by omega) (by omega)) (qO rfl rfl rfl (qO rfl rfl rfl ?_)))))
 refine cB (aC (aL (fX (.int _ _) (.int _ _) rfl rfl ?_)))
 exact ⟨rfl, M3.below⟩
set_option maxHeartbeats 4000000 in
theorem yM (w : World) (n : Int) (hn : xK n) :
  Calls Tryz.prog 240 #[.int .i64 n] w (fun ex w' => ∃ v, ex = .returned v ∧ (fun v w' => v = .int .u64 ((n.natAbs * n.natAbs : Nat) : Int) ∧ Below w.heap.size w w') v w') := by
 have hlt := (yD hn hn).2.1
 unfold xK at hn
 refine aH #[.tmp 2] 12 Tryz.func240 rfl Tryz.results240 Tryz.ntmps240 rfl ?_
 have M0 := Mem.refl w
 refine aD (aA (bI rfl rfl (aB (aC (aD (aD (aA (aZ rfl rfl (dB rfl rfl rfl rfl (aB (aC ?_)))))))))))
 refine aX rfl (fun h4 => ?_) (fun h4 => ?_)
 ·refine aA (aZ rfl rfl (wq (yT rfl) rfl (aV 6 (.int .i64 (-n)) (iE (kT _ (by omega) (by omega))) (bI rfl rfl (aB (aC (aD (aA ?_))))))))
  refine aZ rfl rfl (wq (dZ us2 Tryz.underlying237 rfl) rfl (aV 8 (.int .u64 ((n.natAbs : Nat) : Int)) (iE (by rw [sD]; omega)) (aZ rfl rfl (wq (dZ us2 Tryz.underlying237 rfl) rfl (aV 10 (.int .u64 ((n.natAbs : Nat) : Int)) (iE (by rw [sD]; omega)) ?_)))))
  refine wq (dV (.int _ _) rfl rfl rfl) rfl (aV 11 (.int .u64 ((n.natAbs * n.natAbs : Nat) : Int)) (iE (aQh _ _ (by omega))) (bI rfl rfl (aB (aC (aL (cA (.int _ _) rfl ?_))))))
  exact ⟨rfl, M0.below⟩
 ·refine aK (aC (aD (aA (aZ rfl rfl (wq (dZ us2 Tryz.underlying237 rfl) rfl (aV 8 (.int .u64 ((n.natAbs : Nat) : Int)) (iE (by rw [sD]; omega)) (aZ rfl rfl (wq (dZ us2 Tryz.underlying237 rfl) rfl ?_))))))))
  refine aV 10 (.int .u64 ((n.natAbs : Nat) : Int)) (iE (by rw [sD]; omega)) (wq (dV (.int _ _) rfl rfl rfl) rfl (aV 11 (.int .u64 ((n.natAbs * n.natAbs : Nat) : Int)) (iE (aQh _ _ (by omega))) (bI rfl rfl (aB (aC (aL (cA (.int _ _) rfl ?_)))))))
  exact ⟨rfl, M0.below⟩
set_option maxHeartbeats 4000000 in
theorem oW (w : World) (dx dy : Int) (hx : xK dx) (hy : xK dy) :
  Calls Tryz.prog 216 #[.int .i64 dx, .int .i64 dy] w (fun ex w' => ∃ v, ex = .returned v ∧ (fun v w' => v = .int .u64 ((lsq dx dy : Nat) : Int) ∧ Below w.heap.size w w') v w') := by
 have hl := yD hx hy
 refine aH #[.tmp 4] 10 Tryz.func216 rfl Tryz.results216 Tryz.ntmps216 rfl ?_
 have M0 := Mem.refl w
 refine aD (aA (bI rfl rfl (aB (aC (aD (aA (aZ rfl rfl (bZ aUv rfl rfl (yM _ dx hx) ?_))))))))
 rintro v1 w1 ⟨rfl, hb1⟩
 have M1 := M0.callB hb1
 refine aZ rfl rfl (bZ aUv rfl rfl (yM _ dy hy) ?_)
 rintro v2 w2 ⟨rfl, hb2⟩
 have M2 := M1.callB hb2
 refine wq (dV (.int _ _) rfl rfl rfl) rfl (aV 9 (.int .u64 ((lsq dx dy : Nat) : Int)) (iE (by rw [sD]; unfold lsq at *; omega)) (bI rfl rfl (aB (aC (aL (cA (.int _ _) rfl ?_))))))
 exact ⟨rfl, M2.below⟩
set_option maxHeartbeats 4000000 in
theorem zX (w : World) (dx dy : Int) (hx : xK dx) (hy : xK dy) :
  Calls Tryz.prog 218 #[.int .i64 dx, .int .i64 dy] w (fun ex w' => ∃ v, ex = .returned v ∧ (fun v w' => v = .int .i64 (len dx dy) ∧ Below w.heap.size w w') v w') := by
 have hl := aFk hx hy
 refine aH #[.tmp 4] 10 Tryz.func218 rfl Tryz.results218 Tryz.ntmps218 rfl ?_
 have M0 := Mem.refl w
 refine aD (aA (bI rfl rfl (aB (aC (aD (aA (aZ rfl rfl (aZ rfl rfl (bZ aMk rfl rfl (oW _ dx dy hx hy) ?_)))))))))
 rintro v1 w1 ⟨rfl, hb1⟩
 have M1 := M0.callB hb1
 refine bZ bEv rfl rfl (bKb _ (lsq dx dy) (yD hx hy).1) ?_
 rintro v2 w2 ⟨rfl, hb2⟩
 have M2 := M1.callB hb2
 refine wq (dZ aDb Tryz.underlying2 rfl) rfl (aV 9 (.int .i64 (len dx dy)) (iE (kT (len dx dy) (by omega) (by omega))) (bI rfl rfl (aB (aC (aL (cA (.int _ _) rfl ?_))))))
 exact ⟨rfl, M2.below⟩
set_option maxHeartbeats 4000000 in
theorem aDl (w : World) (a b : Int) (hb : 0 < b) (h0 : -1000000000000000000 ≤ a) (h1 : a ≤ 1000000000000000000) :
  Calls Tryz.prog 241 #[.int .i64 a, .int .i64 b] w (fun ex w' => ∃ v, ex = .returned v ∧ (fun v w' => v = .int .i64 (a / b) ∧ Below w.heap.size w w') v w') := by
 have hf := aJa (a := a) hb
 have hb1 := aKs a b
 refine aH #[.tmp 4] 16 Tryz.func241 rfl Tryz.results241 Tryz.ntmps241 rfl ?_
 have M0 := Mem.refl w
 refine aD (aA (bI rfl rfl (aB (aC (aD (aA (aZ rfl rfl (aZ rfl rfl (wq (aOl rfl rfl (by omega)) rfl ?_)))))))))
 refine aV 8 (.int .i64 (a.tdiv b)) (iE (kT _ (by omega) (by omega))) (bI rfl rfl (aB (aC (aD (aD (aA (aZ rfl rfl (aZ rfl rfl (wq (aNs rfl rfl (by omega)) rfl ?_)))))))))
 refine dB rfl rfl rfl rfl (aB (aC ?_))
 refine aX rfl (fun h12 => ?_) (fun h12 => ?_)
 ·refine aA (aZ rfl rfl (wq (oE rfl rfl (by omega) (by omega)) rfl (bI rfl rfl (aB (aC (aD (aA (aZ rfl rfl ?_))))))))
  refine bI rfl rfl (aB (aC (aL (cA (.int _ _) rfl ?_))))
  exact ⟨iE (by first | exact hf.1 (by omega) | exact hf.2 (by omega)), M0.below⟩
 ·refine aK (aC (aD (aA (aZ rfl rfl (bI rfl rfl (aB (aC (aL (cA (.int _ _) rfl ?_)))))))))
  exact ⟨iE (by first | exact hf.1 (by omega) | exact hf.2 (by omega)), M0.below⟩
set_option maxHeartbeats 4000000 in
theorem aWt (w : World) (dx dy : Int) (hx : xK dx) (hy : xK dy) :
  Calls Tryz.prog 217 #[.int .i64 dx, .int .i64 dy] w (fun ex w' => ∃ v, ex = .returned v ∧ (fun v w' => v = (.agg (cP (mD dx dy)).toArray) ∧ Below w.heap.size w w') v w') := by
 have hl := aFk hx hy
 have hxx := hx
 have hyy := hy
 unfold xK at hxx hyy
 refine aH #[.cell 4 37] 23 Tryz.func217 rfl Tryz.results217 Tryz.ntmps217 rfl ?_
 have M0 := Mem.refl w
 refine aD (aA (aP gQ M0 rfl rfl (fun b1 w1 M1 => (aB (aC (aD (aA (aZ rfl rfl (aZ rfl rfl (bZ aWa rfl rfl (zX _ dx dy hx hy) ?_))))))))))
 rintro v2 w2 ⟨rfl, hb2⟩
 have M2 := M1.callB hb2
 refine bI rfl rfl (aB (aC (aD (aD (aA (aZ rfl rfl (dB rfl rfl rfl rfl (aB (aC ?_)))))))))
 refine aX rfl (fun h10 => ?_) (fun h10 => ?_)
 ·refine aD (aA (wq (cH [(0, .int _ _)] _ fD rfl rfl) rfl (bA 0 _ bK M2 rfl rfl rfl rfl rfl (aQ rfl) rfl (fun w3 M3 => (aB (aC (aL (cD (eO 0 bK M3 rfl rfl rfl ?_)))))))))
  exact ⟨by unfold mD; first | (rw [if_pos (by omega)]; rfl) | (rw [if_neg (by omega)]; rfl), M3.below⟩
 ·refine aK (aC (aD (aA (aZ rfl rfl (wq (tC rfl rfl (by decide)) rfl (aV 13 (.int .i64 (dx * 65536)) (iE (aDw dx hx)) (aZ rfl rfl (bZ aWv rfl rfl (aDl _ (dx * 65536) (len dx dy) (by omega) (by omega) (by omega)) ?_))))))))
  rintro v4 w4 ⟨rfl, hb4⟩
  have M4 := M2.callB hb4
  refine wq (dZ us2 Tryz.underlying21 rfl) rfl (aZ rfl rfl (wq (tC rfl rfl (by decide)) rfl (aV 18 (.int .i64 (dy * 65536)) (iE (aDw dy hy)) (aZ rfl rfl (bZ aWv rfl rfl (aDl _ (dy * 65536) (len dx dy) (by omega) (by omega) (by omega)) ?_)))))
  rintro v5 w5 ⟨rfl, hb5⟩
  have M5 := M4.callB hb5
  refine wq (dZ us2 Tryz.underlying21 rfl) rfl (wq (cH [(0, .int _ _), (1, .int _ _)] _ fD rfl rfl) rfl (bA 0 _ bK M5 rfl rfl rfl rfl rfl (aQ rfl) rfl (fun w6 M6 => (aB (aC (aL (eO 0 bK M6 rfl rfl rfl ?_)))))))
  exact ⟨by unfold mD; first | (rw [if_pos (by omega)]; rfl) | (rw [if_neg (by omega)]; rfl), M6.below⟩
set_option maxHeartbeats 4000000 in
theorem aRf (w : World) (b : Body) (hb : Okb b) :
  Calls Tryz.prog 258 #[(.agg (aF b).toArray)] w (fun ex w' => ∃ v, ex = .returned v ∧ (fun v w' => v = .tuple #[(.agg (cP (aIi b)).toArray), (.agg (cP (aIp b)).toArray)] ∧ Below w.heap.size w w') v w') := by
 have ha := hb.a
 have hp := hb.p
 refine aH #[.cell 2 37, .cell 3 37] 36 Tryz.func258 rfl Tryz.results258 Tryz.ntmps258 rfl ?_
 have M0 := Mem.refl w
 refine aD (aA (bG (.agg (List.toArray _)) M0 rfl rfl rfl (fun b1 w1 M1 => (aP gQ M1 rfl rfl (fun b2 w2 M2 => (aP gQ M2 rfl rfl (fun b3 w3 M3 => (aB (aC (aD (aA (wq (aE 6 fR rfl) rfl ?_))))))))))))
 refine wq (aE 0 dS rfl) rfl (wq (aM 0 (.int _ _) aW M3 rfl rfl rfl) rfl (wq (aE 2 jZ rfl) rfl (wq (aE 0 dS rfl) rfl (wq (aM 0 (.int _ _) aW M3 rfl rfl rfl) rfl (wq (mL rfl rfl (mP _ (by omega) (by omega))) rfl ?_)))))
 refine wq (aE 6 fR rfl) rfl (wq (aE 1 dG rfl) rfl (wq (aM 0 (.int _ _) aW M3 rfl rfl rfl) rfl (wq (aE 2 jZ rfl) rfl (wq (aE 1 dG rfl) rfl (wq (aM 0 (.int _ _) aW M3 rfl rfl rfl) rfl ?_)))))
 refine wq (mL rfl rfl (mP _ (by omega) (by omega))) rfl (wq (cH [(0, .int _ _), (1, .int _ _)] _ fD rfl rfl) rfl (bA 1 _ bK M3 rfl rfl rfl rfl rfl (aQ rfl) rfl (fun w4 M4 => (aB (aC (aD (aA (wq (aE 6 fR rfl) rfl (wq (aE 0 dS rfl) rfl ?_)))))))))
 refine wq (aM 0 (.int _ _) aW M4 rfl rfl rfl) rfl (wq (aE 2 jZ rfl) rfl (wq (aE 0 dS rfl) rfl (wq (aM 0 (.int _ _) aW M4 rfl rfl rfl) rfl (wq (iZ rfl rfl (mP _ (by omega) (by omega))) rfl (wq (aE 6 fR rfl) rfl ?_)))))
 refine wq (aE 1 dG rfl) rfl (wq (aM 0 (.int _ _) aW M4 rfl rfl rfl) rfl (wq (aE 2 jZ rfl) rfl (wq (aE 1 dG rfl) rfl (wq (aM 0 (.int _ _) aW M4 rfl rfl rfl) rfl (wq (iZ rfl rfl (mP _ (by omega) (by omega))) rfl ?_)))))
 refine wq (cH [(0, .int _ _), (1, .int _ _)] _ fD rfl rfl) rfl (bA 2 _ bK M4 rfl rfl rfl rfl rfl (aQ rfl) rfl (fun w5 M5 => (aB (aC (aD (bO [(0, 1), (1, 1), (2, 2), (3, 2)] mixed rfl (by kernel_rfl) (fun w6 hb6 hh6 => ?_)))))))
 have M6 := M5.drew hb6 hh6
 refine bW rfl rfl rfl (bC 1 bK M6 rfl rfl rfl) (bW rfl rfl rfl (bC 2 bK M6 rfl rfl rfl) (dU [false, true] rfl (by kernel_rfl) (bA 1 _ bK M6 rfl rfl rfl rfl rfl (aQ rfl) rfl (fun w7 M7 => ?_))))
 refine aB (aC ⟨(eL (bQ rfl (bC 2 bK M7 rfl rfl rfl)) dT), ?_⟩)
 refine dU [true] rfl (by kernel_rfl) (bA 2 _ bK M7 rfl rfl rfl rfl rfl (aQ rfl) rfl (fun w8 M8 => ?_))
 refine aB (aC ⟨dT, ?_⟩)
 refine cB (aC (aL (aOm 1 2 bK M8 rfl rfl rfl rfl rfl rfl ?_)))
 exact ⟨rfl, M8.below⟩
set_option maxHeartbeats 4000000 in
theorem aJg (w : World) (p q c : Pt) (h : SgI p q) (hc : PtI c) :
  Calls Tryz.prog 282 #[(.agg (cP p).toArray), (.agg (cP q).toArray), (.agg (cP c).toArray)] w (fun ex w' => ∃ v, ex = .returned v ∧ (fun v w' => v = .tuple #[.int .i64 (pM p q c), .int .i64 (mR p q)] ∧ Below w.heap.size w w') v w') := by
 have hD := uE h
 have hx := aSt h hc
 refine aH #[.tmp 6, .tmp 7] 42 Tryz.func282 rfl Tryz.results282 Tryz.ntmps282 rfl ?_
 have M0 := Mem.refl w
 refine aD (aA (bG (.agg (List.toArray _)) M0 rfl rfl rfl (fun b1 w1 M1 => (bG (.agg (List.toArray _)) M1 rfl rfl rfl (fun b2 w2 M2 => (bG (.agg (List.toArray _)) M2 rfl rfl rfl (fun b3 w3 M3 => (bI rfl rfl (bI rfl rfl ?_)))))))))
 refine aB (aC (aD (aA (wq (bC 0 bK M3 rfl rfl rfl) rfl (wq (bC 1 bK M3 rfl rfl rfl) rfl (bZ zO rfl rfl (pO _ p q h.hp.i32 h.hq.i32) ?_))))))
 rintro v4 w4 ⟨rfl, hb4⟩
 have M4 := M3.callB hb4
 refine wq (aG (.tuple (List.toArray _)) rfl) rfl (wq (bB (.int _ _) rfl rfl) rfl (wq (bB (.int _ _) rfl rfl) rfl (bI rfl rfl (bI rfl rfl (aB (aC (aD (aA ?_))))))))
 refine wq (bC 0 bK M4 rfl rfl rfl) rfl (wq (bC 2 bK M4 rfl rfl rfl) rfl (bZ zO rfl rfl (pO _ p c h.hp.i32 hc.i32) ?_))
 rintro v5 w5 ⟨rfl, hb5⟩
 have M5 := M4.callB hb5
 refine wq (aG (.tuple (List.toArray _)) rfl) rfl (wq (bB (.int _ _) rfl rfl) rfl (wq (bB (.int _ _) rfl rfl) rfl (bI rfl rfl (bI rfl rfl (aB (aC (aD (aA ?_))))))))
 refine aZ rfl rfl (aZ rfl rfl (wq (gJ rfl rfl (by omega) (by omega)) rfl (aZ rfl rfl (aZ rfl rfl (wq (gJ rfl rfl (by omega) (by omega)) rfl ?_)))))
 refine wq (bP rfl rfl (by omega) (by omega)) rfl (aV 30 (.int .i64 (mR p q)) rfl (bI rfl rfl (aB (aC (aD (aA (aZ rfl rfl (aZ rfl rfl ?_))))))))
 refine wq (gJ rfl rfl (by omega) (by omega)) rfl (aZ rfl rfl (aZ rfl rfl (wq (gJ rfl rfl (by omega) (by omega)) rfl (wq (bP rfl rfl (by omega) (by omega)) rfl (aZ rfl rfl ?_)))))
 refine wq (zP rfl rfl ) rfl (wq (nJ rfl rfl ) rfl (aZ rfl rfl (bI rfl rfl (bI rfl rfl (aB (aC (aL ?_)))))))
 refine fX (.int _ _) (.int _ _) rfl rfl ?_
 exact ⟨rfl, M5.below⟩
set_option maxHeartbeats 4000000 in
theorem aCr (w : World) (f a n d : Int) (bn bd : Nat) (ha : -16777216 ≤ a ∧ a ≤ 16777216) (hn : 0 ≤ n) (hnd : n ≤ d) (hd0 : 0 < d) (hd : d ≤ 562949953421312) (h1 : -16777216 ≤ a * n / d ∧ a * n / d ≤ 16777216) (h2 : -1082130432 ≤ f + a * n / d ∧ f + a * n / d ≤ 1082130432) (K1 : Rd w 1 (some ⟨bn, 0, none⟩) 1 [[.int .i64 n]]) (K2 : Rd w 1 (some ⟨bd, 0, none⟩) 1 [[.int .i64 d]]) :
  Calls Tryz.prog 283 #[.int .i32 f, .int .i64 a, .pointer (some ⟨bn, 0, none⟩), .pointer (some ⟨bd, 0, none⟩)] w (fun ex w' => ∃ v, ex = .returned v ∧ (fun v w' => v = .int .i32 (f + a * n / d) ∧ Below w.heap.size w w') v w') := by
 rw [← eX bn, ← eX bd]
 refine aH #[.tmp 6] 20 Tryz.func283 rfl Tryz.results283 Tryz.ntmps283 rfl ?_
 have M0 := Mem.refl w
 refine aD (aA (bI rfl rfl (aB (aC (aD (aA (aZ rfl rfl (wq (eM (o := 0) (.int _ _) mJ (K1.mem M0) (show ([[.int .i64 n]] : List (List Value))[0]? = some [.int .i64 n] from rfl) rfl rfl) rfl (wq (eM (o := 0) (.int _ _) mJ (K2.mem M0) (show ([[.int .i64 d]] : List (List Value))[0]? = some [.int .i64 d] from rfl) rfl rfl) rfl ?_)))))))))
 refine bZ aEs rfl rfl (bGw _ a n d (by omega) hn hnd hd0 (by omega)) ?_
 rintro v1 w1 ⟨rfl, hb1⟩
 have M1 := M0.callB hb1
 refine wq (aG (.tuple (List.toArray _)) rfl) rfl (wq (bB (.int _ _) rfl rfl) rfl (wq (bB (.int _ _) rfl rfl) rfl (bI rfl rfl (bI rfl rfl (aB (aC (aD (aA ?_))))))))
 refine aZ rfl rfl (aZ rfl rfl (wq (bY us2 Tryz.underlying21 rfl (mP _ (by omega) (by omega))) rfl (wq (iZ rfl rfl (mP _ (by omega) (by omega))) rfl (bI rfl rfl (aB (aC (aL ?_)))))))
 refine cA (.int _ _) rfl ?_
 exact ⟨rfl, M1.below⟩
set_option maxHeartbeats 4000000 in
theorem kO (w : World) (p q c : Pt) (h : SgI p q) (hc : PtI c) :
  Calls Tryz.prog 277 #[(.agg (cP p).toArray), (.agg (cP q).toArray), (.agg (cP c).toArray)] w (fun ex w' => ∃ v, ex = .returned v ∧ (fun v w' => v = (.agg (cP (eC p q c)).toArray) ∧ Below w.heap.size w w') v w') := by
 have hD := uE h
 have hn := aIw (c := c) h
 have hx := h.x
 have hy := h.y
 refine aH #[.cell 6 37] 40 Tryz.func277 rfl Tryz.results277 Tryz.ntmps277 rfl ?_
 have M0 := Mem.refl w
 refine aD (aA (bG (.agg (List.toArray _)) M0 rfl rfl rfl (fun b1 w1 M1 => (bG (.agg (List.toArray _)) M1 rfl rfl rfl (fun b2 w2 M2 => (bG (.agg (List.toArray _)) M2 rfl rfl rfl (fun b3 w3 M3 => (aP gQ M3 rfl rfl (fun b4 w4 M4 => (aB (aC (aD (aA ?_)))))))))))))
 refine wq (bC 0 bK M4 rfl rfl rfl) rfl (wq (bC 1 bK M4 rfl rfl rfl) rfl (wq (bC 2 bK M4 rfl rfl rfl) rfl (bZ bDu rfl rfl (aJg _ p q c h hc) ?_)))
 rintro v5 w5 ⟨rfl, hb5⟩
 have M5 := M4.callB hb5
 refine wq (aG (.tuple (List.toArray _)) rfl) rfl (wq (bB (.int _ _) rfl rfl) rfl (wq (bB (.int _ _) rfl rfl) rfl (aP aAg M5 rfl rfl (fun b6 w6 M6 => (aP aAg M6 rfl rfl (fun b7 w7 M7 => (dX 4 (.int _ _) mJ M7 rfl rfl rfl rfl rfl rfl (fun w8 M8 => ?_))))))))
 refine dX 5 (.int _ _) mJ M8 rfl rfl rfl rfl rfl rfl (fun w9 M9 => (aB (aC (aD (aD (aA (wq (aM 5 (.int _ _) mJ M9 rfl rfl rfl) rfl (dB rfl rfl rfl rfl (aB (aC ?_))))))))))
 refine aX rfl (fun h20 => ?_) (fun h20 => ?_)
 ·refine aD (aA (wq (bC 0 bK M9 rfl rfl rfl) rfl (bA 3 _ bK M9 rfl rfl rfl rfl rfl (aQ rfl) rfl (fun w10 M10 => (aB (aC (aL (cD (eO 3 bK M10 rfl rfl rfl ?_)))))))))
  exact ⟨by unfold eC; first | (rw [if_pos h20]; rfl) | (rw [if_neg h20]; rfl), M10.below⟩
 ·have hnr := aIx (c := c) h h20
  refine aK (aC (aD (aA (wq (cN [] [.pointer _, .pointer _] rfl rfl) rfl (wq (aI (.func _ _ _) rfl) rfl (aB (aC (aD (aA (wq (bC 0 bK M9 rfl rfl rfl) rfl (wq (bC 1 bK M9 rfl rfl rfl) rfl ?_)))))))))))
  refine bZ zO rfl rfl (pO _ p q h.hp.i32 h.hq.i32) ?_
  rintro v11 w11 ⟨rfl, hb11⟩
  have M11 := M9.callB hb11
  refine wq (aG (.tuple (List.toArray _)) rfl) rfl (wq (bB (.int _ _) rfl rfl) rfl (wq (bB (.int _ _) rfl rfl) rfl (bI rfl rfl (bI rfl rfl (aB (aC (aD ?_)))))))
  refine bO [(0, 0), (1, 0), (2, 1), (3, 0), (5, 0), (6, 0), (7, 1), (8, 0), (4, 2), (9, 2), (10, 0), (11, 2)] mixed rfl (by kernel_rfl) (fun w12 hb12 hh12 => ?_)
  have M12 := M11.drew hb12 hh12
  refine aY rfl rfl rfl (fun _ => aG (.func _ _ _) rfl) (aY rfl rfl rfl (fun _ => aE 0 dS rfl) (bW rfl rfl rfl (aM 0 (.int _ _) aW M12 rfl rfl rfl) (gV rfl rfl rfl (aY rfl rfl rfl (fun _ => aG (.func _ _ _) rfl) (aY rfl rfl rfl (fun _ => aE 1 dG rfl) ?_)))))
  refine bW rfl rfl rfl (aM 0 (.int _ _) aW M12 rfl rfl rfl) (gV rfl rfl rfl (dU [false, true] rfl (by kernel_rfl) (bZ aVu rfl rfl (aCr _ p.1 (q.1 - p.1) (pM p q c) (mR p q) b6 b7 (by omega) hn.1 hn.2 (by omega) (by omega) hnr.1.1 hnr.1.2 (mW 4 M12 rfl rfl) (mW 5 M12 rfl rfl)) ?_)))
  rintro v13 w13 ⟨rfl, hb13⟩
  have M13 := M12.callB hb13
  refine aB (aC ⟨(eL (bQ rfl (aM 0 (.int _ _) aW M13 rfl rfl rfl)) dT), ?_⟩)
  refine dU [true] rfl (by kernel_rfl) (bZ aVu rfl rfl (aCr _ p.2 (q.2 - p.2) (pM p q c) (mR p q) b6 b7 (by omega) hn.1 hn.2 (by omega) (by omega) hnr.2.1 hnr.2.2 (mW 4 M13 rfl rfl) (mW 5 M13 rfl rfl)) ?_)
  rintro v14 w14 ⟨rfl, hb14⟩
  have M14 := M13.callB hb14
  refine aB (aC ⟨dT, ?_⟩)
  refine aY rfl rfl rfl (fun _ => cH [(0, .int _ _), (1, .int _ _)] _ fD rfl rfl) (dU [] rfl (by kernel_rfl) (bA 3 _ bK M14 rfl rfl rfl rfl rfl (aQ rfl) rfl (fun w15 M15 => ?_)))
  refine aB (aC ⟨dT, ?_⟩)
  refine cB (aC (aL (eO 3 bK M15 rfl rfl rfl ?_)))
  exact ⟨by unfold eC; first | (rw [if_pos h20]; rfl) | (rw [if_neg h20]; rfl), M15.below⟩
set_option maxHeartbeats 4000000 in
theorem xP (w : World) (s : Ch) (x y : Pt) (ba bb bl : Nat) (hx : PtI x) (hy : PtI y) (hO : Own [(some ba, bc (cP s.1) 37), (some bb, bc (cP s.2.1) 37), (some bl, bc [.int .u64 (s.2.2 : Int)] 237)] w) :
  Calls Tryz.prog 276 #[(.agg (cP x).toArray), (.agg (cP y).toArray), .pointer (some ⟨bl, 0, none⟩), .pointer (some ⟨ba, 0, none⟩), .pointer (some ⟨bb, 0, none⟩)] w (fun ex w' => ∃ v, ex = .returned v ∧ (fun v w' => v = .tuple #[] ∧ Mem w (bH [(some ba, bc (cP s.1) 37), (some bb, bc (cP s.2.1) 37), (some bl, bc [.int .u64 (s.2.2 : Int)] 237)]) [(some ba, bc (cP (gA s x y).1) 37), (some bb, bc (cP (gA s x y).2.1) 37), (some bl, bc [.int .u64 ((gA s x y).2.2 : Int)] 237)] w') v w') := by
 refine aH #[] 20 Tryz.func276 rfl Tryz.results276 Tryz.ntmps276 rfl ?_
 have M0 := hO.mem
 refine aD (aA (bG (.agg (List.toArray _)) M0 rfl rfl rfl (fun b1 w1 M1 => (bG (.agg (List.toArray _)) M1 rfl rfl rfl (fun b2 w2 M2 => (aB (aC (aD (aA (wq (bC 3 bK M2 rfl rfl rfl) rfl (wq (bC 4 bK M2 rfl rfl rfl) rfl ?_)))))))))))
 refine bZ zO rfl rfl (pO _ x y hx.i32 hy.i32) ?_
 rintro v3 w3 ⟨rfl, hb3⟩
 have M3 := M2.callB hb3
 refine wq (bB (.int _ _) rfl rfl) rfl (wq (bB (.int _ _) rfl rfl) rfl (bZ aMk rfl rfl (oW _ (y.1 - x.1) (y.2 - x.2) (hx.inX hy) (hx.inY hy)) ?_))
 rintro v4 w4 ⟨rfl, hb4⟩
 have M4 := M3.callB hb4
 refine bI rfl rfl (aB (aC (aD (aA (aZ rfl rfl (wq (aM 2 (.int _ _) pZ M4 rfl rfl rfl) rfl (dB rfl rfl rfl rfl (aB (aC ?_)))))))))
 refine aX rfl (fun h16 => ?_) (fun h16 => ?_)
 ·refine bO [(0, 1), (1, 1), (2, 0), (3, 2), (4, 2), (5, 2)] mixed rfl (by kernel_rfl) (fun w5 hb5 hh5 => ?_)
  have M5 := M4.drew hb5 hh5
  refine bW rfl rfl rfl (bC 3 bK M5 rfl rfl rfl) (bW rfl rfl rfl (bC 4 bK M5 rfl rfl rfl) (gV rfl rfl rfl (dU [false, true] rfl (by kernel_rfl) (bA 0 _ bK M5 rfl rfl rfl rfl rfl (aQ rfl) rfl (fun w6 M6 => ?_)))))
  refine aB (aC ⟨(eL (bQ rfl (bC 4 bK M6 rfl rfl rfl)) dT), ?_⟩)
  refine dU [true] rfl (by kernel_rfl) (bA 1 _ bK M6 rfl rfl rfl rfl rfl (aQ rfl) rfl (fun w7 M7 => ?_))
  refine aB (aC ⟨dT, ?_⟩)
  refine dU [] rfl (by kernel_rfl) (dX 2 (.int _ _) pZ M7 rfl rfl rfl rfl rfl rfl (fun w8 M8 => ?_))
  refine aB (aC ⟨dT, ?_⟩)
  refine cB (jD ?_)
  exact ⟨rfl, by unfold gA; first | (rw [if_pos (by omega)]; exact M8.keep [true, true, true, false, false]) | (rw [if_neg (by omega)]; exact M8.keep [true, true, true, false, false])⟩
 ·refine aK (jD ?_)
  exact ⟨rfl, by unfold gA; first | (rw [if_pos (by omega)]; exact M4.keep [true, true, true, false, false]) | (rw [if_neg (by omega)]; exact M4.keep [true, true, true, false, false])⟩
set_option maxHeartbeats 8000000 in
theorem aLq (w : World) (ap aq bp bq : Pt) (h1 : SgI ap aq) (h2 : SgI bp bq) :
  Calls Tryz.prog 259 #[(.agg (cP ap).toArray), (.agg (cP aq).toArray), (.agg (cP bp).toArray), (.agg (cP bq).toArray)] w (fun ex w' => ∃ v, ex = .returned v ∧ (fun v w' => v = .tuple #[(.agg (cP (qM ap aq bp bq).1).toArray), (.agg (cP (qM ap aq bp bq).2.1).toArray), .int .u64 ((qM ap aq bp bq).2.2 : Int)] ∧ Below w.heap.size w w') v w') := by
 refine aH #[.cell 8 37, .cell 9 37, .cell 10 237] 48 Tryz.func259 rfl Tryz.results259 Tryz.ntmps259 rfl ?_
 have M0 := Mem.refl w
 refine aD (aA (bG (.agg (List.toArray _)) M0 rfl rfl rfl (fun b1 w1 M1 => (bG (.agg (List.toArray _)) M1 rfl rfl rfl (fun b2 w2 M2 => (bG (.agg (List.toArray _)) M2 rfl rfl rfl (fun b3 w3 M3 => (bG (.agg (List.toArray _)) M3 rfl rfl rfl (fun b4 w4 M4 => (aP gQ M4 rfl rfl (fun b5 w5 M5 => ?_)))))))))))
 refine aP gQ M5 rfl rfl (fun b6 w6 M6 => (aP bBz M6 rfl rfl (fun b7 w7 M7 => (aB (aC (aD (aA (dX 6 (.int _ _) pZ M7 rfl rfl rfl rfl rfl rfl (fun w8 M8 => (aB (aC (aD (aA ?_)))))))))))))
 obtain ⟨s, hS⟩ : ∃ z, z = ch0 := ⟨_, rfl⟩
 have hC : ChI s := by rw [hS]; exact aYm
 have M9 : Mem _ _ [_, _, _, _, (some b5, bc (cP ch0.1) 37), (some b6, bc (cP ch0.2.1) 37), (some b7, bc [.int .u64 (ch0.2.2 : Int)] 237)] _ := M8
 rw [← hS] at M9
 refine wq (cN [] [.pointer _, .pointer _, .pointer _] rfl rfl) rfl (wq (aI (.func _ _ _) rfl) rfl (aB (aC (aD (aD (aA (wq (bC 0 bK M9 rfl rfl rfl) rfl (wq (bC 1 bK M9 rfl rfl rfl) rfl (wq (qK [.agg (List.toArray _), .agg (List.toArray _)] vJ aNp rfl rfl (cY rfl)) rfl ?_)))))))))
 refine aZ rfl rfl (aB (aC (aT (mH 3 (iB (aD (aA (dB rfl rfl rfl rfl (sV 21 rfl (by first | decide | omega) ?_)))))))))
 refine aB (aC (aD (cQ rfl (aK (aC (aD (aT (aD (aA (wq (nO 0 _ vJ bK rfl rfl (by decide) (by decide) rfl rfl) rfl (aP gQ M9 rfl rfl (fun b10 w10 M10 => (bA 7 _ bK M10 rfl rfl rfl rfl rfl (aQ rfl) rfl (fun w11 M11 => ?_))))))))))))))
 refine aB (aC (bO [(0, 0), (1, 1), (2, 1), (3, 1), (4, 1), (5, 2), (6, 2)] mixed rfl (by kernel_rfl) (fun w12 hb12 hh12 => ?_)))
 have M12 := M11.drew hb12 hh12
 refine aY rfl rfl rfl (fun _ => aG (.func _ _ _) rfl) (bW rfl rfl rfl (bC 7 bK M12 rfl rfl rfl) (bW rfl rfl rfl (bC 2 bK M12 rfl rfl rfl) (bW rfl rfl rfl (bC 3 bK M12 rfl rfl rfl) (bW rfl rfl rfl (bC 7 bK M12 rfl rfl rfl) (dU [true, true, true, false] rfl (by kernel_rfl) ?_)))))
 refine bZ aEy rfl rfl (kO _ bp bq ap h2 h1.hp) ?_
 rintro v13 w13 ⟨rfl, hb13⟩
 have M13 := M12.callB hb13
 refine aB (aC ⟨(eL (bQ rfl (bC 7 bK M13 rfl rfl rfl)) dT), ?_⟩)
 refine dU [true] rfl (by kernel_rfl) (bZ aFw rfl rfl (xP _ s ap (eC bp bq ap) _ _ _ h1.hp (fB h2) (M13.ownSeg 4 3)) ?_)
 rintro v14 w14 ⟨rfl, hM14⟩
 have M14 : Mem _ _ [_, _, _, _, _, _, _, _] _ := M13.seg 4 3 hM14
 obtain ⟨s, hs⟩ : ∃ z, z = gA s ap (eC bp bq ap) := ⟨_, rfl⟩
 rw [← hs] at M14
 replace hC := hC.step (x := ap) (y := (eC bp bq ap)) h1.hp (fB h2)
 rw [← hs] at hC
 replace hS := hs.trans (congrArg (fun z => gA z ap (eC bp bq ap)) hS)
 refine aB (aC ⟨dT, ?_⟩)
 refine cB (dD (aC (aA (wq (bP rfl rfl (by first | decide | omega) (by first | decide | omega)) rfl (aV 30 (.int .i64 1) (iE (by first | decide | omega)) (aZ rfl rfl ?_))))))
 refine aB (aC (iB (aD (aA (dB rfl rfl rfl rfl (sV 21 rfl (by first | decide | omega) (aB (aC (aD ?_)))))))))
 refine cQ rfl (aK (aC (aD (aT (aD (aA (wq (nO 1 _ vJ bK rfl rfl (by decide) (by decide) rfl rfl) rfl (aP gQ M14 rfl rfl (fun b15 w15 M15 => (bA 8 _ bK M15 rfl rfl rfl rfl rfl (aQ rfl) rfl (fun w16 M16 => (aB (aC ?_)))))))))))))
 refine bO [(0, 0), (1, 1), (2, 1), (3, 1), (4, 1), (5, 2), (6, 2)] mixed rfl (by kernel_rfl) (fun w17 hb17 hh17 => ?_)
 have M17 := M16.drew hb17 hh17
 refine aY rfl rfl rfl (fun _ => aG (.func _ _ _) rfl) (bW rfl rfl rfl (bC 8 bK M17 rfl rfl rfl) (bW rfl rfl rfl (bC 2 bK M17 rfl rfl rfl) (bW rfl rfl rfl (bC 3 bK M17 rfl rfl rfl) (bW rfl rfl rfl (bC 8 bK M17 rfl rfl rfl) (dU [true, true, true, false] rfl (by kernel_rfl) ?_)))))
 refine bZ aEy rfl rfl (kO _ bp bq aq h2 h1.hq) ?_
 rintro v18 w18 ⟨rfl, hb18⟩
 have M18 := M17.callB hb18
 refine aB (aC ⟨(eL (bQ rfl (bC 8 bK M18 rfl rfl rfl)) dT), ?_⟩)
 refine dU [true] rfl (by kernel_rfl) (bZ aFw rfl rfl (xP _ s aq (eC bp bq aq) _ _ _ h1.hq (fB h2) (M18.ownSeg 4 3)) ?_)
 rintro v19 w19 ⟨rfl, hM19⟩
 have M19 : Mem _ _ [_, _, _, _, _, _, _, _, _] _ := M18.seg 4 3 hM19
 obtain ⟨s, hs⟩ : ∃ z, z = gA s aq (eC bp bq aq) := ⟨_, rfl⟩
 rw [← hs] at M19
 replace hC := hC.step (x := aq) (y := (eC bp bq aq)) h1.hq (fB h2)
 rw [← hs] at hC
 replace hS := hs.trans (congrArg (fun z => gA z aq (eC bp bq aq)) hS)
 refine aB (aC ⟨dT, ?_⟩)
 refine cB (dD (aC (aA (wq (bP rfl rfl (by first | decide | omega) (by first | decide | omega)) rfl (aV 30 (.int .i64 2) (iE (by first | decide | omega)) (aZ rfl rfl ?_))))))
 refine aB (aC (iB (aD (aA (dB rfl rfl rfl rfl (uN 21 rfl (by first | decide | omega) (aB (aC (aD ?_)))))))))
 refine cC rfl (cR (dC (dC (eZ (aC (aD (aD (aA (wq (bC 2 bK M19 rfl rfl rfl) rfl ?_)))))))))
 refine wq (bC 3 bK M19 rfl rfl rfl) rfl (wq (qK [.agg (List.toArray _), .agg (List.toArray _)] vJ aNp rfl rfl (cY rfl)) rfl (aZ rfl rfl (aB (aC (aT (mH 3 (iB (aD (aA ?_)))))))))
 refine dB rfl rfl rfl rfl (sV 35 rfl (by first | decide | omega) (aB (aC (aD (cQ rfl (aK (aC (aD (aT (aD (aA (wq (nO 0 _ vJ bK rfl rfl (by decide) (by decide) rfl rfl) rfl ?_))))))))))))
 refine aP gQ M19 rfl rfl (fun b20 w20 M20 => (bA 9 _ bK M20 rfl rfl rfl rfl rfl (aQ rfl) rfl (fun w21 M21 => (aB (aC (bO [(0, 0), (1, 1), (2, 1), (3, 1), (5, 1), (4, 2), (6, 2)] mixed rfl (by kernel_rfl) (fun w22 hb22 hh22 => ?_)))))))
 have M22 := M21.drew hb22 hh22
 refine aY rfl rfl rfl (fun _ => aG (.func _ _ _) rfl) (bW rfl rfl rfl (bC 0 bK M22 rfl rfl rfl) (bW rfl rfl rfl (bC 1 bK M22 rfl rfl rfl) (bW rfl rfl rfl (bC 9 bK M22 rfl rfl rfl) (bW rfl rfl rfl (bC 9 bK M22 rfl rfl rfl) (dU [false, true, true, true] rfl (by kernel_rfl) ?_)))))
 refine bZ aEy rfl rfl (kO _ ap aq bp h1 h2.hp) ?_
 rintro v23 w23 ⟨rfl, hb23⟩
 have M23 := M22.callB hb23
 refine aB (aC ⟨(eL (bQ rfl (bC 9 bK M23 rfl rfl rfl)) dT), ?_⟩)
 refine dU [true] rfl (by kernel_rfl) (bZ aFw rfl rfl (xP _ s (eC ap aq bp) bp _ _ _ (fB h1) h2.hp (M23.ownSeg 4 3)) ?_)
 rintro v24 w24 ⟨rfl, hM24⟩
 have M24 : Mem _ _ [_, _, _, _, _, _, _, _, _, _] _ := M23.seg 4 3 hM24
 obtain ⟨s, hs⟩ : ∃ z, z = gA s (eC ap aq bp) bp := ⟨_, rfl⟩
 rw [← hs] at M24
 replace hC := hC.step (x := (eC ap aq bp)) (y := bp) (fB h1) h2.hp
 rw [← hs] at hC
 replace hS := hs.trans (congrArg (fun z => gA z (eC ap aq bp) bp) hS)
 refine aB (aC ⟨dT, ?_⟩)
 refine cB (dD (aC (aA (wq (bP rfl rfl (by first | decide | omega) (by first | decide | omega)) rfl (aV 44 (.int .i64 1) (iE (by first | decide | omega)) (aZ rfl rfl ?_))))))
 refine aB (aC (iB (aD (aA (dB rfl rfl rfl rfl (sV 35 rfl (by first | decide | omega) (aB (aC (aD ?_)))))))))
 refine cQ rfl (aK (aC (aD (aT (aD (aA (wq (nO 1 _ vJ bK rfl rfl (by decide) (by decide) rfl rfl) rfl (aP gQ M24 rfl rfl (fun b25 w25 M25 => (bA 10 _ bK M25 rfl rfl rfl rfl rfl (aQ rfl) rfl (fun w26 M26 => (aB (aC ?_)))))))))))))
 refine bO [(0, 0), (1, 1), (2, 1), (3, 1), (5, 1), (4, 2), (6, 2)] mixed rfl (by kernel_rfl) (fun w27 hb27 hh27 => ?_)
 have M27 := M26.drew hb27 hh27
 refine aY rfl rfl rfl (fun _ => aG (.func _ _ _) rfl) (bW rfl rfl rfl (bC 0 bK M27 rfl rfl rfl) (bW rfl rfl rfl (bC 1 bK M27 rfl rfl rfl) (bW rfl rfl rfl (bC 10 bK M27 rfl rfl rfl) (bW rfl rfl rfl (bC 10 bK M27 rfl rfl rfl) (dU [false, true, true, true] rfl (by kernel_rfl) ?_)))))
 refine bZ aEy rfl rfl (kO _ ap aq bq h1 h2.hq) ?_
 rintro v28 w28 ⟨rfl, hb28⟩
 have M28 := M27.callB hb28
 refine aB (aC ⟨(eL (bQ rfl (bC 10 bK M28 rfl rfl rfl)) dT), ?_⟩)
 refine dU [true] rfl (by kernel_rfl) (bZ aFw rfl rfl (xP _ s (eC ap aq bq) bq _ _ _ (fB h1) h2.hq (M28.ownSeg 4 3)) ?_)
 rintro v29 w29 ⟨rfl, hM29⟩
 have M29 : Mem _ _ [_, _, _, _, _, _, _, _, _, _, _] _ := M28.seg 4 3 hM29
 obtain ⟨s, hs⟩ : ∃ z, z = gA s (eC ap aq bq) bq := ⟨_, rfl⟩
 rw [← hs] at M29
 replace hC := hC.step (x := (eC ap aq bq)) (y := bq) (fB h1) h2.hq
 rw [← hs] at hC
 replace hS := hs.trans (congrArg (fun z => gA z (eC ap aq bq) bq) hS)
 refine aB (aC ⟨dT, ?_⟩)
 refine cB (dD (aC (aA (wq (bP rfl rfl (by first | decide | omega) (by first | decide | omega)) rfl (aV 44 (.int .i64 2) (iE (by first | decide | omega)) (aZ rfl rfl ?_))))))
 refine aB (aC (iB (aD (aA (dB rfl rfl rfl rfl (uN 35 rfl (by first | decide | omega) (aB (aC (aD ?_)))))))))
 refine cC rfl (cR (dC (dC (eZ (aC (aD (bO [(0, 1), (1, 1), (2, 1), (3, 2), (4, 2), (5, 2)] mixed rfl (by kernel_rfl) (fun w30 hb30 hh30 => ?_))))))))
 have M30 := M29.drew hb30 hh30
 refine bW rfl rfl rfl (bC 4 bK M30 rfl rfl rfl) (bW rfl rfl rfl (bC 5 bK M30 rfl rfl rfl) (bW rfl rfl rfl (aM 6 (.int _ _) pZ M30 rfl rfl rfl) (dU [false, false, true] rfl (by kernel_rfl) (bA 4 _ bK M30 rfl rfl rfl rfl rfl (aQ rfl) rfl (fun w31 M31 => ?_)))))
 refine aB (aC ⟨(eL (bQ rfl (aM 6 (.int _ _) pZ M31 rfl rfl rfl)) (eL (bQ rfl (bC 5 bK M31 rfl rfl rfl)) dT)), ?_⟩)
 refine dU [false, true] rfl (by kernel_rfl) (bA 5 _ bK M31 rfl rfl rfl rfl rfl (aQ rfl) rfl (fun w32 M32 => ?_))
 refine aB (aC ⟨(eL (bQ rfl (aM 6 (.int _ _) pZ M32 rfl rfl rfl)) dT), ?_⟩)
 refine dU [true] rfl (by kernel_rfl) (dX 6 (.int _ _) pZ M32 rfl rfl rfl rfl rfl rfl (fun w33 M33 => ?_))
 refine aB (aC ⟨dT, ?_⟩)
 refine cB (aC (aL (bIa 4 5 6 bK pZ M33 rfl rfl rfl rfl rfl rfl rfl rfl ?_)))
 exact ⟨by rw [show s = qM ap aq bp bq from hS], M33.below⟩
set_option maxHeartbeats 4000000 in
theorem aMg (w : World) (ap aq bp bq : Pt) (h1 : SgI ap aq) (h2 : SgI bp bq) :
  Calls Tryz.prog 238 #[(.agg (cP ap).toArray), (.agg (cP aq).toArray), (.agg (cP bp).toArray), (.agg (cP bq).toArray)] w (fun ex w' => ∃ v, ex = .returned v ∧ (fun v w' => v = .tuple #[(.agg (cP (qM ap aq bp bq).1).toArray), (.agg (cP (qM ap aq bp bq).2.1).toArray)] ∧ Below w.heap.size w w') v w') := by
 refine aH #[.cell 8 37, .cell 9 37] 21 Tryz.func238 rfl Tryz.results238 Tryz.ntmps238 rfl ?_
 have M0 := Mem.refl w
 refine aD (aA (bG (.agg (List.toArray _)) M0 rfl rfl rfl (fun b1 w1 M1 => (bG (.agg (List.toArray _)) M1 rfl rfl rfl (fun b2 w2 M2 => (bG (.agg (List.toArray _)) M2 rfl rfl rfl (fun b3 w3 M3 => (bG (.agg (List.toArray _)) M3 rfl rfl rfl (fun b4 w4 M4 => (aP gQ M4 rfl rfl (fun b5 w5 M5 => ?_)))))))))))
 refine aP gQ M5 rfl rfl (fun b6 w6 M6 => (aB (aC (aD (aA (wq (bC 0 bK M6 rfl rfl rfl) rfl (wq (bC 1 bK M6 rfl rfl rfl) rfl (wq (bC 2 bK M6 rfl rfl rfl) rfl (wq (bC 3 bK M6 rfl rfl rfl) rfl ?_)))))))))
 refine bZ bHp rfl rfl (aLq _ ap aq bp bq h1 h2) ?_
 rintro v7 w7 ⟨rfl, hb7⟩
 have M7 := M6.callB hb7
 refine wq (aG (.tuple (List.toArray _)) rfl) rfl (wq (bB (.agg (List.toArray _)) rfl rfl) rfl (wq (bB (.agg (List.toArray _)) rfl rfl) rfl (wq (bB (.int _ _) rfl rfl) rfl (bA 4 _ bK M7 rfl rfl rfl rfl rfl (aQ rfl) rfl (fun w8 M8 => (bA 5 _ bK M8 rfl rfl rfl rfl rfl (aQ rfl) rfl (fun w9 M9 => ?_)))))))
 refine aB (aC (aD (bO [(0, 1), (1, 1), (2, 2), (3, 2)] mixed rfl (by kernel_rfl) (fun w10 hb10 hh10 => ?_))))
 have M10 := M9.drew hb10 hh10
 refine bW rfl rfl rfl (bC 4 bK M10 rfl rfl rfl) (bW rfl rfl rfl (bC 5 bK M10 rfl rfl rfl) (dU [false, true] rfl (by kernel_rfl) (bA 4 _ bK M10 rfl rfl rfl rfl rfl (aQ rfl) rfl (fun w11 M11 => ?_))))
 refine aB (aC ⟨(eL (bQ rfl (bC 5 bK M11 rfl rfl rfl)) dT), ?_⟩)
 refine dU [true] rfl (by kernel_rfl) (bA 5 _ bK M11 rfl rfl rfl rfl rfl (aQ rfl) rfl (fun w12 M12 => ?_))
 refine aB (aC ⟨dT, ?_⟩)
 refine cB (aC (aL (aOm 4 5 bK M12 rfl rfl rfl rfl rfl rfl ?_)))
 exact ⟨rfl, M12.below⟩
set_option maxHeartbeats 4000000 in
theorem xR (w : World) (b : Body) (hb : Okb b) :
  Calls Tryz.prog 237 #[(.agg (aF b).toArray)] w (fun ex w' => ∃ v, ex = .returned v ∧ (fun v w' => v = (.agg (mA b).toArray) ∧ Below w.heap.size w w') v w') := by
 refine aH #[.cell 2 296] 14 Tryz.func237 rfl Tryz.results237 Tryz.ntmps237 rfl ?_
 have M0 := Mem.refl w
 refine aD (aA (bG (.agg (List.toArray _)) M0 rfl rfl rfl (fun b1 w1 M1 => (aP uD M1 rfl rfl (fun b2 w2 M2 => (aB (aC (aD (aA (wq (bC 0 bJ M2 rfl rfl rfl) rfl (bZ bHb rfl rfl (aRf _ b hb) ?_)))))))))))
 rintro v3 w3 ⟨rfl, hb3⟩
 have M3 := M2.callB hb3
 refine wq (aG (.tuple (List.toArray _)) rfl) rfl (wq (bB (.agg (List.toArray _)) rfl rfl) rfl (wq (bB (.agg (List.toArray _)) rfl rfl) rfl (aP gQ M3 rfl rfl (fun b4 w4 M4 => (aP gQ M4 rfl rfl (fun b5 w5 M5 => (bA 2 _ bK M5 rfl rfl rfl rfl rfl (aQ rfl) rfl (fun w6 M6 => ?_))))))))
 refine bA 3 _ bK M6 rfl rfl rfl rfl rfl (aQ rfl) rfl (fun w7 M7 => (aB (aC (aD (aA (wq (bC 0 bJ M7 rfl rfl rfl) rfl (wq (bC 2 bK M7 rfl rfl rfl) rfl (wq (bC 3 bK M7 rfl rfl rfl) rfl (wq (cH [(0, .agg (List.toArray _)), (1, .agg (List.toArray _)), (2, .agg (List.toArray _))] _ aRg rfl rfl) rfl ?_)))))))))
 refine bA 1 _ lI M7 rfl rfl rfl rfl rfl (aQ rfl) rfl (fun w8 M8 => (aB (aC (aL (eO 1 lI M8 rfl rfl rfl ?_)))))
 exact ⟨rfl, M8.below⟩
set_option maxHeartbeats 4000000 in
theorem aYu (w : World) (a b : Body) (ha : Okb a) (hb : Okb b) :
  Calls Tryz.prog 214 #[(.agg (aF a).toArray), (.agg (aF b).toArray)] w (fun ex w' => ∃ v, ex = .returned v ∧ (fun v w' => v = .tuple #[(.agg (mA (loB a b)).toArray), (.agg (mA (hiB a b)).toArray)] ∧ Below w.heap.size w w') v w') := by
 refine aH #[.cell 4 296, .cell 5 296] 17 Tryz.func214 rfl Tryz.results214 Tryz.ntmps214 rfl ?_
 have M0 := Mem.refl w
 refine aD (aA (bG (.agg (List.toArray _)) M0 rfl rfl rfl (fun b1 w1 M1 => (bG (.agg (List.toArray _)) M1 rfl rfl rfl (fun b2 w2 M2 => (aP uD M2 rfl rfl (fun b3 w3 M3 => (aP uD M3 rfl rfl (fun b4 w4 M4 => (aB (aC (aD (aD (aA ?_))))))))))))))
 refine wq (aE 0 dQ rfl) rfl (wq (aM 0 (.int _ _) bU M4 rfl rfl rfl) rfl (wq (aE 0 dQ rfl) rfl (wq (aM 1 (.int _ _) bU M4 rfl rfl rfl) rfl (dB rfl rfl rfl rfl (aB (aC ?_))))))
 refine aX rfl (fun h10 => ?_) (fun h10 => ?_)
 ·refine aA (wq (bC 1 bJ M4 rfl rfl rfl) rfl (wq (bC 0 bJ M4 rfl rfl rfl) rfl (bA 0 _ bJ M4 rfl rfl rfl rfl rfl (aQ rfl) rfl (fun w5 M5 => (bA 1 _ bJ M5 rfl rfl rfl rfl rfl (aQ rfl) rfl (fun w6 M6 => (aB (aC (aD ?_)))))))))
  refine bO [(0, 1), (2, 1), (1, 2), (3, 2), (4, 2), (5, 2)] mixed rfl (by kernel_rfl) (fun w7 hb7 hh7 => ?_)
  have M7 := M6.drew hb7 hh7
  refine bW rfl rfl rfl (bC 0 bJ M7 rfl rfl rfl) (bW rfl rfl rfl (bC 1 bJ M7 rfl rfl rfl) (dU [false, true] rfl (by kernel_rfl) (bZ aEc rfl rfl (xR _ b hb) ?_)))
  rintro v8 w8 ⟨rfl, hb8⟩
  have M8 := M7.callB hb8
  refine aB (aC ⟨(eL (bQ rfl (bC 1 bJ M8 rfl rfl rfl)) dT), ?_⟩)
  refine dU [true] rfl (by kernel_rfl) (bZ aEc rfl rfl (xR _ a ha) ?_)
  rintro v9 w9 ⟨rfl, hb9⟩
  have M9 := M8.callB hb9
  refine aB (aC ⟨dT, ?_⟩)
  refine dU [] rfl (by kernel_rfl) (bA 2 _ lI M9 rfl rfl rfl rfl rfl (aQ rfl) rfl (fun w10 M10 => ?_))
  refine aB (aC ⟨dT, ?_⟩)
  refine dU [] rfl (by kernel_rfl) (bA 3 _ lI M10 rfl rfl rfl rfl rfl (aQ rfl) rfl (fun w11 M11 => ?_))
  refine aB (aC ⟨dT, ?_⟩)
  refine cB (aC (aL (aOm 2 3 lI M11 rfl rfl rfl rfl rfl rfl ?_)))
  exact ⟨by unfold loB hiB; first | rw [if_pos (by omega), if_pos (by omega)] | rw [if_neg (by omega), if_neg (by omega)], M11.below⟩
 ·refine aK (aC (aD (bO [(0, 1), (2, 1), (1, 2), (3, 2), (4, 2), (5, 2)] mixed rfl (by kernel_rfl) (fun w12 hb12 hh12 => ?_))))
  have M12 := M4.drew hb12 hh12
  refine bW rfl rfl rfl (bC 0 bJ M12 rfl rfl rfl) (bW rfl rfl rfl (bC 1 bJ M12 rfl rfl rfl) (dU [false, true] rfl (by kernel_rfl) (bZ aEc rfl rfl (xR _ a ha) ?_)))
  rintro v13 w13 ⟨rfl, hb13⟩
  have M13 := M12.callB hb13
  refine aB (aC ⟨(eL (bQ rfl (bC 1 bJ M13 rfl rfl rfl)) dT), ?_⟩)
  refine dU [true] rfl (by kernel_rfl) (bZ aEc rfl rfl (xR _ b hb) ?_)
  rintro v14 w14 ⟨rfl, hb14⟩
  have M14 := M13.callB hb14
  refine aB (aC ⟨dT, ?_⟩)
  refine dU [] rfl (by kernel_rfl) (bA 2 _ lI M14 rfl rfl rfl rfl rfl (aQ rfl) rfl (fun w15 M15 => ?_))
  refine aB (aC ⟨dT, ?_⟩)
  refine dU [] rfl (by kernel_rfl) (bA 3 _ lI M15 rfl rfl rfl rfl rfl (aQ rfl) rfl (fun w16 M16 => ?_))
  refine aB (aC ⟨dT, ?_⟩)
  refine cB (aC (aL (aOm 2 3 lI M16 rfl rfl rfl rfl rfl rfl ?_)))
  exact ⟨by unfold loB hiB; first | rw [if_pos (by omega), if_pos (by omega)] | rw [if_neg (by omega), if_neg (by omega)], M16.below⟩
set_option maxHeartbeats 4000000 in
theorem bBq (w : World) (a b : Body) (ha : Okb a) (hb : Okb b) :
  Calls Tryz.prog 215 #[(.agg (mA a).toArray), (.agg (mA b).toArray)] w (fun ex w' => ∃ v, ex = .returned v ∧ (fun v w' => v = .tuple #[.int .i64 (yP (wF a b)), .int .i64 (yY (wF a b)), .int .i64 (a.radius + b.radius)] ∧ Below w.heap.size w w') v w') := by
 have hra := ha.r
 have hrb := hb.r
 have hch := aAa ha hb
 refine aH #[.tmp 4, .tmp 5, .tmp 6] 38 Tryz.func215 rfl Tryz.results215 Tryz.ntmps215 rfl ?_
 have M0 := Mem.refl w
 refine aD (aA (bG (.agg (List.toArray _)) M0 rfl rfl rfl (fun b1 w1 M1 => (bG (.agg (List.toArray _)) M1 rfl rfl rfl (fun b2 w2 M2 => (bI rfl rfl (bI rfl rfl (bI rfl rfl ?_))))))))
 refine aB (aC (aD (aA (wq (aE 10 aGj rfl) rfl (wq (uL 0 _ bK M2 rfl rfl rfl rfl) rfl (wq (aE 12 aGp rfl) rfl (wq (uL 0 _ bK M2 rfl rfl rfl rfl) rfl (wq (aE 10 aGj rfl) rfl ?_))))))))
 refine wq (uL 1 _ bK M2 rfl rfl rfl rfl) rfl (wq (aE 12 aGp rfl) rfl (wq (uL 1 _ bK M2 rfl rfl rfl rfl) rfl (bZ bFa rfl rfl (aMg _ (aIi a) (aIp a) (aIi b) (aIp b) (xW ha) (xW hb)) ?_)))
 rintro v3 w3 ⟨rfl, hb3⟩
 have M3 := M2.callB hb3
 refine wq (aG (.tuple (List.toArray _)) rfl) rfl (wq (bB (.agg (List.toArray _)) rfl rfl) rfl (wq (bB (.agg (List.toArray _)) rfl rfl) rfl (aP gQ M3 rfl rfl (fun b4 w4 M4 => (aP gQ M4 rfl rfl (fun b5 w5 M5 => (bA 2 _ bK M5 rfl rfl rfl rfl rfl (aQ rfl) rfl (fun w6 M6 => ?_))))))))
 refine bA 3 _ bK M6 rfl rfl rfl rfl rfl (aQ rfl) rfl (fun w7 M7 => (aB (aC (aD (aA (wq (bC 2 bK M7 rfl rfl rfl) rfl (wq (bC 3 bK M7 rfl rfl rfl) rfl (bZ zO rfl rfl (pO _ (wF a b).1 (wF a b).2.1 hch.a.i32 hch.b.i32) ?_))))))))
 rintro v8 w8 ⟨rfl, hb8⟩
 have M8 := M7.callB hb8
 refine wq (aG (.tuple (List.toArray _)) rfl) rfl (wq (bB (.int _ _) rfl rfl) rfl (wq (bB (.int _ _) rfl rfl) rfl (bI rfl rfl (bI rfl rfl (aB (aC (aD ?_)))))))
 refine bO [(0, 0), (1, 0), (2, 0), (3, 0), (4, 1), (5, 0), (6, 0), (7, 0), (8, 1), (9, 0), (10, 0), (11, 0), (12, 0), (13, 0)] mixed rfl (by kernel_rfl) (fun w9 hb9 hh9 => ?_)
 have M9 := M8.drew hb9 hh9
 refine gV rfl rfl rfl (gV rfl rfl rfl (aY rfl rfl rfl (fun _ => aE 0 uG rfl) (aY rfl rfl rfl (fun _ => aE 1 lS rfl) (bW rfl rfl rfl (aM 0 (.int _ _) aW M9 rfl rfl rfl) (aY rfl rfl rfl (fun _ => bY gB Tryz.underlying2 rfl (kT _ (by omega) (by omega))) ?_)))))
 refine aY rfl rfl rfl (fun _ => aE 0 uG rfl) (aY rfl rfl rfl (fun _ => aE 1 lS rfl) (bW rfl rfl rfl (aM 1 (.int _ _) aW M9 rfl rfl rfl) (aY rfl rfl rfl (fun _ => bY gB Tryz.underlying2 rfl (kT _ (by omega) (by omega))) (aY rfl rfl rfl (fun _ => bP rfl rfl (by omega) (by omega)) ?_))))
 refine qO rfl rfl rfl (qO rfl rfl rfl (qO rfl rfl rfl (cB (aC (aL (bLb (.int _ _) (.int _ _) (.int _ _) rfl rfl rfl ?_))))))
 exact ⟨rfl, M9.below⟩
set_option maxHeartbeats 4000000 in
theorem zI (w : World) (a b : Body) (ha : Okb a) (hb : Okb b) :
  Calls Tryz.prog 185 #[(.agg (aF a).toArray), (.agg (aF b).toArray)] w (fun ex w' => ∃ v, ex = .returned v ∧ (fun v w' => v = .tuple #[.agg (bHa (nI a b)).toArray, .bool (nI a b).isSome] ∧ Below w.heap.size w w') v w') := by
 obtain ⟨hlo, hhi⟩ := bEo ha hb
 have hd := bDi hlo hhi
 have hl := aFk hd.1 hd.2
 have hss := bGt hlo hhi
 have hr1 := hlo.r
 have hr2 := hhi.r
 refine aH #[.cell 4 211, .tmp 5] 52 Tryz.func185 rfl Tryz.results185 Tryz.ntmps185 rfl ?_
 have M0 := Mem.refl w
 refine aD (aA (bG (.agg (List.toArray _)) M0 rfl rfl rfl (fun b1 w1 M1 => (bG (.agg (List.toArray _)) M1 rfl rfl rfl (fun b2 w2 M2 => (aP tS M2 rfl rfl (fun b3 w3 M3 => (wq (aI (.bool false) rfl) rfl (aB (aC (aD (aA ?_))))))))))))
 refine wq (bC 0 bJ M3 rfl rfl rfl) rfl (wq (bC 1 bJ M3 rfl rfl rfl) rfl (bZ bEi rfl rfl (aYu _ a b ha hb) ?_))
 rintro v4 w4 ⟨rfl, hb4⟩
 have M4 := M3.callB hb4
 refine wq (aG (.tuple (List.toArray _)) rfl) rfl (wq (bB (.agg (List.toArray _)) rfl rfl) rfl (wq (bB (.agg (List.toArray _)) rfl rfl) rfl (aP uD M4 rfl rfl (fun b5 w5 M5 => (aP uD M5 rfl rfl (fun b6 w6 M6 => (bA 3 _ lI M6 rfl rfl rfl rfl rfl (aQ rfl) rfl (fun w7 M7 => ?_))))))))
 refine bA 4 _ lI M7 rfl rfl rfl rfl rfl (aQ rfl) rfl (fun w8 M8 => (aB (aC (aD (aA (wq (bC 3 lI M8 rfl rfl rfl) rfl (wq (bC 4 lI M8 rfl rfl rfl) rfl (bZ bFy rfl rfl (bBq _ (loB a b) (hiB a b) hlo hhi) ?_))))))))
 rintro v9 w9 ⟨rfl, hb9⟩
 have M9 := M8.callB hb9
 refine wq (aG (.tuple (List.toArray _)) rfl) rfl (wq (bB (.int _ _) rfl rfl) rfl (wq (bB (.int _ _) rfl rfl) rfl (wq (bB (.int _ _) rfl rfl) rfl (bI rfl rfl (bI rfl rfl ?_)))))
 refine bI rfl rfl (aB (aC (aD (aD (aA (aZ rfl rfl (aZ rfl rfl (bZ aMk rfl rfl (oW _ (yP (wF (loB a b) (hiB a b))) (yY (wF (loB a b) (hiB a b))) hd.1 hd.2) ?_))))))))
 rintro v10 w10 ⟨rfl, hb10⟩
 have M10 := M9.callB hb10
 refine aZ rfl rfl (aZ rfl rfl (wq (gJ rfl rfl (by omega) (by omega)) rfl (wq (dZ us2 Tryz.underlying237 rfl) rfl (aV 31 (.int .u64 ((((loB a b).radius + (hiB a b).radius).natAbs * ((loB a b).radius + (hiB a b).radius).natAbs : Nat) : Int)) (iE (aZy _ hss)) (dB rfl rfl rfl rfl ?_)))))
 refine aB (aC ?_)
 refine aX rfl (fun h32 => ?_) (fun h32 => ?_)
 ·refine aD (aA (wq (cH [] _ aDu rfl rfl) rfl (bA 2 _ gR M10 rfl rfl rfl rfl rfl (aQ rfl) rfl (fun w11 M11 => (wq (aI (.bool false) rfl) rfl (aB (aC (aL (cD (aDd (v2 := .bool false) 2 gR M11 rfl rfl rfl rfl ?_))))))))))
  exact ⟨by rw [aGq]; unfold nN; first | (rw [if_pos (by omega)]; rfl) | (rw [if_neg (by omega)]; rfl), M11.below⟩
 ·refine aK (aC (aD (aA (wq (aE 0 uG rfl) rfl (wq (aE 0 dQ rfl) rfl (wq (aM 3 (.int _ _) bU M10 rfl rfl rfl) rfl (wq (aE 0 uG rfl) rfl (wq (aE 0 dQ rfl) rfl ?_))))))))
  refine wq (aM 4 (.int _ _) bU M10 rfl rfl rfl) rfl (wq (cH [(0, .int _ _), (1, .int _ _)] _ aCe rfl rfl) rfl (aP qS M10 rfl rfl (fun b12 w12 M12 => (bA 5 _ gE M12 rfl rfl rfl rfl rfl (aQ rfl) rfl (fun w13 M13 => (aB (aC (aD (bO [(0, 1), (1, 0), (2, 0), (4, 0), (5, 0), (6, 0), (3, 2), (7, 2), (8, 0), (9, 0), (10, 0), (11, 2), (12, 0)] mixed rfl (by kernel_rfl) (fun w14 hb14 hh14 => ?_))))))))))
  have M14 := M13.drew hb14 hh14
  refine bW rfl rfl rfl (bC 5 gE M14 rfl rfl rfl) (gV rfl rfl rfl (gV rfl rfl rfl (gV rfl rfl rfl (gV rfl rfl rfl (gV rfl rfl rfl ?_)))))
  refine dU [false] rfl (by kernel_rfl) (bZ bEs rfl rfl (aWt _ (yP (wF (loB a b) (hiB a b))) (yY (wF (loB a b) (hiB a b))) hd.1 hd.2) ?_)
  rintro v15 w15 ⟨rfl, hb15⟩
  have M15 := M14.callB hb15
  refine aB (aC ⟨(eL (bQ rfl (bC 5 gE M15 rfl rfl rfl)) dT), ?_⟩)
  refine dU [false] rfl (by kernel_rfl) (bZ aWa rfl rfl (zX _ (yP (wF (loB a b) (hiB a b))) (yY (wF (loB a b) (hiB a b))) hd.1 hd.2) ?_)
  rintro v16 w16 ⟨rfl, hb16⟩
  have M16 := M15.callB hb16
  refine aB (aC ⟨(eL (bQ rfl (bC 5 gE M16 rfl rfl rfl)) dT), ?_⟩)
  refine aY rfl rfl rfl (fun _ => oE rfl rfl (by omega) (by omega)) (aY rfl rfl rfl (fun _ => dZ us2 Tryz.underlying21 rfl) (aY rfl rfl rfl (fun _ => cH [(0, .agg (List.toArray _)), (1, .agg (List.toArray _)), (2, .int _ _)] _ aDu rfl rfl) (dU [true] rfl (by kernel_rfl) (bA 2 _ gR M16 rfl rfl rfl rfl rfl (aQ rfl) rfl (fun w17 M17 => ?_)))))
  refine aB (aC ⟨dT, ?_⟩)
  refine aY rfl rfl rfl (fun _ => aI (.bool true) rfl) (cB (aC (aL (aDd (v2 := .bool true) 2 gR M17 rfl rfl rfl rfl ?_))))
  exact ⟨by rw [aGq]; unfold nN; first | (rw [if_pos (by omega)]; rfl) | (rw [if_neg (by omega)]; rfl), M17.below⟩
end Go.Proofs.YtaoaknafiegfoaaGreatDoor
