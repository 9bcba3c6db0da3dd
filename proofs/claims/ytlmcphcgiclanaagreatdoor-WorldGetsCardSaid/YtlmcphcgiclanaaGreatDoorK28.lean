/- Part of the proof of the laws of this seat: Z1, Z1b, Z1c, Z1d, W3, Z2, W4, Z3, Z4, W5, W6. No conditions. -/
import Derived.Test.YtlmcphcgiclanaaGreatDoorK2
import Derived.Test.YtlmcphcgiclanaaGreatDoorK5
import Derived.Test.YtlmcphcgiclanaaGreatDoorK12
import Derived.Test.YtlmcphcgiclanaaGreatDoorK18
import Derived.Test.YtlmcphcgiclanaaGreatDoorK11
import Derived.Test.YtlmcphcgiclanaaGreatDoorK17
set_option linter.unusedVariables false
set_option linter.unusedSimpArgs false
set_option linter.unnecessarySimpa false
namespace Go.Proofs.YtlmcphcgiclanaaGreatDoor
open Go.Bil
open Go.RowKit (Below)
open Go.Proofs
set_option maxHeartbeats 8000000 in
theorem bEf (w : World) (n : Nat) (hn : n < 18446744073709551616) :
  Calls Tryz.prog 203 #[.int .u64 (n : Int)] w (fun ex w' => ∃ v, ex = .returned v ∧ (fun v w' => v = .int .u64 ((tR n : Nat) : Int) ∧ Below w.heap.size w w') v w') := by
 refine aH #[.tmp 2] 32 Tryz.func203 rfl Tryz.results203 Tryz.ntmps203 rfl ?_
 have M0 := Mem.refl w
 refine aD (aA (bI rfl rfl (aB (aC (aD (aA (aV rfl rfl (bI rfl rfl (bI rfl rfl ?_)))))))))
 refine aB (aC (aD (aD (aA (aV rfl rfl (aB (aC (aT (dN (σ := Nat × Nat × Nat) [2] (fun (i, R, e) => [(8, .int .i64 (i : Int)), (3, .int .u64 ((n - R * R : Nat) : Int)), (4, .int .u64 ((R * e : Nat) : Int))]) (fun (i, R, e) w' => Iq n i R e ∧ Mem w [] [] w') (fun (i, R, e) => 32 - i) (0, 0, 4294967296) (bK rfl (bK (iv rfl (by simp)) (bK (iv rfl (by simp)) fC))) (⟨aVt hn, M0⟩) ?_)))))))))
 rintro ⟨i, R, e⟩ ρ1 w1 ⟨I, hM1⟩
 have hile := I.ile
 have hle := I.le
 refine aD (aA (cS rfl rfl rfl rfl (aB (aC (aD ?_)))))
 refine aX rfl (fun h9 => ?_) (fun h9 => ?_)
 ·obtain ⟨f, hf1, hf2, hf3, hf4, hf5, hf6, hf7, hf8, hfy, hfn⟩ := aWh (by omega) I
  refine aL (aC (aD (aT (aD (aA (aV rfl rfl (bI rfl rfl (aB (aC (aD (aA (aV rfl rfl (wq (fS rfl rfl (by omega) (by omega)) rfl ?_)))))))))))))
  refine wq (gB rfl rfl (by omega)) rfl (aS 13 (.int .u64 ((f * f : Nat) : Int)) (iE ((aVz (2 * i) _ (by omega) (by omega)).trans (congrArg _ hf4))) (bI rfl rfl (aB (aC (aD (aA (aV rfl rfl (aV rfl rfl ?_))))))))
  refine aV rfl rfl (wq (dT (.int _ _) rfl rfl rfl) rfl (aS 17 (.int .u64 ((R * e + f * f : Nat) : Int)) (iE (by rw [qN]; omega)) (cS rfl rfl rfl rfl (aB (aC ?_)))))
  refine aX rfl (fun h18 => ?_) (fun h18 => ?_)
  ·have h18' : R * e + f * f ≤ n - R * R := by omega
   refine aD (aA (aV rfl rfl (aV rfl rfl (aV rfl rfl (wq (dT (.int _ _) rfl rfl rfl) rfl (aS 22 (.int .u64 ((R * e + f * f : Nat) : Int)) (iE (by rw [qN]; omega)) ?_))))))
   refine wq (dT (.int _ _) rfl rfl rfl) rfl (aS 23 (.int .u64 ((n - (R + f) * (R + f) : Nat) : Int)) (iE (by rw [qN]; omega)) (bI rfl rfl (aB (aC (aA (aV rfl rfl (wq (gB rfl rfl (by decide)) rfl ?_)))))))
   refine aS 25 (.int .u64 ((R * f : Nat) : Int)) (iE ((aTy (R * e)).trans (congrArg _ hf5))) (aV rfl rfl (wq (dT (.int _ _) rfl rfl rfl) rfl (aS 27 (.int .u64 (((R + f) * f : Nat) : Int)) (iE (by rw [qN]; omega)) (bI rfl rfl (aB ?_)))))
   refine cV (aC (aA (wq (bM rfl rfl (by omega) (by omega)) rfl (aV rfl rfl (aB ?_)))))
   refine cQ (i + 1, R + f, f) (bK rfl (bK rfl (bK rfl fC))) (cU rfl kE) ?_ ?_
   ·exact ⟨hfy h18', hM1⟩
   ·(show 32 - (i + 1) < 32 - i; omega)
  ·have h18' : ¬ (R * e + f * f ≤ n - R * R) := by omega
   refine aA (aV rfl rfl (wq (gB rfl rfl (by decide)) rfl (aS 29 (.int .u64 ((R * f : Nat) : Int)) (iE ((aTy (R * e)).trans (congrArg _ hf5))) (bI rfl rfl (aB ?_)))))
   refine cV (aC (aA (wq (bM rfl rfl (by omega) (by omega)) rfl (aV rfl rfl (aB ?_)))))
   refine cQ (i + 1, R, f) (bK rfl (bK rfl (bK rfl fC))) (cU rfl kE) ?_ ?_
   ·exact ⟨hfn h18', hM1⟩
   ·(show 32 - (i + 1) < 32 - i; omega)
 ·obtain rfl : i = 32 := by omega
  refine cN (dB (cZ (eZ (aC (aD (aA (aV rfl rfl ?_)))))))
  refine bI rfl rfl (aB (aC (aN (cA (.int _ _) rfl ?_))))
  exact ⟨iE (by rw [aVw I]), hM1.below⟩
set_option maxHeartbeats 4000000 in
theorem oS (w : World) (a b : Int × Int) (ha : I32 a) (hb : I32 b) :
  Calls Tryz.prog 200 #[(.agg (cJ a).toArray), (.agg (cJ b).toArray)] w (fun ex w' => ∃ v, ex = .returned v ∧ (fun v w' => v = .tuple #[.int .i64 (b.1 - a.1), .int .i64 (b.2 - a.2)] ∧ Below w.heap.size w w') v w') := by
 have hax := ha.x
 have hay := ha.y
 have hbx := hb.x
 have hby := hb.y
 refine aH #[.tmp 4, .tmp 5] 20 Tryz.func200 rfl Tryz.results200 Tryz.ntmps200 rfl ?_
 have M0 := Mem.refl w
 refine aD (aA (bJ (.agg (List.toArray _)) M0 rfl rfl rfl (fun b1 w1 M1 => (bJ (.agg (List.toArray _)) M1 rfl rfl rfl (fun b2 w2 M2 => (bI rfl rfl (bI rfl rfl (aB (aC (aD ?_))))))))))
 refine bV [(0, 0), (1, 1), (2, 0), (3, 0), (4, 1), (5, 0), (6, 0), (7, 0), (8, 1), (9, 0), (10, 0), (11, 1), (12, 0), (13, 0), (14, 0), (15, 0)] mixed rfl (by kernel_rfl) (fun w3 hb3 hh3 => ?_)
 have M3 := M2.drew hb3 hh3
 refine aZ rfl rfl rfl (fun _ => aE 0 dP rfl) (cB rfl rfl rfl (aM 1 (.int _ _) aU M3 rfl rfl rfl) (aZ rfl rfl rfl (fun _ => bR fK Tryz.underlying2 rfl (kB _ (by omega) (by omega))) (aZ rfl rfl rfl (fun _ => aE 0 dP rfl) (cB rfl rfl rfl (aM 0 (.int _ _) aU M3 rfl rfl rfl) ?_))))
 refine aZ rfl rfl rfl (fun _ => bR fK Tryz.underlying2 rfl (kB _ (by omega) (by omega))) (aZ rfl rfl rfl (fun _ => mF rfl rfl (by omega) (by omega)) (aZ rfl rfl rfl (fun _ => aE 1 dJ rfl) (cB rfl rfl rfl (aM 1 (.int _ _) aU M3 rfl rfl rfl) (aZ rfl rfl rfl (fun _ => bR fK Tryz.underlying2 rfl (kB _ (by omega) (by omega))) ?_))))
 refine aZ rfl rfl rfl (fun _ => aE 1 dJ rfl) (cB rfl rfl rfl (aM 0 (.int _ _) aU M3 rfl rfl rfl) (aZ rfl rfl rfl (fun _ => bR fK Tryz.underlying2 rfl (kB _ (by omega) (by omega))) (aZ rfl rfl rfl (fun _ => mF rfl rfl (by omega) (by omega)) (pP rfl rfl rfl (pP rfl rfl rfl ?_)))))
 refine cG (aC (aN (gV (.int _ _) (.int _ _) rfl rfl ?_)))
 exact ⟨rfl, M3.below⟩
set_option maxHeartbeats 4000000 in
theorem vV (w : World) (n : Int) (hn : vT n) :
  Calls Tryz.prog 201 #[.int .i64 n] w (fun ex w' => ∃ v, ex = .returned v ∧ (fun v w' => v = .int .u64 ((n.natAbs * n.natAbs : Nat) : Int) ∧ Below w.heap.size w w') v w') := by
 have hlt := (xA hn hn).2.1
 unfold vT at hn
 refine aH #[.tmp 2] 12 Tryz.func201 rfl Tryz.results201 Tryz.ntmps201 rfl ?_
 have M0 := Mem.refl w
 refine aD (aA (bI rfl rfl (aB (aC (aD (aD (aA (aV rfl rfl (cS rfl rfl rfl rfl (aB (aC ?_)))))))))))
 refine aX rfl (fun h4 => ?_) (fun h4 => ?_)
 ·refine aA (aV rfl rfl (wq (aBi rfl) rfl (aS 6 (.int .i64 (-n)) (iE (kB _ (by omega) (by omega))) (bI rfl rfl (aB (aC (aD (aA ?_))))))))
  refine aV rfl rfl (wq (dO us2 Tryz.underlying170 rfl) rfl (aS 8 (.int .u64 ((n.natAbs : Nat) : Int)) (iE (by rw [qN]; omega)) (aV rfl rfl (wq (dO us2 Tryz.underlying170 rfl) rfl (aS 10 (.int .u64 ((n.natAbs : Nat) : Int)) (iE (by rw [qN]; omega)) ?_)))))
  refine wq (dT (.int _ _) rfl rfl rfl) rfl (aS 11 (.int .u64 ((n.natAbs * n.natAbs : Nat) : Int)) (iE (aLv _ _ (by omega))) (bI rfl rfl (aB (aC (aN (cA (.int _ _) rfl ?_))))))
  exact ⟨rfl, M0.below⟩
 ·refine aL (aC (aD (aA (aV rfl rfl (wq (dO us2 Tryz.underlying170 rfl) rfl (aS 8 (.int .u64 ((n.natAbs : Nat) : Int)) (iE (by rw [qN]; omega)) (aV rfl rfl (wq (dO us2 Tryz.underlying170 rfl) rfl ?_))))))))
  refine aS 10 (.int .u64 ((n.natAbs : Nat) : Int)) (iE (by rw [qN]; omega)) (wq (dT (.int _ _) rfl rfl rfl) rfl (aS 11 (.int .u64 ((n.natAbs * n.natAbs : Nat) : Int)) (iE (aLv _ _ (by omega))) (bI rfl rfl (aB (aC (aN (cA (.int _ _) rfl ?_)))))))
  exact ⟨rfl, M0.below⟩
set_option maxHeartbeats 4000000 in
theorem nB (w : World) (dx dy : Int) (hx : vT dx) (hy : vT dy) :
  Calls Tryz.prog 173 #[.int .i64 dx, .int .i64 dy] w (fun ex w' => ∃ v, ex = .returned v ∧ (fun v w' => v = .int .u64 ((lsq dx dy : Nat) : Int) ∧ Below w.heap.size w w') v w') := by
 have hl := xA hx hy
 refine aH #[.tmp 4] 10 Tryz.func173 rfl Tryz.results173 Tryz.ntmps173 rfl ?_
 have M0 := Mem.refl w
 refine aD (aA (bI rfl rfl (aB (aC (aD (aA (aV rfl rfl (bY aQp rfl rfl (vV _ dx hx) ?_))))))))
 rintro v1 w1 ⟨rfl, hb1⟩
 have M1 := M0.callB hb1
 refine aV rfl rfl (bY aQp rfl rfl (vV _ dy hy) ?_)
 rintro v2 w2 ⟨rfl, hb2⟩
 have M2 := M1.callB hb2
 refine wq (dT (.int _ _) rfl rfl rfl) rfl (aS 9 (.int .u64 ((lsq dx dy : Nat) : Int)) (iE (by rw [qN]; unfold lsq at *; omega)) (bI rfl rfl (aB (aC (aN (cA (.int _ _) rfl ?_))))))
 exact ⟨rfl, M2.below⟩
set_option maxHeartbeats 4000000 in
theorem wC (w : World) (dx dy : Int) (hx : vT dx) (hy : vT dy) :
  Calls Tryz.prog 175 #[.int .i64 dx, .int .i64 dy] w (fun ex w' => ∃ v, ex = .returned v ∧ (fun v w' => v = .int .i64 (len dx dy) ∧ Below w.heap.size w w') v w') := by
 have hl := aDk hx hy
 refine aH #[.tmp 4] 10 Tryz.func175 rfl Tryz.results175 Tryz.ntmps175 rfl ?_
 have M0 := Mem.refl w
 refine aD (aA (bI rfl rfl (aB (aC (aD (aA (aV rfl rfl (aV rfl rfl (bY aIk rfl rfl (nB _ dx dy hx hy) ?_)))))))))
 rintro v1 w1 ⟨rfl, hb1⟩
 have M1 := M0.callB hb1
 refine bY bAq rfl rfl (bEf _ (lsq dx dy) (xA hx hy).1) ?_
 rintro v2 w2 ⟨rfl, hb2⟩
 have M2 := M1.callB hb2
 refine wq (dO aAb Tryz.underlying2 rfl) rfl (aS 9 (.int .i64 (len dx dy)) (iE (kB (len dx dy) (by omega) (by omega))) (bI rfl rfl (aB (aC (aN (cA (.int _ _) rfl ?_))))))
 exact ⟨rfl, M2.below⟩
set_option maxHeartbeats 4000000 in
theorem aBa (w : World) (a b : Int) (hb : 0 < b) (h0 : -1000000000000000000 ≤ a) (h1 : a ≤ 1000000000000000000) :
  Calls Tryz.prog 202 #[.int .i64 a, .int .i64 b] w (fun ex w' => ∃ v, ex = .returned v ∧ (fun v w' => v = .int .i64 (a / b) ∧ Below w.heap.size w w') v w') := by
 have hf := aGm (a := a) hb
 have hb1 := aHi a b
 refine aH #[.tmp 4] 16 Tryz.func202 rfl Tryz.results202 Tryz.ntmps202 rfl ?_
 have M0 := Mem.refl w
 refine aD (aA (bI rfl rfl (aB (aC (aD (aA (aV rfl rfl (aV rfl rfl (wq (aLk rfl rfl (by omega)) rfl ?_)))))))))
 refine aS 8 (.int .i64 (a.tdiv b)) (iE (kB _ (by omega) (by omega))) (bI rfl rfl (aB (aC (aD (aD (aA (aV rfl rfl (aV rfl rfl (wq (aYd rfl rfl (by omega)) rfl ?_)))))))))
 refine cS rfl rfl rfl rfl (aB (aC ?_))
 refine aX rfl (fun h12 => ?_) (fun h12 => ?_)
 ·refine aA (aV rfl rfl (wq (mF rfl rfl (by omega) (by omega)) rfl (bI rfl rfl (aB (aC (aD (aA (aV rfl rfl ?_))))))))
  refine bI rfl rfl (aB (aC (aN (cA (.int _ _) rfl ?_))))
  exact ⟨iE (by first | exact hf.1 (by omega) | exact hf.2 (by omega)), M0.below⟩
 ·refine aL (aC (aD (aA (aV rfl rfl (bI rfl rfl (aB (aC (aN (cA (.int _ _) rfl ?_)))))))))
  exact ⟨iE (by first | exact hf.1 (by omega) | exact hf.2 (by omega)), M0.below⟩
set_option maxHeartbeats 4000000 in
theorem aTe (w : World) (dx dy : Int) (hx : vT dx) (hy : vT dy) :
  Calls Tryz.prog 174 #[.int .i64 dx, .int .i64 dy] w (fun ex w' => ∃ v, ex = .returned v ∧ (fun v w' => v = (.agg (cJ (oK dx dy)).toArray) ∧ Below w.heap.size w w') v w') := by
 have hl := aDk hx hy
 have hxx := hx
 have hyy := hy
 unfold vT at hxx hyy
 refine aH #[.cell 4 38] 23 Tryz.func174 rfl Tryz.results174 Tryz.ntmps174 rfl ?_
 have M0 := Mem.refl w
 refine aD (aA (aQ fY M0 rfl rfl (fun b1 w1 M1 => (aB (aC (aD (aA (aV rfl rfl (aV rfl rfl (bY aSg rfl rfl (wC _ dx dy hx hy) ?_))))))))))
 rintro v2 w2 ⟨rfl, hb2⟩
 have M2 := M1.callB hb2
 refine bI rfl rfl (aB (aC (aD (aD (aA (aV rfl rfl (cS rfl rfl rfl rfl (aB (aC ?_)))))))))
 refine aX rfl (fun h10 => ?_) (fun h10 => ?_)
 ·refine aD (aA (wq (cI [(0, .int _ _)] _ eL rfl rfl) rfl (bB 0 _ bH M2 rfl rfl rfl rfl rfl (aP rfl) rfl (fun w3 M3 => (aB (aC (aN (cH (fP 0 bH M3 rfl rfl rfl ?_)))))))))
  exact ⟨by unfold oK; first | (rw [if_pos (by omega)]; rfl) | (rw [if_neg (by omega)]; rfl), M3.below⟩
 ·refine aL (aC (aD (aA (aV rfl rfl (wq (qX rfl rfl (by decide)) rfl (aS 13 (.int .i64 (dx * 65536)) (iE (aAy dx hx)) (aV rfl rfl (bY aRj rfl rfl (aBa _ (dx * 65536) (len dx dy) (by omega) (by omega) (by omega)) ?_))))))))
  rintro v4 w4 ⟨rfl, hb4⟩
  have M4 := M2.callB hb4
  refine wq (dO us2 Tryz.underlying21 rfl) rfl (aV rfl rfl (wq (qX rfl rfl (by decide)) rfl (aS 18 (.int .i64 (dy * 65536)) (iE (aAy dy hy)) (aV rfl rfl (bY aRj rfl rfl (aBa _ (dy * 65536) (len dx dy) (by omega) (by omega) (by omega)) ?_)))))
  rintro v5 w5 ⟨rfl, hb5⟩
  have M5 := M4.callB hb5
  refine wq (dO us2 Tryz.underlying21 rfl) rfl (wq (cI [(0, .int _ _), (1, .int _ _)] _ eL rfl rfl) rfl (bB 0 _ bH M5 rfl rfl rfl rfl rfl (aP rfl) rfl (fun w6 M6 => (aB (aC (aN (fP 0 bH M6 rfl rfl rfl ?_)))))))
  exact ⟨by unfold oK; first | (rw [if_pos (by omega)]; rfl) | (rw [if_neg (by omega)]; rfl), M6.below⟩
set_option maxHeartbeats 4000000 in
theorem aOi (w : World) (b : Body) (hb : Okb b) :
  Calls Tryz.prog 220 #[(.agg (aF b).toArray)] w (fun ex w' => ∃ v, ex = .returned v ∧ (fun v w' => v = .tuple #[(.agg (cJ (aGn b)).toArray), (.agg (cJ (aEa b)).toArray)] ∧ Below w.heap.size w w') v w') := by
 have ha := hb.a
 have hp := hb.p
 refine aH #[.cell 2 38, .cell 3 38] 36 Tryz.func220 rfl Tryz.results220 Tryz.ntmps220 rfl ?_
 have M0 := Mem.refl w
 refine aD (aA (bJ (.agg (List.toArray _)) M0 rfl rfl rfl (fun b1 w1 M1 => (aQ fY M1 rfl rfl (fun b2 w2 M2 => (aQ fY M2 rfl rfl (fun b3 w3 M3 => (aB (aC (aD (aA (wq (aE 6 fW rfl) rfl ?_))))))))))))
 refine wq (aE 0 dP rfl) rfl (wq (aM 0 (.int _ _) aU M3 rfl rfl rfl) rfl (wq (aE 2 kH rfl) rfl (wq (aE 0 dP rfl) rfl (wq (aM 0 (.int _ _) aU M3 rfl rfl rfl) rfl (wq (lC rfl rfl (lH _ (by omega) (by omega))) rfl ?_)))))
 refine wq (aE 6 fW rfl) rfl (wq (aE 1 dJ rfl) rfl (wq (aM 0 (.int _ _) aU M3 rfl rfl rfl) rfl (wq (aE 2 kH rfl) rfl (wq (aE 1 dJ rfl) rfl (wq (aM 0 (.int _ _) aU M3 rfl rfl rfl) rfl ?_)))))
 refine wq (lC rfl rfl (lH _ (by omega) (by omega))) rfl (wq (cI [(0, .int _ _), (1, .int _ _)] _ eL rfl rfl) rfl (bB 1 _ bH M3 rfl rfl rfl rfl rfl (aP rfl) rfl (fun w4 M4 => (aB (aC (aD (aA (wq (aE 6 fW rfl) rfl (wq (aE 0 dP rfl) rfl ?_)))))))))
 refine wq (aM 0 (.int _ _) aU M4 rfl rfl rfl) rfl (wq (aE 2 kH rfl) rfl (wq (aE 0 dP rfl) rfl (wq (aM 0 (.int _ _) aU M4 rfl rfl rfl) rfl (wq (iD rfl rfl (lH _ (by omega) (by omega))) rfl (wq (aE 6 fW rfl) rfl ?_)))))
 refine wq (aE 1 dJ rfl) rfl (wq (aM 0 (.int _ _) aU M4 rfl rfl rfl) rfl (wq (aE 2 kH rfl) rfl (wq (aE 1 dJ rfl) rfl (wq (aM 0 (.int _ _) aU M4 rfl rfl rfl) rfl (wq (iD rfl rfl (lH _ (by omega) (by omega))) rfl ?_)))))
 refine wq (cI [(0, .int _ _), (1, .int _ _)] _ eL rfl rfl) rfl (bB 2 _ bH M4 rfl rfl rfl rfl rfl (aP rfl) rfl (fun w5 M5 => (aB (aC (aD (bV [(0, 1), (1, 1), (2, 2), (3, 2)] mixed rfl (by kernel_rfl) (fun w6 hb6 hh6 => ?_)))))))
 have M6 := M5.drew hb6 hh6
 refine cB rfl rfl rfl (aY 1 bH M6 rfl rfl rfl) (cB rfl rfl rfl (aY 2 bH M6 rfl rfl rfl) (dR [false, true] rfl (by kernel_rfl) (bB 1 _ bH M6 rfl rfl rfl rfl rfl (aP rfl) rfl (fun w7 M7 => ?_))))
 refine aB (aC ⟨(eQ (bP rfl (aY 2 bH M7 rfl rfl rfl)) dS), ?_⟩)
 refine dR [true] rfl (by kernel_rfl) (bB 2 _ bH M7 rfl rfl rfl rfl rfl (aP rfl) rfl (fun w8 M8 => ?_))
 refine aB (aC ⟨dS, ?_⟩)
 refine cG (aC (aN (aKp 1 2 bH M8 rfl rfl rfl rfl rfl rfl ?_)))
 exact ⟨rfl, M8.below⟩
set_option maxHeartbeats 4000000 in
theorem aFv (w : World) (p q c : Pt) (h : SgI p q) (hc : PtI c) :
  Calls Tryz.prog 244 #[(.agg (cJ p).toArray), (.agg (cJ q).toArray), (.agg (cJ c).toArray)] w (fun ex w' => ∃ v, ex = .returned v ∧ (fun v w' => v = .tuple #[.int .i64 (nT p q c), .int .i64 (lE p q)] ∧ Below w.heap.size w w') v w') := by
 have hD := rG h
 have hx := aOj h hc
 refine aH #[.tmp 6, .tmp 7] 42 Tryz.func244 rfl Tryz.results244 Tryz.ntmps244 rfl ?_
 have M0 := Mem.refl w
 refine aD (aA (bJ (.agg (List.toArray _)) M0 rfl rfl rfl (fun b1 w1 M1 => (bJ (.agg (List.toArray _)) M1 rfl rfl rfl (fun b2 w2 M2 => (bJ (.agg (List.toArray _)) M2 rfl rfl rfl (fun b3 w3 M3 => (bI rfl rfl (bI rfl rfl ?_)))))))))
 refine aB (aC (aD (aA (wq (aY 0 bH M3 rfl rfl rfl) rfl (wq (aY 1 bH M3 rfl rfl rfl) rfl (bY xG rfl rfl (oS _ p q h.hp.i32 h.hq.i32) ?_))))))
 rintro v4 w4 ⟨rfl, hb4⟩
 have M4 := M3.callB hb4
 refine wq (aG (.tuple (List.toArray _)) rfl) rfl (wq (bE (.int _ _) rfl rfl) rfl (wq (bE (.int _ _) rfl rfl) rfl (bI rfl rfl (bI rfl rfl (aB (aC (aD (aA ?_))))))))
 refine wq (aY 0 bH M4 rfl rfl rfl) rfl (wq (aY 2 bH M4 rfl rfl rfl) rfl (bY xG rfl rfl (oS _ p c h.hp.i32 hc.i32) ?_))
 rintro v5 w5 ⟨rfl, hb5⟩
 have M5 := M4.callB hb5
 refine wq (aG (.tuple (List.toArray _)) rfl) rfl (wq (bE (.int _ _) rfl rfl) rfl (wq (bE (.int _ _) rfl rfl) rfl (bI rfl rfl (bI rfl rfl (aB (aC (aD (aA ?_))))))))
 refine aV rfl rfl (aV rfl rfl (wq (fS rfl rfl (by omega) (by omega)) rfl (aV rfl rfl (aV rfl rfl (wq (fS rfl rfl (by omega) (by omega)) rfl ?_)))))
 refine wq (bM rfl rfl (by omega) (by omega)) rfl (aS 30 (.int .i64 (lE p q)) rfl (bI rfl rfl (aB (aC (aD (aA (aV rfl rfl (aV rfl rfl ?_))))))))
 refine wq (fS rfl rfl (by omega) (by omega)) rfl (aV rfl rfl (aV rfl rfl (wq (fS rfl rfl (by omega) (by omega)) rfl (wq (bM rfl rfl (by omega) (by omega)) rfl (aV rfl rfl ?_)))))
 refine wq (wU rfl rfl ) rfl (wq (mY rfl rfl ) rfl (aV rfl rfl (bI rfl rfl (bI rfl rfl (aB (aC (aN ?_)))))))
 refine gV (.int _ _) (.int _ _) rfl rfl ?_
 exact ⟨rfl, M5.below⟩
set_option maxHeartbeats 4000000 in
theorem aAk (w : World) (f a n d : Int) (bn bd : Nat) (ha : -16777216 ≤ a ∧ a ≤ 16777216) (hn : 0 ≤ n) (hnd : n ≤ d) (hd0 : 0 < d) (hd : d ≤ 562949953421312) (h1 : -16777216 ≤ a * n / d ∧ a * n / d ≤ 16777216) (h2 : -1082130432 ≤ f + a * n / d ∧ f + a * n / d ≤ 1082130432) (K1 : Rd w 1 (some ⟨bn, 0, none⟩) 1 [[.int .i64 n]]) (K2 : Rd w 1 (some ⟨bd, 0, none⟩) 1 [[.int .i64 d]]) :
  Calls Tryz.prog 245 #[.int .i32 f, .int .i64 a, .pointer (some ⟨bn, 0, none⟩), .pointer (some ⟨bd, 0, none⟩)] w (fun ex w' => ∃ v, ex = .returned v ∧ (fun v w' => v = .int .i32 (f + a * n / d) ∧ Below w.heap.size w w') v w') := by
 rw [← eO bn, ← eO bd]
 refine aH #[.tmp 6] 20 Tryz.func245 rfl Tryz.results245 Tryz.ntmps245 rfl ?_
 have M0 := Mem.refl w
 refine aD (aA (bI rfl rfl (aB (aC (aD (aA (aV rfl rfl (wq (eH (o := 0) (.int _ _) kR (K1.mem M0) (show ([[.int .i64 n]] : List (List Value))[0]? = some [.int .i64 n] from rfl) rfl rfl) rfl (wq (eH (o := 0) (.int _ _) kR (K2.mem M0) (show ([[.int .i64 d]] : List (List Value))[0]? = some [.int .i64 d] from rfl) rfl rfl) rfl ?_)))))))))
 refine bY aCp rfl rfl (bAy _ a n d (by omega) hn hnd hd0 (by omega)) ?_
 rintro v1 w1 ⟨rfl, hb1⟩
 have M1 := M0.callB hb1
 refine wq (aG (.tuple (List.toArray _)) rfl) rfl (wq (bE (.int _ _) rfl rfl) rfl (wq (bE (.int _ _) rfl rfl) rfl (bI rfl rfl (bI rfl rfl (aB (aC (aD (aA ?_))))))))
 refine aV rfl rfl (aV rfl rfl (wq (bR us2 Tryz.underlying21 rfl (lH _ (by omega) (by omega))) rfl (wq (iD rfl rfl (lH _ (by omega) (by omega))) rfl (bI rfl rfl (aB (aC (aN ?_)))))))
 refine cA (.int _ _) rfl ?_
 exact ⟨rfl, M1.below⟩
set_option maxHeartbeats 4000000 in
theorem jQ (w : World) (p q c : Pt) (h : SgI p q) (hc : PtI c) :
  Calls Tryz.prog 239 #[(.agg (cJ p).toArray), (.agg (cJ q).toArray), (.agg (cJ c).toArray)] w (fun ex w' => ∃ v, ex = .returned v ∧ (fun v w' => v = (.agg (cJ (dQ p q c)).toArray) ∧ Below w.heap.size w w') v w') := by
 have hD := rG h
 have hn := aDo (c := c) h
 have hx := h.x
 have hy := h.y
 refine aH #[.cell 6 38] 40 Tryz.func239 rfl Tryz.results239 Tryz.ntmps239 rfl ?_
 have M0 := Mem.refl w
 refine aD (aA (bJ (.agg (List.toArray _)) M0 rfl rfl rfl (fun b1 w1 M1 => (bJ (.agg (List.toArray _)) M1 rfl rfl rfl (fun b2 w2 M2 => (bJ (.agg (List.toArray _)) M2 rfl rfl rfl (fun b3 w3 M3 => (aQ fY M3 rfl rfl (fun b4 w4 M4 => (aB (aC (aD (aA ?_)))))))))))))
 refine wq (aY 0 bH M4 rfl rfl rfl) rfl (wq (aY 1 bH M4 rfl rfl rfl) rfl (wq (aY 2 bH M4 rfl rfl rfl) rfl (bY bBl rfl rfl (aFv _ p q c h hc) ?_)))
 rintro v5 w5 ⟨rfl, hb5⟩
 have M5 := M4.callB hb5
 refine wq (aG (.tuple (List.toArray _)) rfl) rfl (wq (bE (.int _ _) rfl rfl) rfl (wq (bE (.int _ _) rfl rfl) rfl (aQ yL M5 rfl rfl (fun b6 w6 M6 => (aQ yL M6 rfl rfl (fun b7 w7 M7 => (dF 4 (.int _ _) kR M7 rfl rfl rfl rfl rfl rfl (fun w8 M8 => ?_))))))))
 refine dF 5 (.int _ _) kR M8 rfl rfl rfl rfl rfl rfl (fun w9 M9 => (aB (aC (aD (aD (aA (wq (aM 5 (.int _ _) kR M9 rfl rfl rfl) rfl (cS rfl rfl rfl rfl (aB (aC ?_))))))))))
 refine aX rfl (fun h20 => ?_) (fun h20 => ?_)
 ·refine aD (aA (wq (aY 0 bH M9 rfl rfl rfl) rfl (bB 3 _ bH M9 rfl rfl rfl rfl rfl (aP rfl) rfl (fun w10 M10 => (aB (aC (aN (cH (fP 3 bH M10 rfl rfl rfl ?_)))))))))
  exact ⟨by unfold dQ; first | (rw [if_pos h20]; rfl) | (rw [if_neg h20]; rfl), M10.below⟩
 ·have hnr := aEf (c := c) h h20
  refine aL (aC (aD (aA (wq (cM [] [.pointer _, .pointer _] rfl rfl) rfl (wq (aI (.func _ _ _) rfl) rfl (aB (aC (aD (aA (wq (aY 0 bH M9 rfl rfl rfl) rfl (wq (aY 1 bH M9 rfl rfl rfl) rfl ?_)))))))))))
  refine bY xG rfl rfl (oS _ p q h.hp.i32 h.hq.i32) ?_
  rintro v11 w11 ⟨rfl, hb11⟩
  have M11 := M9.callB hb11
  refine wq (aG (.tuple (List.toArray _)) rfl) rfl (wq (bE (.int _ _) rfl rfl) rfl (wq (bE (.int _ _) rfl rfl) rfl (bI rfl rfl (bI rfl rfl (aB (aC (aD ?_)))))))
  refine bV [(0, 0), (1, 0), (2, 1), (3, 0), (5, 0), (6, 0), (7, 1), (8, 0), (4, 2), (9, 2), (10, 0), (11, 2)] mixed rfl (by kernel_rfl) (fun w12 hb12 hh12 => ?_)
  have M12 := M11.drew hb12 hh12
  refine aZ rfl rfl rfl (fun _ => aG (.func _ _ _) rfl) (aZ rfl rfl rfl (fun _ => aE 0 dP rfl) (cB rfl rfl rfl (aM 0 (.int _ _) aU M12 rfl rfl rfl) (iB rfl rfl rfl (aZ rfl rfl rfl (fun _ => aG (.func _ _ _) rfl) (aZ rfl rfl rfl (fun _ => aE 1 dJ rfl) ?_)))))
  refine cB rfl rfl rfl (aM 0 (.int _ _) aU M12 rfl rfl rfl) (iB rfl rfl rfl (dR [false, true] rfl (by kernel_rfl) (bY aRc rfl rfl (aAk _ p.1 (q.1 - p.1) (nT p q c) (lE p q) b6 b7 (by omega) hn.1 hn.2 (by omega) (by omega) hnr.1.1 hnr.1.2 (lJ 4 M12 rfl rfl) (lJ 5 M12 rfl rfl)) ?_)))
  rintro v13 w13 ⟨rfl, hb13⟩
  have M13 := M12.callB hb13
  refine aB (aC ⟨(eQ (bP rfl (aM 0 (.int _ _) aU M13 rfl rfl rfl)) dS), ?_⟩)
  refine dR [true] rfl (by kernel_rfl) (bY aRc rfl rfl (aAk _ p.2 (q.2 - p.2) (nT p q c) (lE p q) b6 b7 (by omega) hn.1 hn.2 (by omega) (by omega) hnr.2.1 hnr.2.2 (lJ 4 M13 rfl rfl) (lJ 5 M13 rfl rfl)) ?_)
  rintro v14 w14 ⟨rfl, hb14⟩
  have M14 := M13.callB hb14
  refine aB (aC ⟨dS, ?_⟩)
  refine aZ rfl rfl rfl (fun _ => cI [(0, .int _ _), (1, .int _ _)] _ eL rfl rfl) (dR [] rfl (by kernel_rfl) (bB 3 _ bH M14 rfl rfl rfl rfl rfl (aP rfl) rfl (fun w15 M15 => ?_)))
  refine aB (aC ⟨dS, ?_⟩)
  refine cG (aC (aN (fP 3 bH M15 rfl rfl rfl ?_)))
  exact ⟨by unfold dQ; first | (rw [if_pos h20]; rfl) | (rw [if_neg h20]; rfl), M15.below⟩
set_option maxHeartbeats 4000000 in
theorem vD (w : World) (s : Ch) (x y : Pt) (ba bb bl : Nat) (hx : PtI x) (hy : PtI y) (hO : Own [(some ba, bc (cJ s.1) 38), (some bb, bc (cJ s.2.1) 38), (some bl, bc [.int .u64 (s.2.2 : Int)] 170)] w) :
  Calls Tryz.prog 238 #[(.agg (cJ x).toArray), (.agg (cJ y).toArray), .pointer (some ⟨bl, 0, none⟩), .pointer (some ⟨ba, 0, none⟩), .pointer (some ⟨bb, 0, none⟩)] w (fun ex w' => ∃ v, ex = .returned v ∧ (fun v w' => v = .tuple #[] ∧ Mem w (bQ [(some ba, bc (cJ s.1) 38), (some bb, bc (cJ s.2.1) 38), (some bl, bc [.int .u64 (s.2.2 : Int)] 170)]) [(some ba, bc (cJ (fI s x y).1) 38), (some bb, bc (cJ (fI s x y).2.1) 38), (some bl, bc [.int .u64 ((fI s x y).2.2 : Int)] 170)] w') v w') := by
 refine aH #[] 20 Tryz.func238 rfl Tryz.results238 Tryz.ntmps238 rfl ?_
 have M0 := hO.mem
 refine aD (aA (bJ (.agg (List.toArray _)) M0 rfl rfl rfl (fun b1 w1 M1 => (bJ (.agg (List.toArray _)) M1 rfl rfl rfl (fun b2 w2 M2 => (aB (aC (aD (aA (wq (aY 3 bH M2 rfl rfl rfl) rfl (wq (aY 4 bH M2 rfl rfl rfl) rfl ?_)))))))))))
 refine bY xG rfl rfl (oS _ x y hx.i32 hy.i32) ?_
 rintro v3 w3 ⟨rfl, hb3⟩
 have M3 := M2.callB hb3
 refine wq (bE (.int _ _) rfl rfl) rfl (wq (bE (.int _ _) rfl rfl) rfl (bY aIk rfl rfl (nB _ (y.1 - x.1) (y.2 - x.2) (hx.inX hy) (hx.inY hy)) ?_))
 rintro v4 w4 ⟨rfl, hb4⟩
 have M4 := M3.callB hb4
 refine bI rfl rfl (aB (aC (aD (aA (aV rfl rfl (wq (aM 2 (.int _ _) oN M4 rfl rfl rfl) rfl (cS rfl rfl rfl rfl (aB (aC ?_)))))))))
 refine aX rfl (fun h16 => ?_) (fun h16 => ?_)
 ·refine bV [(0, 1), (1, 1), (2, 0), (3, 2), (4, 2), (5, 2)] mixed rfl (by kernel_rfl) (fun w5 hb5 hh5 => ?_)
  have M5 := M4.drew hb5 hh5
  refine cB rfl rfl rfl (aY 3 bH M5 rfl rfl rfl) (cB rfl rfl rfl (aY 4 bH M5 rfl rfl rfl) (iB rfl rfl rfl (dR [false, true] rfl (by kernel_rfl) (bB 0 _ bH M5 rfl rfl rfl rfl rfl (aP rfl) rfl (fun w6 M6 => ?_)))))
  refine aB (aC ⟨(eQ (bP rfl (aY 4 bH M6 rfl rfl rfl)) dS), ?_⟩)
  refine dR [true] rfl (by kernel_rfl) (bB 1 _ bH M6 rfl rfl rfl rfl rfl (aP rfl) rfl (fun w7 M7 => ?_))
  refine aB (aC ⟨dS, ?_⟩)
  refine dR [] rfl (by kernel_rfl) (dF 2 (.int _ _) oN M7 rfl rfl rfl rfl rfl rfl (fun w8 M8 => ?_))
  refine aB (aC ⟨dS, ?_⟩)
  refine cG (iI ?_)
  exact ⟨rfl, by unfold fI; first | (rw [if_pos (by omega)]; exact M8.keep [true, true, true, false, false]) | (rw [if_neg (by omega)]; exact M8.keep [true, true, true, false, false])⟩
 ·refine aL (iI ?_)
  exact ⟨rfl, by unfold fI; first | (rw [if_pos (by omega)]; exact M4.keep [true, true, true, false, false]) | (rw [if_neg (by omega)]; exact M4.keep [true, true, true, false, false])⟩
set_option maxHeartbeats 8000000 in
theorem aIp (w : World) (ap aq bp bq : Pt) (h1 : SgI ap aq) (h2 : SgI bp bq) :
  Calls Tryz.prog 221 #[(.agg (cJ ap).toArray), (.agg (cJ aq).toArray), (.agg (cJ bp).toArray), (.agg (cJ bq).toArray)] w (fun ex w' => ∃ v, ex = .returned v ∧ (fun v w' => v = .tuple #[(.agg (cJ (oU ap aq bp bq).1).toArray), (.agg (cJ (oU ap aq bp bq).2.1).toArray), .int .u64 ((oU ap aq bp bq).2.2 : Int)] ∧ Below w.heap.size w w') v w') := by
 refine aH #[.cell 8 38, .cell 9 38, .cell 10 170] 48 Tryz.func221 rfl Tryz.results221 Tryz.ntmps221 rfl ?_
 have M0 := Mem.refl w
 refine aD (aA (bJ (.agg (List.toArray _)) M0 rfl rfl rfl (fun b1 w1 M1 => (bJ (.agg (List.toArray _)) M1 rfl rfl rfl (fun b2 w2 M2 => (bJ (.agg (List.toArray _)) M2 rfl rfl rfl (fun b3 w3 M3 => (bJ (.agg (List.toArray _)) M3 rfl rfl rfl (fun b4 w4 M4 => (aQ fY M4 rfl rfl (fun b5 w5 M5 => ?_)))))))))))
 refine aQ fY M5 rfl rfl (fun b6 w6 M6 => (aQ aUc M6 rfl rfl (fun b7 w7 M7 => (aB (aC (aD (aA (dF 6 (.int _ _) oN M7 rfl rfl rfl rfl rfl rfl (fun w8 M8 => (aB (aC (aD (aA ?_)))))))))))))
 obtain ⟨s, hS⟩ : ∃ z, z = ch0 := ⟨_, rfl⟩
 have hC : ChI s := by rw [hS]; exact aQa
 have M9 : Mem _ _ [_, _, _, _, (some b5, bc (cJ ch0.1) 38), (some b6, bc (cJ ch0.2.1) 38), (some b7, bc [.int .u64 (ch0.2.2 : Int)] 170)] _ := M8
 rw [← hS] at M9
 refine wq (cM [] [.pointer _, .pointer _, .pointer _] rfl rfl) rfl (wq (aI (.func _ _ _) rfl) rfl (aB (aC (aD (aD (aA (wq (aY 0 bH M9 rfl rfl rfl) rfl (wq (aY 1 bH M9 rfl rfl rfl) rfl (wq (nZ [.agg (List.toArray _), .agg (List.toArray _)] tD aKu rfl rfl (dG rfl)) rfl ?_)))))))))
 refine aV rfl rfl (aB (aC (aT (kX 3 (gL (aD (aA (cS rfl rfl rfl rfl (lQ 21 rfl (by first | decide | omega) ?_)))))))))
 refine aB (aC (aD (cO rfl (aL (aC (aD (aT (aD (aA (wq (lX 0 _ tD bH rfl rfl (by decide) (by decide) rfl rfl) rfl (aQ fY M9 rfl rfl (fun b10 w10 M10 => (bB 7 _ bH M10 rfl rfl rfl rfl rfl (aP rfl) rfl (fun w11 M11 => ?_))))))))))))))
 refine aB (aC (bV [(0, 0), (1, 1), (2, 1), (3, 1), (4, 1), (5, 2), (6, 2)] mixed rfl (by kernel_rfl) (fun w12 hb12 hh12 => ?_)))
 have M12 := M11.drew hb12 hh12
 refine aZ rfl rfl rfl (fun _ => aG (.func _ _ _) rfl) (cB rfl rfl rfl (aY 7 bH M12 rfl rfl rfl) (cB rfl rfl rfl (aY 2 bH M12 rfl rfl rfl) (cB rfl rfl rfl (aY 3 bH M12 rfl rfl rfl) (cB rfl rfl rfl (aY 7 bH M12 rfl rfl rfl) (dR [true, true, true, false] rfl (by kernel_rfl) ?_)))))
 refine bY aCl rfl rfl (jQ _ bp bq ap h2 h1.hp) ?_
 rintro v13 w13 ⟨rfl, hb13⟩
 have M13 := M12.callB hb13
 refine aB (aC ⟨(eQ (bP rfl (aY 7 bH M13 rfl rfl rfl)) dS), ?_⟩)
 refine dR [true] rfl (by kernel_rfl) (bY aCk rfl rfl (vD _ s ap (dQ bp bq ap) _ _ _ h1.hp (eP h2) (M13.ownSeg 4 3)) ?_)
 rintro v14 w14 ⟨rfl, hM14⟩
 have M14 : Mem _ _ [_, _, _, _, _, _, _, _] _ := M13.seg 4 3 hM14
 obtain ⟨s, hs⟩ : ∃ z, z = fI s ap (dQ bp bq ap) := ⟨_, rfl⟩
 rw [← hs] at M14
 replace hC := hC.step (x := ap) (y := (dQ bp bq ap)) h1.hp (eP h2)
 rw [← hs] at hC
 replace hS := hs.trans (congrArg (fun z => fI z ap (dQ bp bq ap)) hS)
 refine aB (aC ⟨dS, ?_⟩)
 refine cG (cV (aC (aA (wq (bM rfl rfl (by first | decide | omega) (by first | decide | omega)) rfl (aS 30 (.int .i64 1) (iE (by first | decide | omega)) (aV rfl rfl ?_))))))
 refine aB (aC (gL (aD (aA (cS rfl rfl rfl rfl (lQ 21 rfl (by first | decide | omega) (aB (aC (aD ?_)))))))))
 refine cO rfl (aL (aC (aD (aT (aD (aA (wq (lX 1 _ tD bH rfl rfl (by decide) (by decide) rfl rfl) rfl (aQ fY M14 rfl rfl (fun b15 w15 M15 => (bB 8 _ bH M15 rfl rfl rfl rfl rfl (aP rfl) rfl (fun w16 M16 => (aB (aC ?_)))))))))))))
 refine bV [(0, 0), (1, 1), (2, 1), (3, 1), (4, 1), (5, 2), (6, 2)] mixed rfl (by kernel_rfl) (fun w17 hb17 hh17 => ?_)
 have M17 := M16.drew hb17 hh17
 refine aZ rfl rfl rfl (fun _ => aG (.func _ _ _) rfl) (cB rfl rfl rfl (aY 8 bH M17 rfl rfl rfl) (cB rfl rfl rfl (aY 2 bH M17 rfl rfl rfl) (cB rfl rfl rfl (aY 3 bH M17 rfl rfl rfl) (cB rfl rfl rfl (aY 8 bH M17 rfl rfl rfl) (dR [true, true, true, false] rfl (by kernel_rfl) ?_)))))
 refine bY aCl rfl rfl (jQ _ bp bq aq h2 h1.hq) ?_
 rintro v18 w18 ⟨rfl, hb18⟩
 have M18 := M17.callB hb18
 refine aB (aC ⟨(eQ (bP rfl (aY 8 bH M18 rfl rfl rfl)) dS), ?_⟩)
 refine dR [true] rfl (by kernel_rfl) (bY aCk rfl rfl (vD _ s aq (dQ bp bq aq) _ _ _ h1.hq (eP h2) (M18.ownSeg 4 3)) ?_)
 rintro v19 w19 ⟨rfl, hM19⟩
 have M19 : Mem _ _ [_, _, _, _, _, _, _, _, _] _ := M18.seg 4 3 hM19
 obtain ⟨s, hs⟩ : ∃ z, z = fI s aq (dQ bp bq aq) := ⟨_, rfl⟩
 rw [← hs] at M19
 replace hC := hC.step (x := aq) (y := (dQ bp bq aq)) h1.hq (eP h2)
 rw [← hs] at hC
 replace hS := hs.trans (congrArg (fun z => fI z aq (dQ bp bq aq)) hS)
 refine aB (aC ⟨dS, ?_⟩)
 refine cG (cV (aC (aA (wq (bM rfl rfl (by first | decide | omega) (by first | decide | omega)) rfl (aS 30 (.int .i64 2) (iE (by first | decide | omega)) (aV rfl rfl ?_))))))
 refine aB (aC (gL (aD (aA (cS rfl rfl rfl rfl (uH 21 rfl (by first | decide | omega) (aB (aC (aD ?_)))))))))
 refine cC rfl (cN (dB (dB (eZ (aC (aD (aD (aA (wq (aY 2 bH M19 rfl rfl rfl) rfl ?_)))))))))
 refine wq (aY 3 bH M19 rfl rfl rfl) rfl (wq (nZ [.agg (List.toArray _), .agg (List.toArray _)] tD aKu rfl rfl (dG rfl)) rfl (aV rfl rfl (aB (aC (aT (kX 3 (gL (aD (aA ?_)))))))))
 refine cS rfl rfl rfl rfl (lQ 35 rfl (by first | decide | omega) (aB (aC (aD (cO rfl (aL (aC (aD (aT (aD (aA (wq (lX 0 _ tD bH rfl rfl (by decide) (by decide) rfl rfl) rfl ?_))))))))))))
 refine aQ fY M19 rfl rfl (fun b20 w20 M20 => (bB 9 _ bH M20 rfl rfl rfl rfl rfl (aP rfl) rfl (fun w21 M21 => (aB (aC (bV [(0, 0), (1, 1), (2, 1), (3, 1), (5, 1), (4, 2), (6, 2)] mixed rfl (by kernel_rfl) (fun w22 hb22 hh22 => ?_)))))))
 have M22 := M21.drew hb22 hh22
 refine aZ rfl rfl rfl (fun _ => aG (.func _ _ _) rfl) (cB rfl rfl rfl (aY 0 bH M22 rfl rfl rfl) (cB rfl rfl rfl (aY 1 bH M22 rfl rfl rfl) (cB rfl rfl rfl (aY 9 bH M22 rfl rfl rfl) (cB rfl rfl rfl (aY 9 bH M22 rfl rfl rfl) (dR [false, true, true, true] rfl (by kernel_rfl) ?_)))))
 refine bY aCl rfl rfl (jQ _ ap aq bp h1 h2.hp) ?_
 rintro v23 w23 ⟨rfl, hb23⟩
 have M23 := M22.callB hb23
 refine aB (aC ⟨(eQ (bP rfl (aY 9 bH M23 rfl rfl rfl)) dS), ?_⟩)
 refine dR [true] rfl (by kernel_rfl) (bY aCk rfl rfl (vD _ s (dQ ap aq bp) bp _ _ _ (eP h1) h2.hp (M23.ownSeg 4 3)) ?_)
 rintro v24 w24 ⟨rfl, hM24⟩
 have M24 : Mem _ _ [_, _, _, _, _, _, _, _, _, _] _ := M23.seg 4 3 hM24
 obtain ⟨s, hs⟩ : ∃ z, z = fI s (dQ ap aq bp) bp := ⟨_, rfl⟩
 rw [← hs] at M24
 replace hC := hC.step (x := (dQ ap aq bp)) (y := bp) (eP h1) h2.hp
 rw [← hs] at hC
 replace hS := hs.trans (congrArg (fun z => fI z (dQ ap aq bp) bp) hS)
 refine aB (aC ⟨dS, ?_⟩)
 refine cG (cV (aC (aA (wq (bM rfl rfl (by first | decide | omega) (by first | decide | omega)) rfl (aS 44 (.int .i64 1) (iE (by first | decide | omega)) (aV rfl rfl ?_))))))
 refine aB (aC (gL (aD (aA (cS rfl rfl rfl rfl (lQ 35 rfl (by first | decide | omega) (aB (aC (aD ?_)))))))))
 refine cO rfl (aL (aC (aD (aT (aD (aA (wq (lX 1 _ tD bH rfl rfl (by decide) (by decide) rfl rfl) rfl (aQ fY M24 rfl rfl (fun b25 w25 M25 => (bB 10 _ bH M25 rfl rfl rfl rfl rfl (aP rfl) rfl (fun w26 M26 => (aB (aC ?_)))))))))))))
 refine bV [(0, 0), (1, 1), (2, 1), (3, 1), (5, 1), (4, 2), (6, 2)] mixed rfl (by kernel_rfl) (fun w27 hb27 hh27 => ?_)
 have M27 := M26.drew hb27 hh27
 refine aZ rfl rfl rfl (fun _ => aG (.func _ _ _) rfl) (cB rfl rfl rfl (aY 0 bH M27 rfl rfl rfl) (cB rfl rfl rfl (aY 1 bH M27 rfl rfl rfl) (cB rfl rfl rfl (aY 10 bH M27 rfl rfl rfl) (cB rfl rfl rfl (aY 10 bH M27 rfl rfl rfl) (dR [false, true, true, true] rfl (by kernel_rfl) ?_)))))
 refine bY aCl rfl rfl (jQ _ ap aq bq h1 h2.hq) ?_
 rintro v28 w28 ⟨rfl, hb28⟩
 have M28 := M27.callB hb28
 refine aB (aC ⟨(eQ (bP rfl (aY 10 bH M28 rfl rfl rfl)) dS), ?_⟩)
 refine dR [true] rfl (by kernel_rfl) (bY aCk rfl rfl (vD _ s (dQ ap aq bq) bq _ _ _ (eP h1) h2.hq (M28.ownSeg 4 3)) ?_)
 rintro v29 w29 ⟨rfl, hM29⟩
 have M29 : Mem _ _ [_, _, _, _, _, _, _, _, _, _, _] _ := M28.seg 4 3 hM29
 obtain ⟨s, hs⟩ : ∃ z, z = fI s (dQ ap aq bq) bq := ⟨_, rfl⟩
 rw [← hs] at M29
 replace hC := hC.step (x := (dQ ap aq bq)) (y := bq) (eP h1) h2.hq
 rw [← hs] at hC
 replace hS := hs.trans (congrArg (fun z => fI z (dQ ap aq bq) bq) hS)
 refine aB (aC ⟨dS, ?_⟩)
 refine cG (cV (aC (aA (wq (bM rfl rfl (by first | decide | omega) (by first | decide | omega)) rfl (aS 44 (.int .i64 2) (iE (by first | decide | omega)) (aV rfl rfl ?_))))))
 refine aB (aC (gL (aD (aA (cS rfl rfl rfl rfl (uH 35 rfl (by first | decide | omega) (aB (aC (aD ?_)))))))))
 refine cC rfl (cN (dB (dB (eZ (aC (aD (bV [(0, 1), (1, 1), (2, 1), (3, 2), (4, 2), (5, 2)] mixed rfl (by kernel_rfl) (fun w30 hb30 hh30 => ?_))))))))
 have M30 := M29.drew hb30 hh30
 refine cB rfl rfl rfl (aY 4 bH M30 rfl rfl rfl) (cB rfl rfl rfl (aY 5 bH M30 rfl rfl rfl) (cB rfl rfl rfl (aM 6 (.int _ _) oN M30 rfl rfl rfl) (dR [false, false, true] rfl (by kernel_rfl) (bB 4 _ bH M30 rfl rfl rfl rfl rfl (aP rfl) rfl (fun w31 M31 => ?_)))))
 refine aB (aC ⟨(eQ (bP rfl (aM 6 (.int _ _) oN M31 rfl rfl rfl)) (eQ (bP rfl (aY 5 bH M31 rfl rfl rfl)) dS)), ?_⟩)
 refine dR [false, true] rfl (by kernel_rfl) (bB 5 _ bH M31 rfl rfl rfl rfl rfl (aP rfl) rfl (fun w32 M32 => ?_))
 refine aB (aC ⟨(eQ (bP rfl (aM 6 (.int _ _) oN M32 rfl rfl rfl)) dS), ?_⟩)
 refine dR [true] rfl (by kernel_rfl) (dF 6 (.int _ _) oN M32 rfl rfl rfl rfl rfl rfl (fun w33 M33 => ?_))
 refine aB (aC ⟨dS, ?_⟩)
 refine cG (aC (aN (bCa 4 5 6 bH oN M33 rfl rfl rfl rfl rfl rfl rfl rfl ?_)))
 exact ⟨by rw [show s = oU ap aq bp bq from hS], M33.below⟩
set_option maxHeartbeats 4000000 in
theorem aJo (w : World) (ap aq bp bq : Pt) (h1 : SgI ap aq) (h2 : SgI bp bq) :
  Calls Tryz.prog 199 #[(.agg (cJ ap).toArray), (.agg (cJ aq).toArray), (.agg (cJ bp).toArray), (.agg (cJ bq).toArray)] w (fun ex w' => ∃ v, ex = .returned v ∧ (fun v w' => v = .tuple #[(.agg (cJ (oU ap aq bp bq).1).toArray), (.agg (cJ (oU ap aq bp bq).2.1).toArray)] ∧ Below w.heap.size w w') v w') := by
 refine aH #[.cell 8 38, .cell 9 38] 21 Tryz.func199 rfl Tryz.results199 Tryz.ntmps199 rfl ?_
 have M0 := Mem.refl w
 refine aD (aA (bJ (.agg (List.toArray _)) M0 rfl rfl rfl (fun b1 w1 M1 => (bJ (.agg (List.toArray _)) M1 rfl rfl rfl (fun b2 w2 M2 => (bJ (.agg (List.toArray _)) M2 rfl rfl rfl (fun b3 w3 M3 => (bJ (.agg (List.toArray _)) M3 rfl rfl rfl (fun b4 w4 M4 => (aQ fY M4 rfl rfl (fun b5 w5 M5 => ?_)))))))))))
 refine aQ fY M5 rfl rfl (fun b6 w6 M6 => (aB (aC (aD (aA (wq (aY 0 bH M6 rfl rfl rfl) rfl (wq (aY 1 bH M6 rfl rfl rfl) rfl (wq (aY 2 bH M6 rfl rfl rfl) rfl (wq (aY 3 bH M6 rfl rfl rfl) rfl ?_)))))))))
 refine bY bCj rfl rfl (aIp _ ap aq bp bq h1 h2) ?_
 rintro v7 w7 ⟨rfl, hb7⟩
 have M7 := M6.callB hb7
 refine wq (aG (.tuple (List.toArray _)) rfl) rfl (wq (bE (.agg (List.toArray _)) rfl rfl) rfl (wq (bE (.agg (List.toArray _)) rfl rfl) rfl (wq (bE (.int _ _) rfl rfl) rfl (bB 4 _ bH M7 rfl rfl rfl rfl rfl (aP rfl) rfl (fun w8 M8 => (bB 5 _ bH M8 rfl rfl rfl rfl rfl (aP rfl) rfl (fun w9 M9 => ?_)))))))
 refine aB (aC (aD (bV [(0, 1), (1, 1), (2, 2), (3, 2)] mixed rfl (by kernel_rfl) (fun w10 hb10 hh10 => ?_))))
 have M10 := M9.drew hb10 hh10
 refine cB rfl rfl rfl (aY 4 bH M10 rfl rfl rfl) (cB rfl rfl rfl (aY 5 bH M10 rfl rfl rfl) (dR [false, true] rfl (by kernel_rfl) (bB 4 _ bH M10 rfl rfl rfl rfl rfl (aP rfl) rfl (fun w11 M11 => ?_))))
 refine aB (aC ⟨(eQ (bP rfl (aY 5 bH M11 rfl rfl rfl)) dS), ?_⟩)
 refine dR [true] rfl (by kernel_rfl) (bB 5 _ bH M11 rfl rfl rfl rfl rfl (aP rfl) rfl (fun w12 M12 => ?_))
 refine aB (aC ⟨dS, ?_⟩)
 refine cG (aC (aN (aKp 4 5 bH M12 rfl rfl rfl rfl rfl rfl ?_)))
 exact ⟨rfl, M12.below⟩
set_option maxHeartbeats 4000000 in
theorem vG (w : World) (b : Body) (hb : Okb b) :
  Calls Tryz.prog 198 #[(.agg (aF b).toArray)] w (fun ex w' => ∃ v, ex = .returned v ∧ (fun v w' => v = (.agg (lD b).toArray) ∧ Below w.heap.size w w') v w') := by
 refine aH #[.cell 2 239] 14 Tryz.func198 rfl Tryz.results198 Tryz.ntmps198 rfl ?_
 have M0 := Mem.refl w
 refine aD (aA (bJ (.agg (List.toArray _)) M0 rfl rfl rfl (fun b1 w1 M1 => (aQ rN M1 rfl rfl (fun b2 w2 M2 => (aB (aC (aD (aA (wq (aY 0 bL M2 rfl rfl rfl) rfl (bY bAa rfl rfl (aOi _ b hb) ?_)))))))))))
 rintro v3 w3 ⟨rfl, hb3⟩
 have M3 := M2.callB hb3
 refine wq (aG (.tuple (List.toArray _)) rfl) rfl (wq (bE (.agg (List.toArray _)) rfl rfl) rfl (wq (bE (.agg (List.toArray _)) rfl rfl) rfl (aQ fY M3 rfl rfl (fun b4 w4 M4 => (aQ fY M4 rfl rfl (fun b5 w5 M5 => (bB 2 _ bH M5 rfl rfl rfl rfl rfl (aP rfl) rfl (fun w6 M6 => ?_))))))))
 refine bB 3 _ bH M6 rfl rfl rfl rfl rfl (aP rfl) rfl (fun w7 M7 => (aB (aC (aD (aA (wq (aY 0 bL M7 rfl rfl rfl) rfl (wq (aY 2 bH M7 rfl rfl rfl) rfl (wq (aY 3 bH M7 rfl rfl rfl) rfl (wq (cI [(0, .agg (List.toArray _)), (1, .agg (List.toArray _)), (2, .agg (List.toArray _))] _ aNh rfl rfl) rfl ?_)))))))))
 refine bB 1 _ jX M7 rfl rfl rfl rfl rfl (aP rfl) rfl (fun w8 M8 => (aB (aC (aN (fP 1 jX M8 rfl rfl rfl ?_)))))
 exact ⟨rfl, M8.below⟩
set_option maxHeartbeats 4000000 in
theorem aXg (w : World) (a b : Body) (ha : Okb a) (hb : Okb b) :
  Calls Tryz.prog 171 #[(.agg (aF a).toArray), (.agg (aF b).toArray)] w (fun ex w' => ∃ v, ex = .returned v ∧ (fun v w' => v = .tuple #[(.agg (lD (loB a b)).toArray), (.agg (lD (hiB a b)).toArray)] ∧ Below w.heap.size w w') v w') := by
 refine aH #[.cell 4 239, .cell 5 239] 17 Tryz.func171 rfl Tryz.results171 Tryz.ntmps171 rfl ?_
 have M0 := Mem.refl w
 refine aD (aA (bJ (.agg (List.toArray _)) M0 rfl rfl rfl (fun b1 w1 M1 => (bJ (.agg (List.toArray _)) M1 rfl rfl rfl (fun b2 w2 M2 => (aQ rN M2 rfl rfl (fun b3 w3 M3 => (aQ rN M3 rfl rfl (fun b4 w4 M4 => (aB (aC (aD (aD (aA ?_))))))))))))))
 refine wq (aE 0 eJ rfl) rfl (wq (aM 0 (.int _ _) bU M4 rfl rfl rfl) rfl (wq (aE 0 eJ rfl) rfl (wq (aM 1 (.int _ _) bU M4 rfl rfl rfl) rfl (cS rfl rfl rfl rfl (aB (aC ?_))))))
 refine aX rfl (fun h10 => ?_) (fun h10 => ?_)
 ·refine aA (wq (aY 1 bL M4 rfl rfl rfl) rfl (wq (aY 0 bL M4 rfl rfl rfl) rfl (bB 0 _ bL M4 rfl rfl rfl rfl rfl (aP rfl) rfl (fun w5 M5 => (bB 1 _ bL M5 rfl rfl rfl rfl rfl (aP rfl) rfl (fun w6 M6 => (aB (aC (aD ?_)))))))))
  refine bV [(0, 1), (2, 1), (1, 2), (3, 2), (4, 2), (5, 2)] mixed rfl (by kernel_rfl) (fun w7 hb7 hh7 => ?_)
  have M7 := M6.drew hb7 hh7
  refine cB rfl rfl rfl (aY 0 bL M7 rfl rfl rfl) (cB rfl rfl rfl (aY 1 bL M7 rfl rfl rfl) (dR [false, true] rfl (by kernel_rfl) (bY aCb rfl rfl (vG _ b hb) ?_)))
  rintro v8 w8 ⟨rfl, hb8⟩
  have M8 := M7.callB hb8
  refine aB (aC ⟨(eQ (bP rfl (aY 1 bL M8 rfl rfl rfl)) dS), ?_⟩)
  refine dR [true] rfl (by kernel_rfl) (bY aCb rfl rfl (vG _ a ha) ?_)
  rintro v9 w9 ⟨rfl, hb9⟩
  have M9 := M8.callB hb9
  refine aB (aC ⟨dS, ?_⟩)
  refine dR [] rfl (by kernel_rfl) (bB 2 _ jX M9 rfl rfl rfl rfl rfl (aP rfl) rfl (fun w10 M10 => ?_))
  refine aB (aC ⟨dS, ?_⟩)
  refine dR [] rfl (by kernel_rfl) (bB 3 _ jX M10 rfl rfl rfl rfl rfl (aP rfl) rfl (fun w11 M11 => ?_))
  refine aB (aC ⟨dS, ?_⟩)
  refine cG (aC (aN (aKp 2 3 jX M11 rfl rfl rfl rfl rfl rfl ?_)))
  exact ⟨by unfold loB hiB; first | rw [if_pos (by omega), if_pos (by omega)] | rw [if_neg (by omega), if_neg (by omega)], M11.below⟩
 ·refine aL (aC (aD (bV [(0, 1), (2, 1), (1, 2), (3, 2), (4, 2), (5, 2)] mixed rfl (by kernel_rfl) (fun w12 hb12 hh12 => ?_))))
  have M12 := M4.drew hb12 hh12
  refine cB rfl rfl rfl (aY 0 bL M12 rfl rfl rfl) (cB rfl rfl rfl (aY 1 bL M12 rfl rfl rfl) (dR [false, true] rfl (by kernel_rfl) (bY aCb rfl rfl (vG _ a ha) ?_)))
  rintro v13 w13 ⟨rfl, hb13⟩
  have M13 := M12.callB hb13
  refine aB (aC ⟨(eQ (bP rfl (aY 1 bL M13 rfl rfl rfl)) dS), ?_⟩)
  refine dR [true] rfl (by kernel_rfl) (bY aCb rfl rfl (vG _ b hb) ?_)
  rintro v14 w14 ⟨rfl, hb14⟩
  have M14 := M13.callB hb14
  refine aB (aC ⟨dS, ?_⟩)
  refine dR [] rfl (by kernel_rfl) (bB 2 _ jX M14 rfl rfl rfl rfl rfl (aP rfl) rfl (fun w15 M15 => ?_))
  refine aB (aC ⟨dS, ?_⟩)
  refine dR [] rfl (by kernel_rfl) (bB 3 _ jX M15 rfl rfl rfl rfl rfl (aP rfl) rfl (fun w16 M16 => ?_))
  refine aB (aC ⟨dS, ?_⟩)
  refine cG (aC (aN (aKp 2 3 jX M16 rfl rfl rfl rfl rfl rfl ?_)))
  exact ⟨by unfold loB hiB; first | rw [if_pos (by omega), if_pos (by omega)] | rw [if_neg (by omega), if_neg (by omega)], M16.below⟩
set_option maxHeartbeats 4000000 in
theorem aWt (w : World) (a b : Body) (ha : Okb a) (hb : Okb b) :
  Calls Tryz.prog 172 #[(.agg (lD a).toArray), (.agg (lD b).toArray)] w (fun ex w' => ∃ v, ex = .returned v ∧ (fun v w' => v = .tuple #[.int .i64 (wN (uY a b)), .int .i64 (yP (uY a b)), .int .i64 (a.radius + b.radius)] ∧ Below w.heap.size w w') v w') := by
 have hra := ha.r
 have hrb := hb.r
 have hch := yS ha hb
 refine aH #[.tmp 4, .tmp 5, .tmp 6] 38 Tryz.func172 rfl Tryz.results172 Tryz.ntmps172 rfl ?_
 have M0 := Mem.refl w
 refine aD (aA (bJ (.agg (List.toArray _)) M0 rfl rfl rfl (fun b1 w1 M1 => (bJ (.agg (List.toArray _)) M1 rfl rfl rfl (fun b2 w2 M2 => (bI rfl rfl (bI rfl rfl (bI rfl rfl ?_))))))))
 refine aB (aC (aD (aA (wq (aE 10 aFx rfl) rfl (wq (oB 0 _ bH M2 rfl rfl rfl rfl) rfl (wq (aE 12 aFb rfl) rfl (wq (oB 0 _ bH M2 rfl rfl rfl rfl) rfl (wq (aE 10 aFx rfl) rfl ?_))))))))
 refine wq (oB 1 _ bH M2 rfl rfl rfl rfl) rfl (wq (aE 12 aFb rfl) rfl (wq (oB 1 _ bH M2 rfl rfl rfl rfl) rfl (bY aZd rfl rfl (aJo _ (aGn a) (aEa a) (aGn b) (aEa b) (vC ha) (vC hb)) ?_)))
 rintro v3 w3 ⟨rfl, hb3⟩
 have M3 := M2.callB hb3
 refine wq (aG (.tuple (List.toArray _)) rfl) rfl (wq (bE (.agg (List.toArray _)) rfl rfl) rfl (wq (bE (.agg (List.toArray _)) rfl rfl) rfl (aQ fY M3 rfl rfl (fun b4 w4 M4 => (aQ fY M4 rfl rfl (fun b5 w5 M5 => (bB 2 _ bH M5 rfl rfl rfl rfl rfl (aP rfl) rfl (fun w6 M6 => ?_))))))))
 refine bB 3 _ bH M6 rfl rfl rfl rfl rfl (aP rfl) rfl (fun w7 M7 => (aB (aC (aD (aA (wq (aY 2 bH M7 rfl rfl rfl) rfl (wq (aY 3 bH M7 rfl rfl rfl) rfl (bY xG rfl rfl (oS _ (uY a b).1 (uY a b).2.1 hch.a.i32 hch.b.i32) ?_))))))))
 rintro v8 w8 ⟨rfl, hb8⟩
 have M8 := M7.callB hb8
 refine wq (aG (.tuple (List.toArray _)) rfl) rfl (wq (bE (.int _ _) rfl rfl) rfl (wq (bE (.int _ _) rfl rfl) rfl (bI rfl rfl (bI rfl rfl (aB (aC (aD ?_)))))))
 refine bV [(0, 0), (1, 0), (2, 0), (3, 0), (4, 1), (5, 0), (6, 0), (7, 0), (8, 1), (9, 0), (10, 0), (11, 0), (12, 0), (13, 0)] mixed rfl (by kernel_rfl) (fun w9 hb9 hh9 => ?_)
 have M9 := M8.drew hb9 hh9
 refine iB rfl rfl rfl (iB rfl rfl rfl (aZ rfl rfl rfl (fun _ => aE 0 rZ rfl) (aZ rfl rfl rfl (fun _ => aE 1 nA rfl) (cB rfl rfl rfl (aM 0 (.int _ _) aU M9 rfl rfl rfl) (aZ rfl rfl rfl (fun _ => bR fK Tryz.underlying2 rfl (kB _ (by omega) (by omega))) ?_)))))
 refine aZ rfl rfl rfl (fun _ => aE 0 rZ rfl) (aZ rfl rfl rfl (fun _ => aE 1 nA rfl) (cB rfl rfl rfl (aM 1 (.int _ _) aU M9 rfl rfl rfl) (aZ rfl rfl rfl (fun _ => bR fK Tryz.underlying2 rfl (kB _ (by omega) (by omega))) (aZ rfl rfl rfl (fun _ => bM rfl rfl (by omega) (by omega)) ?_))))
 refine pP rfl rfl rfl (pP rfl rfl rfl (pP rfl rfl rfl (cG (aC (aN (bFd (.int _ _) (.int _ _) (.int _ _) rfl rfl rfl ?_))))))
 exact ⟨rfl, M9.below⟩
set_option maxHeartbeats 4000000 in
theorem wM (w : World) (a b : Body) (ha : Okb a) (hb : Okb b) :
  Calls Tryz.prog 137 #[(.agg (aF a).toArray), (.agg (aF b).toArray)] w (fun ex w' => ∃ v, ex = .returned v ∧ (fun v w' => v = .tuple #[.agg (aZo (nP a b)).toArray, .bool (nP a b).isSome] ∧ Below w.heap.size w w') v w') := by
 obtain ⟨hlo, hhi⟩ := bBm ha hb
 have hd := aYj hlo hhi
 have hl := aDk hd.1 hd.2
 have hss := bCn hlo hhi
 have hr1 := hlo.r
 have hr2 := hhi.r
 refine aH #[.cell 4 121, .tmp 5] 52 Tryz.func137 rfl Tryz.results137 Tryz.ntmps137 rfl ?_
 have M0 := Mem.refl w
 refine aD (aA (bJ (.agg (List.toArray _)) M0 rfl rfl rfl (fun b1 w1 M1 => (bJ (.agg (List.toArray _)) M1 rfl rfl rfl (fun b2 w2 M2 => (aQ rH M2 rfl rfl (fun b3 w3 M3 => (wq (aI (.bool false) rfl) rfl (aB (aC (aD (aA ?_))))))))))))
 refine wq (aY 0 bL M3 rfl rfl rfl) rfl (wq (aY 1 bL M3 rfl rfl rfl) rfl (bY bCl rfl rfl (aXg _ a b ha hb) ?_))
 rintro v4 w4 ⟨rfl, hb4⟩
 have M4 := M3.callB hb4
 refine wq (aG (.tuple (List.toArray _)) rfl) rfl (wq (bE (.agg (List.toArray _)) rfl rfl) rfl (wq (bE (.agg (List.toArray _)) rfl rfl) rfl (aQ rN M4 rfl rfl (fun b5 w5 M5 => (aQ rN M5 rfl rfl (fun b6 w6 M6 => (bB 3 _ jX M6 rfl rfl rfl rfl rfl (aP rfl) rfl (fun w7 M7 => ?_))))))))
 refine bB 4 _ jX M7 rfl rfl rfl rfl rfl (aP rfl) rfl (fun w8 M8 => (aB (aC (aD (aA (wq (aY 3 jX M8 rfl rfl rfl) rfl (wq (aY 4 jX M8 rfl rfl rfl) rfl (bY bBv rfl rfl (aWt _ (loB a b) (hiB a b) hlo hhi) ?_))))))))
 rintro v9 w9 ⟨rfl, hb9⟩
 have M9 := M8.callB hb9
 refine wq (aG (.tuple (List.toArray _)) rfl) rfl (wq (bE (.int _ _) rfl rfl) rfl (wq (bE (.int _ _) rfl rfl) rfl (wq (bE (.int _ _) rfl rfl) rfl (bI rfl rfl (bI rfl rfl ?_)))))
 refine bI rfl rfl (aB (aC (aD (aD (aA (aV rfl rfl (aV rfl rfl (bY aIk rfl rfl (nB _ (wN (uY (loB a b) (hiB a b))) (yP (uY (loB a b) (hiB a b))) hd.1 hd.2) ?_))))))))
 rintro v10 w10 ⟨rfl, hb10⟩
 have M10 := M9.callB hb10
 refine aV rfl rfl (aV rfl rfl (wq (fS rfl rfl (by omega) (by omega)) rfl (wq (dO us2 Tryz.underlying170 rfl) rfl (aS 31 (.int .u64 ((((loB a b).radius + (hiB a b).radius).natAbs * ((loB a b).radius + (hiB a b).radius).natAbs : Nat) : Int)) (iE (aXl _ hss)) (cS rfl rfl rfl rfl ?_)))))
 refine aB (aC ?_)
 refine aX rfl (fun h32 => ?_) (fun h32 => ?_)
 ·refine aD (aA (wq (cI [] _ aBc rfl rfl) rfl (bB 2 _ gA M10 rfl rfl rfl rfl rfl (aP rfl) rfl (fun w11 M11 => (wq (aI (.bool false) rfl) rfl (aB (aC (aN (cH (aAm (v2 := .bool false) 2 gA M11 rfl rfl rfl rfl ?_))))))))))
  exact ⟨by rw [aFu]; unfold nI; first | (rw [if_pos (by omega)]; rfl) | (rw [if_neg (by omega)]; rfl), M11.below⟩
 ·refine aL (aC (aD (aA (wq (aE 0 rZ rfl) rfl (wq (aE 0 eJ rfl) rfl (wq (aM 3 (.int _ _) bU M10 rfl rfl rfl) rfl (wq (aE 0 rZ rfl) rfl (wq (aE 0 eJ rfl) rfl ?_))))))))
  refine wq (aM 4 (.int _ _) bU M10 rfl rfl rfl) rfl (wq (cI [(0, .int _ _), (1, .int _ _)] _ aBm rfl rfl) rfl (aQ pD M10 rfl rfl (fun b12 w12 M12 => (bB 5 _ fU M12 rfl rfl rfl rfl rfl (aP rfl) rfl (fun w13 M13 => (aB (aC (aD (bV [(0, 1), (1, 0), (2, 0), (4, 0), (5, 0), (6, 0), (3, 2), (7, 2), (8, 0), (9, 0), (10, 0), (11, 2), (12, 0)] mixed rfl (by kernel_rfl) (fun w14 hb14 hh14 => ?_))))))))))
  have M14 := M13.drew hb14 hh14
  refine cB rfl rfl rfl (aY 5 fU M14 rfl rfl rfl) (iB rfl rfl rfl (iB rfl rfl rfl (iB rfl rfl rfl (iB rfl rfl rfl (iB rfl rfl rfl ?_)))))
  refine dR [false] rfl (by kernel_rfl) (bY aZs rfl rfl (aTe _ (wN (uY (loB a b) (hiB a b))) (yP (uY (loB a b) (hiB a b))) hd.1 hd.2) ?_)
  rintro v15 w15 ⟨rfl, hb15⟩
  have M15 := M14.callB hb15
  refine aB (aC ⟨(eQ (bP rfl (aY 5 fU M15 rfl rfl rfl)) dS), ?_⟩)
  refine dR [false] rfl (by kernel_rfl) (bY aSg rfl rfl (wC _ (wN (uY (loB a b) (hiB a b))) (yP (uY (loB a b) (hiB a b))) hd.1 hd.2) ?_)
  rintro v16 w16 ⟨rfl, hb16⟩
  have M16 := M15.callB hb16
  refine aB (aC ⟨(eQ (bP rfl (aY 5 fU M16 rfl rfl rfl)) dS), ?_⟩)
  refine aZ rfl rfl rfl (fun _ => mF rfl rfl (by omega) (by omega)) (aZ rfl rfl rfl (fun _ => dO us2 Tryz.underlying21 rfl) (aZ rfl rfl rfl (fun _ => cI [(0, .agg (List.toArray _)), (1, .agg (List.toArray _)), (2, .int _ _)] _ aBc rfl rfl) (dR [true] rfl (by kernel_rfl) (bB 2 _ gA M16 rfl rfl rfl rfl rfl (aP rfl) rfl (fun w17 M17 => ?_)))))
  refine aB (aC ⟨dS, ?_⟩)
  refine aZ rfl rfl rfl (fun _ => aI (.bool true) rfl) (cG (aC (aN (aAm (v2 := .bool true) 2 gA M17 rfl rfl rfl rfl ?_))))
  exact ⟨by rw [aFu]; unfold nI; first | (rw [if_pos (by omega)]; rfl) | (rw [if_neg (by omega)]; rfl), M17.below⟩
end Go.Proofs.YtlmcphcgiclanaaGreatDoor
