/- Part of the proof of the laws of this seat: Z1, Z1b, Z1c, Z1d, W3, Z2, W4, Z3, Z4, W5, W6. No conditions. -/
import Derived.Test.YtlmcphcgiclanaaGreatDoorK2
import Derived.Test.YtlmcphcgiclanaaGreatDoorK5
import Derived.Test.YtlmcphcgiclanaaGreatDoorK12
import Derived.Test.YtlmcphcgiclanaaGreatDoorK18
import Derived.Test.YtlmcphcgiclanaaGreatDoorK11
import Derived.Test.YtlmcphcgiclanaaGreatDoorK17
set_option linter.unusedVariables false
set_option linter.unusedSimpArgs false
set_option linter.unnecessarySimpa false
namespace Go.Proofs.YtlmcphcgiclanaaGreatDoor
open Go.Bil
open Go.RowKit (Below)
open Go.Proofs
set_option maxHeartbeats 8000000 in
theorem bEv (w : World) (n : Nat) (hn : n < 18446744073709551616) :
  Calls Tryz.prog 203 #[.int .u64 (n : Int)] w (fun ex w' => ∃ v, ex = .returned v ∧ (fun v w' => v = .int .u64 ((uI n : Nat) : Int) ∧ Below w.heap.size w w') v w') := by
 refine aH #[.tmp 2] 32 Tryz.func203 rfl Tryz.results203 Tryz.ntmps203 rfl ?_
 have M0 := Mem.refl w
 refine aD (aA (bI rfl rfl (aB (aC (aD (aA (aV rfl rfl (bI rfl rfl (bI rfl rfl ?_)))))))))
 refine aB (aC (aD (aD (aA (aV rfl rfl (aB (aC (aT (dI (σ := Nat × Nat × Nat) [2] (fun (i, R, e) => [(8, .int .i64 (i : Int)), (3, .int .u64 ((n - R * R : Nat) : Int)), (4, .int .u64 ((R * e : Nat) : Int))]) (fun (i, R, e) w' => Iq n i R e ∧ Mem w [] [] w') (fun (i, R, e) => 32 - i) (0, 0, 4294967296) (bK rfl (bK (iv rfl (by simp)) (bK (iv rfl (by simp)) eV))) (⟨aVk hn, M0⟩) ?_)))))))))
 rintro ⟨i, R, e⟩ ρ1 w1 ⟨I, hM1⟩
 have hile := I.ile
 have hle := I.le
 refine aD (aA (cS rfl rfl rfl rfl (aB (aC (aD ?_)))))
 refine aW rfl (fun h9 => ?_) (fun h9 => ?_)
 ·obtain ⟨f, hf1, hf2, hf3, hf4, hf5, hf6, hf7, hf8, hfy, hfn⟩ := aYd (by omega) I
  refine aL (aC (aD (aT (aD (aA (aV rfl rfl (bI rfl rfl (aB (aC (aD (aA (aV rfl rfl (wq (fS rfl rfl (by omega) (by omega)) rfl ?_)))))))))))))
  refine wq (gC rfl rfl (by omega)) rfl (aS 13 (.int .u64 ((f * f : Nat) : Int)) (iE ((aWb (2 * i) _ (by omega) (by omega)).trans (congrArg _ hf4))) (bI rfl rfl (aB (aC (aD (aA (aV rfl rfl (aV rfl rfl ?_))))))))
  refine aV rfl rfl (wq (dV (.int _ _) rfl rfl rfl) rfl (aS 17 (.int .u64 ((R * e + f * f : Nat) : Int)) (iE (by rw [rC]; omega)) (cS rfl rfl rfl rfl (aB (aC ?_)))))
  refine aW rfl (fun h18 => ?_) (fun h18 => ?_)
  ·have h18' : R * e + f * f ≤ n - R * R := by omega
   refine aD (aA (aV rfl rfl (aV rfl rfl (aV rfl rfl (wq (dV (.int _ _) rfl rfl rfl) rfl (aS 22 (.int .u64 ((R * e + f * f : Nat) : Int)) (iE (by rw [rC]; omega)) ?_))))))
   refine wq (dV (.int _ _) rfl rfl rfl) rfl (aS 23 (.int .u64 ((n - (R + f) * (R + f) : Nat) : Int)) (iE (by rw [rC]; omega)) (bI rfl rfl (aB (aC (aA (aV rfl rfl (wq (gC rfl rfl (by decide)) rfl ?_)))))))
   refine aS 25 (.int .u64 ((R * f : Nat) : Int)) (iE ((aQv (R * e)).trans (congrArg _ hf5))) (aV rfl rfl (wq (dV (.int _ _) rfl rfl rfl) rfl (aS 27 (.int .u64 (((R + f) * f : Nat) : Int)) (iE (by rw [rC]; omega)) (bI rfl rfl (aB ?_)))))
   refine cV (aC (aA (wq (bM rfl rfl (by omega) (by omega)) rfl (aV rfl rfl (aB ?_)))))
   refine cQ (i + 1, R + f, f) (bK rfl (bK rfl (bK rfl eV))) (cU rfl jW) ?_ ?_
   ·exact ⟨hfy h18', hM1⟩
   ·(show 32 - (i + 1) < 32 - i; omega)
  ·have h18' : ¬ (R * e + f * f ≤ n - R * R) := by omega
   refine aA (aV rfl rfl (wq (gC rfl rfl (by decide)) rfl (aS 29 (.int .u64 ((R * f : Nat) : Int)) (iE ((aQv (R * e)).trans (congrArg _ hf5))) (bI rfl rfl (aB ?_)))))
   refine cV (aC (aA (wq (bM rfl rfl (by omega) (by omega)) rfl (aV rfl rfl (aB ?_)))))
   refine cQ (i + 1, R, f) (bK rfl (bK rfl (bK rfl eV))) (cU rfl jW) ?_ ?_
   ·exact ⟨hfn h18', hM1⟩
   ·(show 32 - (i + 1) < 32 - i; omega)
 ·obtain rfl : i = 32 := by omega
  refine cN (cX (cW (eT (aC (aD (aA (aV rfl rfl ?_)))))))
  refine bI rfl rfl (aB (aC (aN (cA (.int _ _) rfl ?_))))
  exact ⟨iE (by rw [aWr I]), hM1.below⟩
set_option maxHeartbeats 4000000 in
theorem oY (w : World) (a b : Int × Int) (ha : I32 a) (hb : I32 b) :
  Calls Tryz.prog 200 #[(.agg (cL a).toArray), (.agg (cL b).toArray)] w (fun ex w' => ∃ v, ex = .returned v ∧ (fun v w' => v = .tuple #[.int .i64 (b.1 - a.1), .int .i64 (b.2 - a.2)] ∧ Below w.heap.size w w') v w') := by
 have hax := ha.x
 have hay := ha.y
 have hbx := hb.x
 have hby := hb.y
 refine aH #[.tmp 4, .tmp 5] 20 Tryz.func200 rfl Tryz.results200 Tryz.ntmps200 rfl ?_
 have M0 := Mem.refl w
 refine aD (aA (bJ (.agg (List.toArray _)) M0 rfl rfl rfl (fun b1 w1 M1 => (bJ (.agg (List.toArray _)) M1 rfl rfl rfl (fun b2 w2 M2 => (bI rfl rfl (bI rfl rfl (aB (aC (aD ?_))))))))))
 refine bS [(0, 0), (1, 1), (2, 0), (3, 0), (4, 1), (5, 0), (6, 0), (7, 0), (8, 1), (9, 0), (10, 0), (11, 1), (12, 0), (13, 0), (14, 0), (15, 0)] mixed rfl (by kernel_rfl) (fun w3 hb3 hh3 => ?_)
 have M3 := M2.drew hb3 hh3
 refine aY rfl rfl rfl (fun _ => aE 0 dT rfl) (cB rfl rfl rfl (aM 1 (.int _ _) aU M3 rfl rfl rfl) (aY rfl rfl rfl (fun _ => bR fL Tryz.underlying2 rfl (kC _ (by omega) (by omega))) (aY rfl rfl rfl (fun _ => aE 0 dT rfl) (cB rfl rfl rfl (aM 0 (.int _ _) aU M3 rfl rfl rfl) ?_))))
 refine aY rfl rfl rfl (fun _ => bR fL Tryz.underlying2 rfl (kC _ (by omega) (by omega))) (aY rfl rfl rfl (fun _ => lA rfl rfl (by omega) (by omega)) (aY rfl rfl rfl (fun _ => aE 1 dK rfl) (cB rfl rfl rfl (aM 1 (.int _ _) aU M3 rfl rfl rfl) (aY rfl rfl rfl (fun _ => bR fL Tryz.underlying2 rfl (kC _ (by omega) (by omega))) ?_))))
 refine aY rfl rfl rfl (fun _ => aE 1 dK rfl) (cB rfl rfl rfl (aM 0 (.int _ _) aU M3 rfl rfl rfl) (aY rfl rfl rfl (fun _ => bR fL Tryz.underlying2 rfl (kC _ (by omega) (by omega))) (aY rfl rfl rfl (fun _ => lA rfl rfl (by omega) (by omega)) (pW rfl rfl rfl (pW rfl rfl rfl ?_)))))
 refine cF (aC (aN (iA (.int _ _) (.int _ _) rfl rfl ?_)))
 exact ⟨rfl, M3.below⟩
set_option maxHeartbeats 4000000 in
theorem wO (w : World) (n : Int) (hn : vI n) :
  Calls Tryz.prog 201 #[.int .i64 n] w (fun ex w' => ∃ v, ex = .returned v ∧ (fun v w' => v = .int .u64 ((n.natAbs * n.natAbs : Nat) : Int) ∧ Below w.heap.size w w') v w') := by
 have hlt := (yC hn hn).2.1
 unfold vI at hn
 refine aH #[.tmp 2] 12 Tryz.func201 rfl Tryz.results201 Tryz.ntmps201 rfl ?_
 have M0 := Mem.refl w
 refine aD (aA (bI rfl rfl (aB (aC (aD (aD (aA (aV rfl rfl (cS rfl rfl rfl rfl (aB (aC ?_)))))))))))
 refine aW rfl (fun h4 => ?_) (fun h4 => ?_)
 ·refine aA (aV rfl rfl (wq (aAp rfl) rfl (aS 6 (.int .i64 (-n)) (iE (kC _ (by omega) (by omega))) (bI rfl rfl (aB (aC (aD (aA ?_))))))))
  refine aV rfl rfl (wq (dS us2 Tryz.underlying170 rfl) rfl (aS 8 (.int .u64 ((n.natAbs : Nat) : Int)) (iE (by rw [rC]; omega)) (aV rfl rfl (wq (dS us2 Tryz.underlying170 rfl) rfl (aS 10 (.int .u64 ((n.natAbs : Nat) : Int)) (iE (by rw [rC]; omega)) ?_)))))
  refine wq (dV (.int _ _) rfl rfl rfl) rfl (aS 11 (.int .u64 ((n.natAbs * n.natAbs : Nat) : Int)) (iE (aNq _ _ (by omega))) (bI rfl rfl (aB (aC (aN (cA (.int _ _) rfl ?_))))))
  exact ⟨rfl, M0.below⟩
 ·refine aL (aC (aD (aA (aV rfl rfl (wq (dS us2 Tryz.underlying170 rfl) rfl (aS 8 (.int .u64 ((n.natAbs : Nat) : Int)) (iE (by rw [rC]; omega)) (aV rfl rfl (wq (dS us2 Tryz.underlying170 rfl) rfl ?_))))))))
  refine aS 10 (.int .u64 ((n.natAbs : Nat) : Int)) (iE (by rw [rC]; omega)) (wq (dV (.int _ _) rfl rfl rfl) rfl (aS 11 (.int .u64 ((n.natAbs * n.natAbs : Nat) : Int)) (iE (aNq _ _ (by omega))) (bI rfl rfl (aB (aC (aN (cA (.int _ _) rfl ?_)))))))
  exact ⟨rfl, M0.below⟩
set_option maxHeartbeats 4000000 in
theorem nC (w : World) (dx dy : Int) (hx : vI dx) (hy : vI dy) :
  Calls Tryz.prog 173 #[.int .i64 dx, .int .i64 dy] w (fun ex w' => ∃ v, ex = .returned v ∧ (fun v w' => v = .int .u64 ((lsq dx dy : Nat) : Int) ∧ Below w.heap.size w w') v w') := by
 have hl := yC hx hy
 refine aH #[.tmp 4] 10 Tryz.func173 rfl Tryz.results173 Tryz.ntmps173 rfl ?_
 have M0 := Mem.refl w
 refine aD (aA (bI rfl rfl (aB (aC (aD (aA (aV rfl rfl (bX aSi rfl rfl (wO _ dx hx) ?_))))))))
 rintro v1 w1 ⟨rfl, hb1⟩
 have M1 := M0.callB hb1
 refine aV rfl rfl (bX aSi rfl rfl (wO _ dy hy) ?_)
 rintro v2 w2 ⟨rfl, hb2⟩
 have M2 := M1.callB hb2
 refine wq (dV (.int _ _) rfl rfl rfl) rfl (aS 9 (.int .u64 ((lsq dx dy : Nat) : Int)) (iE (by rw [rC]; unfold lsq at *; omega)) (bI rfl rfl (aB (aC (aN (cA (.int _ _) rfl ?_))))))
 exact ⟨rfl, M2.below⟩
set_option maxHeartbeats 4000000 in
theorem yO (w : World) (dx dy : Int) (hx : vI dx) (hy : vI dy) :
  Calls Tryz.prog 175 #[.int .i64 dx, .int .i64 dy] w (fun ex w' => ∃ v, ex = .returned v ∧ (fun v w' => v = .int .i64 (len dx dy) ∧ Below w.heap.size w w') v w') := by
 have hl := aDn hx hy
 refine aH #[.tmp 4] 10 Tryz.func175 rfl Tryz.results175 Tryz.ntmps175 rfl ?_
 have M0 := Mem.refl w
 refine aD (aA (bI rfl rfl (aB (aC (aD (aA (aV rfl rfl (aV rfl rfl (bX aJx rfl rfl (nC _ dx dy hx hy) ?_)))))))))
 rintro v1 w1 ⟨rfl, hb1⟩
 have M1 := M0.callB hb1
 refine bX bBk rfl rfl (bEv _ (lsq dx dy) (yC hx hy).1) ?_
 rintro v2 w2 ⟨rfl, hb2⟩
 have M2 := M1.callB hb2
 refine wq (dS aBu Tryz.underlying2 rfl) rfl (aS 9 (.int .i64 (len dx dy)) (iE (kC (len dx dy) (by omega) (by omega))) (bI rfl rfl (aB (aC (aN (cA (.int _ _) rfl ?_))))))
 exact ⟨rfl, M2.below⟩
set_option maxHeartbeats 4000000 in
theorem aBn (w : World) (a b : Int) (hb : 0 < b) (h0 : -1000000000000000000 ≤ a) (h1 : a ≤ 1000000000000000000) :
  Calls Tryz.prog 202 #[.int .i64 a, .int .i64 b] w (fun ex w' => ∃ v, ex = .returned v ∧ (fun v w' => v = .int .i64 (a / b) ∧ Below w.heap.size w w') v w') := by
 have hf := aHd (a := a) hb
 have hb1 := aJd a b
 refine aH #[.tmp 4] 16 Tryz.func202 rfl Tryz.results202 Tryz.ntmps202 rfl ?_
 have M0 := Mem.refl w
 refine aD (aA (bI rfl rfl (aB (aC (aD (aA (aV rfl rfl (aV rfl rfl (wq (aLk rfl rfl (by omega)) rfl ?_)))))))))
 refine aS 8 (.int .i64 (a.tdiv b)) (iE (kC _ (by omega) (by omega))) (bI rfl rfl (aB (aC (aD (aD (aA (aV rfl rfl (aV rfl rfl (wq (aMa rfl rfl (by omega)) rfl ?_)))))))))
 refine cS rfl rfl rfl rfl (aB (aC ?_))
 refine aW rfl (fun h12 => ?_) (fun h12 => ?_)
 ·refine aA (aV rfl rfl (wq (lA rfl rfl (by omega) (by omega)) rfl (bI rfl rfl (aB (aC (aD (aA (aV rfl rfl ?_))))))))
  refine bI rfl rfl (aB (aC (aN (cA (.int _ _) rfl ?_))))
  exact ⟨iE (by first | exact hf.1 (by omega) | exact hf.2 (by omega)), M0.below⟩
 ·refine aL (aC (aD (aA (aV rfl rfl (bI rfl rfl (aB (aC (aN (cA (.int _ _) rfl ?_)))))))))
  exact ⟨iE (by first | exact hf.1 (by omega) | exact hf.2 (by omega)), M0.below⟩
set_option maxHeartbeats 4000000 in
theorem aSt (w : World) (dx dy : Int) (hx : vI dx) (hy : vI dy) :
  Calls Tryz.prog 174 #[.int .i64 dx, .int .i64 dy] w (fun ex w' => ∃ v, ex = .returned v ∧ (fun v w' => v = (.agg (cL (oP dx dy)).toArray) ∧ Below w.heap.size w w') v w') := by
 have hl := aDn hx hy
 have hxx := hx
 have hyy := hy
 unfold vI at hxx hyy
 refine aH #[.cell 4 38] 23 Tryz.func174 rfl Tryz.results174 Tryz.ntmps174 rfl ?_
 have M0 := Mem.refl w
 refine aD (aA (aR fY M0 rfl rfl (fun b1 w1 M1 => (aB (aC (aD (aA (aV rfl rfl (aV rfl rfl (bX aSr rfl rfl (yO _ dx dy hx hy) ?_))))))))))
 rintro v2 w2 ⟨rfl, hb2⟩
 have M2 := M1.callB hb2
 refine bI rfl rfl (aB (aC (aD (aD (aA (aV rfl rfl (cS rfl rfl rfl rfl (aB (aC ?_)))))))))
 refine aW rfl (fun h10 => ?_) (fun h10 => ?_)
 ·refine aD (aA (wq (cM [(0, .int _ _)] _ eP rfl rfl) rfl (bB 0 _ bH M2 rfl rfl rfl rfl rfl (aQ rfl) rfl (fun w3 M3 => (aB (aC (aN (cC (fT 0 bH M3 rfl rfl rfl ?_)))))))))
  exact ⟨by unfold oP; first | (rw [if_pos (by omega)]; rfl) | (rw [if_neg (by omega)]; rfl), M3.below⟩
 ·refine aL (aC (aD (aA (aV rfl rfl (wq (rV rfl rfl (by decide)) rfl (aS 13 (.int .i64 (dx * 65536)) (iE (aAn dx hx)) (aV rfl rfl (bX aSp rfl rfl (aBn _ (dx * 65536) (len dx dy) (by omega) (by omega) (by omega)) ?_))))))))
  rintro v4 w4 ⟨rfl, hb4⟩
  have M4 := M2.callB hb4
  refine wq (dS us2 Tryz.underlying21 rfl) rfl (aV rfl rfl (wq (rV rfl rfl (by decide)) rfl (aS 18 (.int .i64 (dy * 65536)) (iE (aAn dy hy)) (aV rfl rfl (bX aSp rfl rfl (aBn _ (dy * 65536) (len dx dy) (by omega) (by omega) (by omega)) ?_)))))
  rintro v5 w5 ⟨rfl, hb5⟩
  have M5 := M4.callB hb5
  refine wq (dS us2 Tryz.underlying21 rfl) rfl (wq (cM [(0, .int _ _), (1, .int _ _)] _ eP rfl rfl) rfl (bB 0 _ bH M5 rfl rfl rfl rfl rfl (aQ rfl) rfl (fun w6 M6 => (aB (aC (aN (fT 0 bH M6 rfl rfl rfl ?_)))))))
  exact ⟨by unfold oP; first | (rw [if_pos (by omega)]; rfl) | (rw [if_neg (by omega)]; rfl), M6.below⟩
set_option maxHeartbeats 4000000 in
theorem aOl (w : World) (b : Body) (hb : Okb b) :
  Calls Tryz.prog 220 #[(.agg (aF b).toArray)] w (fun ex w' => ∃ v, ex = .returned v ∧ (fun v w' => v = .tuple #[(.agg (cL (aGa b)).toArray), (.agg (cL (aGd b)).toArray)] ∧ Below w.heap.size w w') v w') := by
 have ha := hb.a
 have hp := hb.p
 refine aH #[.cell 2 38, .cell 3 38] 36 Tryz.func220 rfl Tryz.results220 Tryz.ntmps220 rfl ?_
 have M0 := Mem.refl w
 refine aD (aA (bJ (.agg (List.toArray _)) M0 rfl rfl rfl (fun b1 w1 M1 => (aR fY M1 rfl rfl (fun b2 w2 M2 => (aR fY M2 rfl rfl (fun b3 w3 M3 => (aB (aC (aD (aA (wq (aE 6 fX rfl) rfl ?_))))))))))))
 refine wq (aE 0 dT rfl) rfl (wq (aM 0 (.int _ _) aU M3 rfl rfl rfl) rfl (wq (aE 2 kK rfl) rfl (wq (aE 0 dT rfl) rfl (wq (aM 0 (.int _ _) aU M3 rfl rfl rfl) rfl (wq (lB rfl rfl (lL _ (by omega) (by omega))) rfl ?_)))))
 refine wq (aE 6 fX rfl) rfl (wq (aE 1 dK rfl) rfl (wq (aM 0 (.int _ _) aU M3 rfl rfl rfl) rfl (wq (aE 2 kK rfl) rfl (wq (aE 1 dK rfl) rfl (wq (aM 0 (.int _ _) aU M3 rfl rfl rfl) rfl ?_)))))
 refine wq (lB rfl rfl (lL _ (by omega) (by omega))) rfl (wq (cM [(0, .int _ _), (1, .int _ _)] _ eP rfl rfl) rfl (bB 1 _ bH M3 rfl rfl rfl rfl rfl (aQ rfl) rfl (fun w4 M4 => (aB (aC (aD (aA (wq (aE 6 fX rfl) rfl (wq (aE 0 dT rfl) rfl ?_)))))))))
 refine wq (aM 0 (.int _ _) aU M4 rfl rfl rfl) rfl (wq (aE 2 kK rfl) rfl (wq (aE 0 dT rfl) rfl (wq (aM 0 (.int _ _) aU M4 rfl rfl rfl) rfl (wq (iK rfl rfl (lL _ (by omega) (by omega))) rfl (wq (aE 6 fX rfl) rfl ?_)))))
 refine wq (aE 1 dK rfl) rfl (wq (aM 0 (.int _ _) aU M4 rfl rfl rfl) rfl (wq (aE 2 kK rfl) rfl (wq (aE 1 dK rfl) rfl (wq (aM 0 (.int _ _) aU M4 rfl rfl rfl) rfl (wq (iK rfl rfl (lL _ (by omega) (by omega))) rfl ?_)))))
 refine wq (cM [(0, .int _ _), (1, .int _ _)] _ eP rfl rfl) rfl (bB 2 _ bH M4 rfl rfl rfl rfl rfl (aQ rfl) rfl (fun w5 M5 => (aB (aC (aD (bS [(0, 1), (1, 1), (2, 2), (3, 2)] mixed rfl (by kernel_rfl) (fun w6 hb6 hh6 => ?_)))))))
 have M6 := M5.drew hb6 hh6
 refine cB rfl rfl rfl (aZ 1 bH M6 rfl rfl rfl) (cB rfl rfl rfl (aZ 2 bH M6 rfl rfl rfl) (dO [false, true] rfl (by kernel_rfl) (bB 1 _ bH M6 rfl rfl rfl rfl rfl (aQ rfl) rfl (fun w7 M7 => ?_))))
 refine aB (aC ⟨(eQ (bO rfl (aZ 2 bH M7 rfl rfl rfl)) dN), ?_⟩)
 refine dO [true] rfl (by kernel_rfl) (bB 2 _ bH M7 rfl rfl rfl rfl rfl (aQ rfl) rfl (fun w8 M8 => ?_))
 refine aB (aC ⟨dN, ?_⟩)
 refine cF (aC (aN (aMb 1 2 bH M8 rfl rfl rfl rfl rfl rfl ?_)))
 exact ⟨rfl, M8.below⟩
set_option maxHeartbeats 4000000 in
theorem aFv (w : World) (p q c : Pt) (h : SgI p q) (hc : PtI c) :
  Calls Tryz.prog 244 #[(.agg (cL p).toArray), (.agg (cL q).toArray), (.agg (cL c).toArray)] w (fun ex w' => ∃ v, ex = .returned v ∧ (fun v w' => v = .tuple #[.int .i64 (oB p q c), .int .i64 (kQ p q)] ∧ Below w.heap.size w w') v w') := by
 have hD := sN h
 have hx := aOu h hc
 refine aH #[.tmp 6, .tmp 7] 42 Tryz.func244 rfl Tryz.results244 Tryz.ntmps244 rfl ?_
 have M0 := Mem.refl w
 refine aD (aA (bJ (.agg (List.toArray _)) M0 rfl rfl rfl (fun b1 w1 M1 => (bJ (.agg (List.toArray _)) M1 rfl rfl rfl (fun b2 w2 M2 => (bJ (.agg (List.toArray _)) M2 rfl rfl rfl (fun b3 w3 M3 => (bI rfl rfl (bI rfl rfl ?_)))))))))
 refine aB (aC (aD (aA (wq (aZ 0 bH M3 rfl rfl rfl) rfl (wq (aZ 1 bH M3 rfl rfl rfl) rfl (bX wT rfl rfl (oY _ p q h.hp.i32 h.hq.i32) ?_))))))
 rintro v4 w4 ⟨rfl, hb4⟩
 have M4 := M3.callB hb4
 refine wq (aG (.tuple (List.toArray _)) rfl) rfl (wq (bE (.int _ _) rfl rfl) rfl (wq (bE (.int _ _) rfl rfl) rfl (bI rfl rfl (bI rfl rfl (aB (aC (aD (aA ?_))))))))
 refine wq (aZ 0 bH M4 rfl rfl rfl) rfl (wq (aZ 2 bH M4 rfl rfl rfl) rfl (bX wT rfl rfl (oY _ p c h.hp.i32 hc.i32) ?_))
 rintro v5 w5 ⟨rfl, hb5⟩
 have M5 := M4.callB hb5
 refine wq (aG (.tuple (List.toArray _)) rfl) rfl (wq (bE (.int _ _) rfl rfl) rfl (wq (bE (.int _ _) rfl rfl) rfl (bI rfl rfl (bI rfl rfl (aB (aC (aD (aA ?_))))))))
 refine aV rfl rfl (aV rfl rfl (wq (fS rfl rfl (by omega) (by omega)) rfl (aV rfl rfl (aV rfl rfl (wq (fS rfl rfl (by omega) (by omega)) rfl ?_)))))
 refine wq (bM rfl rfl (by omega) (by omega)) rfl (aS 30 (.int .i64 (kQ p q)) rfl (bI rfl rfl (aB (aC (aD (aA (aV rfl rfl (aV rfl rfl ?_))))))))
 refine wq (fS rfl rfl (by omega) (by omega)) rfl (aV rfl rfl (aV rfl rfl (wq (fS rfl rfl (by omega) (by omega)) rfl (wq (bM rfl rfl (by omega) (by omega)) rfl (aV rfl rfl ?_)))))
 refine wq (xJ rfl rfl ) rfl (wq (nJ rfl rfl ) rfl (aV rfl rfl (bI rfl rfl (bI rfl rfl (aB (aC (aN ?_)))))))
 refine iA (.int _ _) (.int _ _) rfl rfl ?_
 exact ⟨rfl, M5.below⟩
set_option maxHeartbeats 4000000 in
theorem aAl (w : World) (f a n d : Int) (bn bd : Nat) (ha : -16777216 ≤ a ∧ a ≤ 16777216) (hn : 0 ≤ n) (hnd : n ≤ d) (hd0 : 0 < d) (hd : d ≤ 562949953421312) (h1 : -16777216 ≤ a * n / d ∧ a * n / d ≤ 16777216) (h2 : -1082130432 ≤ f + a * n / d ∧ f + a * n / d ≤ 1082130432) (K1 : Rd w 1 (some ⟨bn, 0, none⟩) 1 [[.int .i64 n]]) (K2 : Rd w 1 (some ⟨bd, 0, none⟩) 1 [[.int .i64 d]]) :
  Calls Tryz.prog 245 #[.int .i32 f, .int .i64 a, .pointer (some ⟨bn, 0, none⟩), .pointer (some ⟨bd, 0, none⟩)] w (fun ex w' => ∃ v, ex = .returned v ∧ (fun v w' => v = .int .i32 (f + a * n / d) ∧ Below w.heap.size w w') v w') := by
 rw [← eN bn, ← eN bd]
 refine aH #[.tmp 6] 20 Tryz.func245 rfl Tryz.results245 Tryz.ntmps245 rfl ?_
 have M0 := Mem.refl w
 refine aD (aA (bI rfl rfl (aB (aC (aD (aA (aV rfl rfl (wq (eJ (o := 0) (.int _ _) kZ (K1.mem M0) (show ([[.int .i64 n]] : List (List Value))[0]? = some [.int .i64 n] from rfl) rfl rfl) rfl (wq (eJ (o := 0) (.int _ _) kZ (K2.mem M0) (show ([[.int .i64 d]] : List (List Value))[0]? = some [.int .i64 d] from rfl) rfl rfl) rfl ?_)))))))))
 refine bX aCm rfl rfl (bAi _ a n d (by omega) hn hnd hd0 (by omega)) ?_
 rintro v1 w1 ⟨rfl, hb1⟩
 have M1 := M0.callB hb1
 refine wq (aG (.tuple (List.toArray _)) rfl) rfl (wq (bE (.int _ _) rfl rfl) rfl (wq (bE (.int _ _) rfl rfl) rfl (bI rfl rfl (bI rfl rfl (aB (aC (aD (aA ?_))))))))
 refine aV rfl rfl (aV rfl rfl (wq (bR us2 Tryz.underlying21 rfl (lL _ (by omega) (by omega))) rfl (wq (iK rfl rfl (lL _ (by omega) (by omega))) rfl (bI rfl rfl (aB (aC (aN ?_)))))))
 refine cA (.int _ _) rfl ?_
 exact ⟨rfl, M1.below⟩
set_option maxHeartbeats 4000000 in
theorem jT (w : World) (p q c : Pt) (h : SgI p q) (hc : PtI c) :
  Calls Tryz.prog 239 #[(.agg (cL p).toArray), (.agg (cL q).toArray), (.agg (cL c).toArray)] w (fun ex w' => ∃ v, ex = .returned v ∧ (fun v w' => v = (.agg (cL (dU p q c)).toArray) ∧ Below w.heap.size w w') v w') := by
 have hD := sN h
 have hn := aGh (c := c) h
 have hx := h.x
 have hy := h.y
 refine aH #[.cell 6 38] 40 Tryz.func239 rfl Tryz.results239 Tryz.ntmps239 rfl ?_
 have M0 := Mem.refl w
 refine aD (aA (bJ (.agg (List.toArray _)) M0 rfl rfl rfl (fun b1 w1 M1 => (bJ (.agg (List.toArray _)) M1 rfl rfl rfl (fun b2 w2 M2 => (bJ (.agg (List.toArray _)) M2 rfl rfl rfl (fun b3 w3 M3 => (aR fY M3 rfl rfl (fun b4 w4 M4 => (aB (aC (aD (aA ?_)))))))))))))
 refine wq (aZ 0 bH M4 rfl rfl rfl) rfl (wq (aZ 1 bH M4 rfl rfl rfl) rfl (wq (aZ 2 bH M4 rfl rfl rfl) rfl (bX bBv rfl rfl (aFv _ p q c h hc) ?_)))
 rintro v5 w5 ⟨rfl, hb5⟩
 have M5 := M4.callB hb5
 refine wq (aG (.tuple (List.toArray _)) rfl) rfl (wq (bE (.int _ _) rfl rfl) rfl (wq (bE (.int _ _) rfl rfl) rfl (aR yB M5 rfl rfl (fun b6 w6 M6 => (aR yB M6 rfl rfl (fun b7 w7 M7 => (dE 4 (.int _ _) kZ M7 rfl rfl rfl rfl rfl rfl (fun w8 M8 => ?_))))))))
 refine dE 5 (.int _ _) kZ M8 rfl rfl rfl rfl rfl rfl (fun w9 M9 => (aB (aC (aD (aD (aA (wq (aM 5 (.int _ _) kZ M9 rfl rfl rfl) rfl (cS rfl rfl rfl rfl (aB (aC ?_))))))))))
 refine aW rfl (fun h20 => ?_) (fun h20 => ?_)
 ·refine aD (aA (wq (aZ 0 bH M9 rfl rfl rfl) rfl (bB 3 _ bH M9 rfl rfl rfl rfl rfl (aQ rfl) rfl (fun w10 M10 => (aB (aC (aN (cC (fT 3 bH M10 rfl rfl rfl ?_)))))))))
  exact ⟨by unfold dU; first | (rw [if_pos h20]; rfl) | (rw [if_neg h20]; rfl), M10.below⟩
 ·have hnr := aGo (c := c) h h20
  refine aL (aC (aD (aA (wq (cP [] [.pointer _, .pointer _] rfl rfl) rfl (wq (aI (.func _ _ _) rfl) rfl (aB (aC (aD (aA (wq (aZ 0 bH M9 rfl rfl rfl) rfl (wq (aZ 1 bH M9 rfl rfl rfl) rfl ?_)))))))))))
  refine bX wT rfl rfl (oY _ p q h.hp.i32 h.hq.i32) ?_
  rintro v11 w11 ⟨rfl, hb11⟩
  have M11 := M9.callB hb11
  refine wq (aG (.tuple (List.toArray _)) rfl) rfl (wq (bE (.int _ _) rfl rfl) rfl (wq (bE (.int _ _) rfl rfl) rfl (bI rfl rfl (bI rfl rfl (aB (aC (aD ?_)))))))
  refine bS [(0, 0), (1, 0), (2, 1), (3, 0), (5, 0), (6, 0), (7, 1), (8, 0), (4, 2), (9, 2), (10, 0), (11, 2)] mixed rfl (by kernel_rfl) (fun w12 hb12 hh12 => ?_)
  have M12 := M11.drew hb12 hh12
  refine aY rfl rfl rfl (fun _ => aG (.func _ _ _) rfl) (aY rfl rfl rfl (fun _ => aE 0 dT rfl) (cB rfl rfl rfl (aM 0 (.int _ _) aU M12 rfl rfl rfl) (gD rfl rfl rfl (aY rfl rfl rfl (fun _ => aG (.func _ _ _) rfl) (aY rfl rfl rfl (fun _ => aE 1 dK rfl) ?_)))))
  refine cB rfl rfl rfl (aM 0 (.int _ _) aU M12 rfl rfl rfl) (gD rfl rfl rfl (dO [false, true] rfl (by kernel_rfl) (bX aSk rfl rfl (aAl _ p.1 (q.1 - p.1) (oB p q c) (kQ p q) b6 b7 (by omega) hn.1 hn.2 (by omega) (by omega) hnr.1.1 hnr.1.2 (lO 4 M12 rfl rfl) (lO 5 M12 rfl rfl)) ?_)))
  rintro v13 w13 ⟨rfl, hb13⟩
  have M13 := M12.callB hb13
  refine aB (aC ⟨(eQ (bO rfl (aM 0 (.int _ _) aU M13 rfl rfl rfl)) dN), ?_⟩)
  refine dO [true] rfl (by kernel_rfl) (bX aSk rfl rfl (aAl _ p.2 (q.2 - p.2) (oB p q c) (kQ p q) b6 b7 (by omega) hn.1 hn.2 (by omega) (by omega) hnr.2.1 hnr.2.2 (lO 4 M13 rfl rfl) (lO 5 M13 rfl rfl)) ?_)
  rintro v14 w14 ⟨rfl, hb14⟩
  have M14 := M13.callB hb14
  refine aB (aC ⟨dN, ?_⟩)
  refine aY rfl rfl rfl (fun _ => cM [(0, .int _ _), (1, .int _ _)] _ eP rfl rfl) (dO [] rfl (by kernel_rfl) (bB 3 _ bH M14 rfl rfl rfl rfl rfl (aQ rfl) rfl (fun w15 M15 => ?_)))
  refine aB (aC ⟨dN, ?_⟩)
  refine cF (aC (aN (fT 3 bH M15 rfl rfl rfl ?_)))
  exact ⟨by unfold dU; first | (rw [if_pos h20]; rfl) | (rw [if_neg h20]; rfl), M15.below⟩
set_option maxHeartbeats 4000000 in
theorem vV (w : World) (s : Ch) (x y : Pt) (ba bb bl : Nat) (hx : PtI x) (hy : PtI y) (hO : Own [(some ba, bc (cL s.1) 38), (some bb, bc (cL s.2.1) 38), (some bl, bc [.int .u64 (s.2.2 : Int)] 170)] w) :
  Calls Tryz.prog 238 #[(.agg (cL x).toArray), (.agg (cL y).toArray), .pointer (some ⟨bl, 0, none⟩), .pointer (some ⟨ba, 0, none⟩), .pointer (some ⟨bb, 0, none⟩)] w (fun ex w' => ∃ v, ex = .returned v ∧ (fun v w' => v = .tuple #[] ∧ Mem w (bU [(some ba, bc (cL s.1) 38), (some bb, bc (cL s.2.1) 38), (some bl, bc [.int .u64 (s.2.2 : Int)] 170)]) [(some ba, bc (cL (fI s x y).1) 38), (some bb, bc (cL (fI s x y).2.1) 38), (some bl, bc [.int .u64 ((fI s x y).2.2 : Int)] 170)] w') v w') := by
 refine aH #[] 20 Tryz.func238 rfl Tryz.results238 Tryz.ntmps238 rfl ?_
 have M0 := hO.mem
 refine aD (aA (bJ (.agg (List.toArray _)) M0 rfl rfl rfl (fun b1 w1 M1 => (bJ (.agg (List.toArray _)) M1 rfl rfl rfl (fun b2 w2 M2 => (aB (aC (aD (aA (wq (aZ 3 bH M2 rfl rfl rfl) rfl (wq (aZ 4 bH M2 rfl rfl rfl) rfl ?_)))))))))))
 refine bX wT rfl rfl (oY _ x y hx.i32 hy.i32) ?_
 rintro v3 w3 ⟨rfl, hb3⟩
 have M3 := M2.callB hb3
 refine wq (bE (.int _ _) rfl rfl) rfl (wq (bE (.int _ _) rfl rfl) rfl (bX aJx rfl rfl (nC _ (y.1 - x.1) (y.2 - x.2) (hx.inX hy) (hx.inY hy)) ?_))
 rintro v4 w4 ⟨rfl, hb4⟩
 have M4 := M3.callB hb4
 refine bI rfl rfl (aB (aC (aD (aA (aV rfl rfl (wq (aM 2 (.int _ _) oT M4 rfl rfl rfl) rfl (cS rfl rfl rfl rfl (aB (aC ?_)))))))))
 refine aW rfl (fun h16 => ?_) (fun h16 => ?_)
 ·refine bS [(0, 1), (1, 1), (2, 0), (3, 2), (4, 2), (5, 2)] mixed rfl (by kernel_rfl) (fun w5 hb5 hh5 => ?_)
  have M5 := M4.drew hb5 hh5
  refine cB rfl rfl rfl (aZ 3 bH M5 rfl rfl rfl) (cB rfl rfl rfl (aZ 4 bH M5 rfl rfl rfl) (gD rfl rfl rfl (dO [false, true] rfl (by kernel_rfl) (bB 0 _ bH M5 rfl rfl rfl rfl rfl (aQ rfl) rfl (fun w6 M6 => ?_)))))
  refine aB (aC ⟨(eQ (bO rfl (aZ 4 bH M6 rfl rfl rfl)) dN), ?_⟩)
  refine dO [true] rfl (by kernel_rfl) (bB 1 _ bH M6 rfl rfl rfl rfl rfl (aQ rfl) rfl (fun w7 M7 => ?_))
  refine aB (aC ⟨dN, ?_⟩)
  refine dO [] rfl (by kernel_rfl) (dE 2 (.int _ _) oT M7 rfl rfl rfl rfl rfl rfl (fun w8 M8 => ?_))
  refine aB (aC ⟨dN, ?_⟩)
  refine cF (iN ?_)
  exact ⟨rfl, by unfold fI; first | (rw [if_pos (by omega)]; exact M8.keep [true, true, true, false, false]) | (rw [if_neg (by omega)]; exact M8.keep [true, true, true, false, false])⟩
 ·refine aL (iN ?_)
  exact ⟨rfl, by unfold fI; first | (rw [if_pos (by omega)]; exact M4.keep [true, true, true, false, false]) | (rw [if_neg (by omega)]; exact M4.keep [true, true, true, false, false])⟩
set_option maxHeartbeats 8000000 in
theorem aJl (w : World) (ap aq bp bq : Pt) (h1 : SgI ap aq) (h2 : SgI bp bq) :
  Calls Tryz.prog 221 #[(.agg (cL ap).toArray), (.agg (cL aq).toArray), (.agg (cL bp).toArray), (.agg (cL bq).toArray)] w (fun ex w' => ∃ v, ex = .returned v ∧ (fun v w' => v = .tuple #[(.agg (cL (oE ap aq bp bq).1).toArray), (.agg (cL (oE ap aq bp bq).2.1).toArray), .int .u64 ((oE ap aq bp bq).2.2 : Int)] ∧ Below w.heap.size w w') v w') := by
 refine aH #[.cell 8 38, .cell 9 38, .cell 10 170] 48 Tryz.func221 rfl Tryz.results221 Tryz.ntmps221 rfl ?_
 have M0 := Mem.refl w
 refine aD (aA (bJ (.agg (List.toArray _)) M0 rfl rfl rfl (fun b1 w1 M1 => (bJ (.agg (List.toArray _)) M1 rfl rfl rfl (fun b2 w2 M2 => (bJ (.agg (List.toArray _)) M2 rfl rfl rfl (fun b3 w3 M3 => (bJ (.agg (List.toArray _)) M3 rfl rfl rfl (fun b4 w4 M4 => (aR fY M4 rfl rfl (fun b5 w5 M5 => ?_)))))))))))
 refine aR fY M5 rfl rfl (fun b6 w6 M6 => (aR aVb M6 rfl rfl (fun b7 w7 M7 => (aB (aC (aD (aA (dE 6 (.int _ _) oT M7 rfl rfl rfl rfl rfl rfl (fun w8 M8 => (aB (aC (aD (aA ?_)))))))))))))
 obtain ⟨s, hS⟩ : ∃ z, z = ch0 := ⟨_, rfl⟩
 have hC : ChI s := by rw [hS]; exact aUt
 have M9 : Mem _ _ [_, _, _, _, (some b5, bc (cL ch0.1) 38), (some b6, bc (cL ch0.2.1) 38), (some b7, bc [.int .u64 (ch0.2.2 : Int)] 170)] _ := M8
 rw [← hS] at M9
 refine wq (cP [] [.pointer _, .pointer _, .pointer _] rfl rfl) rfl (wq (aI (.func _ _ _) rfl) rfl (aB (aC (aD (aD (aA (wq (aZ 0 bH M9 rfl rfl rfl) rfl (wq (aZ 1 bH M9 rfl rfl rfl) rfl (wq (oD [.agg (List.toArray _), .agg (List.toArray _)] tL aLl rfl rfl (dH rfl)) rfl ?_)))))))))
 refine aV rfl rfl (aB (aC (aT (lE 3 (gX (aD (aA (cS rfl rfl rfl rfl (lC 21 rfl (by first | decide | omega) ?_)))))))))
 refine aB (aC (aD (cO rfl (aL (aC (aD (aT (aD (aA (wq (mC 0 _ tL bH rfl rfl (by decide) (by decide) rfl rfl) rfl (aR fY M9 rfl rfl (fun b10 w10 M10 => (bB 7 _ bH M10 rfl rfl rfl rfl rfl (aQ rfl) rfl (fun w11 M11 => ?_))))))))))))))
 refine aB (aC (bS [(0, 0), (1, 1), (2, 1), (3, 1), (4, 1), (5, 2), (6, 2)] mixed rfl (by kernel_rfl) (fun w12 hb12 hh12 => ?_)))
 have M12 := M11.drew hb12 hh12
 refine aY rfl rfl rfl (fun _ => aG (.func _ _ _) rfl) (cB rfl rfl rfl (aZ 7 bH M12 rfl rfl rfl) (cB rfl rfl rfl (aZ 2 bH M12 rfl rfl rfl) (cB rfl rfl rfl (aZ 3 bH M12 rfl rfl rfl) (cB rfl rfl rfl (aZ 7 bH M12 rfl rfl rfl) (dO [true, true, true, false] rfl (by kernel_rfl) ?_)))))
 refine bX aCl rfl rfl (jT _ bp bq ap h2 h1.hp) ?_
 rintro v13 w13 ⟨rfl, hb13⟩
 have M13 := M12.callB hb13
 refine aB (aC ⟨(eQ (bO rfl (aZ 7 bH M13 rfl rfl rfl)) dN), ?_⟩)
 refine dO [true] rfl (by kernel_rfl) (bX aCu rfl rfl (vV _ s ap (dU bp bq ap) _ _ _ h1.hp (eS h2) (M13.ownSeg 4 3)) ?_)
 rintro v14 w14 ⟨rfl, hM14⟩
 have M14 : Mem _ _ [_, _, _, _, _, _, _, _] _ := M13.seg 4 3 hM14
 obtain ⟨s, hs⟩ : ∃ z, z = fI s ap (dU bp bq ap) := ⟨_, rfl⟩
 rw [← hs] at M14
 replace hC := hC.step (x := ap) (y := (dU bp bq ap)) h1.hp (eS h2)
 rw [← hs] at hC
 replace hS := hs.trans (congrArg (fun z => fI z ap (dU bp bq ap)) hS)
 refine aB (aC ⟨dN, ?_⟩)
 refine cF (cV (aC (aA (wq (bM rfl rfl (by first | decide | omega) (by first | decide | omega)) rfl (aS 30 (.int .i64 1) (iE (by first | decide | omega)) (aV rfl rfl ?_))))))
 refine aB (aC (gX (aD (aA (cS rfl rfl rfl rfl (lC 21 rfl (by first | decide | omega) (aB (aC (aD ?_)))))))))
 refine cO rfl (aL (aC (aD (aT (aD (aA (wq (mC 1 _ tL bH rfl rfl (by decide) (by decide) rfl rfl) rfl (aR fY M14 rfl rfl (fun b15 w15 M15 => (bB 8 _ bH M15 rfl rfl rfl rfl rfl (aQ rfl) rfl (fun w16 M16 => (aB (aC ?_)))))))))))))
 refine bS [(0, 0), (1, 1), (2, 1), (3, 1), (4, 1), (5, 2), (6, 2)] mixed rfl (by kernel_rfl) (fun w17 hb17 hh17 => ?_)
 have M17 := M16.drew hb17 hh17
 refine aY rfl rfl rfl (fun _ => aG (.func _ _ _) rfl) (cB rfl rfl rfl (aZ 8 bH M17 rfl rfl rfl) (cB rfl rfl rfl (aZ 2 bH M17 rfl rfl rfl) (cB rfl rfl rfl (aZ 3 bH M17 rfl rfl rfl) (cB rfl rfl rfl (aZ 8 bH M17 rfl rfl rfl) (dO [true, true, true, false] rfl (by kernel_rfl) ?_)))))
 refine bX aCl rfl rfl (jT _ bp bq aq h2 h1.hq) ?_
 rintro v18 w18 ⟨rfl, hb18⟩
 have M18 := M17.callB hb18
 refine aB (aC ⟨(eQ (bO rfl (aZ 8 bH M18 rfl rfl rfl)) dN), ?_⟩)
 refine dO [true] rfl (by kernel_rfl) (bX aCu rfl rfl (vV _ s aq (dU bp bq aq) _ _ _ h1.hq (eS h2) (M18.ownSeg 4 3)) ?_)
 rintro v19 w19 ⟨rfl, hM19⟩
 have M19 : Mem _ _ [_, _, _, _, _, _, _, _, _] _ := M18.seg 4 3 hM19
 obtain ⟨s, hs⟩ : ∃ z, z = fI s aq (dU bp bq aq) := ⟨_, rfl⟩
 rw [← hs] at M19
 replace hC := hC.step (x := aq) (y := (dU bp bq aq)) h1.hq (eS h2)
 rw [← hs] at hC
 replace hS := hs.trans (congrArg (fun z => fI z aq (dU bp bq aq)) hS)
 refine aB (aC ⟨dN, ?_⟩)
 refine cF (cV (aC (aA (wq (bM rfl rfl (by first | decide | omega) (by first | decide | omega)) rfl (aS 30 (.int .i64 2) (iE (by first | decide | omega)) (aV rfl rfl ?_))))))
 refine aB (aC (gX (aD (aA (cS rfl rfl rfl rfl (uQ 21 rfl (by first | decide | omega) (aB (aC (aD ?_)))))))))
 refine cD rfl (cN (cX (cX (eT (aC (aD (aD (aA (wq (aZ 2 bH M19 rfl rfl rfl) rfl ?_)))))))))
 refine wq (aZ 3 bH M19 rfl rfl rfl) rfl (wq (oD [.agg (List.toArray _), .agg (List.toArray _)] tL aLl rfl rfl (dH rfl)) rfl (aV rfl rfl (aB (aC (aT (lE 3 (gX (aD (aA ?_)))))))))
 refine cS rfl rfl rfl rfl (lC 35 rfl (by first | decide | omega) (aB (aC (aD (cO rfl (aL (aC (aD (aT (aD (aA (wq (mC 0 _ tL bH rfl rfl (by decide) (by decide) rfl rfl) rfl ?_))))))))))))
 refine aR fY M19 rfl rfl (fun b20 w20 M20 => (bB 9 _ bH M20 rfl rfl rfl rfl rfl (aQ rfl) rfl (fun w21 M21 => (aB (aC (bS [(0, 0), (1, 1), (2, 1), (3, 1), (5, 1), (4, 2), (6, 2)] mixed rfl (by kernel_rfl) (fun w22 hb22 hh22 => ?_)))))))
 have M22 := M21.drew hb22 hh22
 refine aY rfl rfl rfl (fun _ => aG (.func _ _ _) rfl) (cB rfl rfl rfl (aZ 0 bH M22 rfl rfl rfl) (cB rfl rfl rfl (aZ 1 bH M22 rfl rfl rfl) (cB rfl rfl rfl (aZ 9 bH M22 rfl rfl rfl) (cB rfl rfl rfl (aZ 9 bH M22 rfl rfl rfl) (dO [false, true, true, true] rfl (by kernel_rfl) ?_)))))
 refine bX aCl rfl rfl (jT _ ap aq bp h1 h2.hp) ?_
 rintro v23 w23 ⟨rfl, hb23⟩
 have M23 := M22.callB hb23
 refine aB (aC ⟨(eQ (bO rfl (aZ 9 bH M23 rfl rfl rfl)) dN), ?_⟩)
 refine dO [true] rfl (by kernel_rfl) (bX aCu rfl rfl (vV _ s (dU ap aq bp) bp _ _ _ (eS h1) h2.hp (M23.ownSeg 4 3)) ?_)
 rintro v24 w24 ⟨rfl, hM24⟩
 have M24 : Mem _ _ [_, _, _, _, _, _, _, _, _, _] _ := M23.seg 4 3 hM24
 obtain ⟨s, hs⟩ : ∃ z, z = fI s (dU ap aq bp) bp := ⟨_, rfl⟩
 rw [← hs] at M24
 replace hC := hC.step (x := (dU ap aq bp)) (y := bp) (eS h1) h2.hp
 rw [← hs] at hC
 replace hS := hs.trans (congrArg (fun z => fI z (dU ap aq bp) bp) hS)
 refine aB (aC ⟨dN, ?_⟩)
 refine cF (cV (aC (aA (wq (bM rfl rfl (by first | decide | omega) (by first | decide | omega)) rfl (aS 44 (.int .i64 1) (iE (by first | decide | omega)) (aV rfl rfl ?_))))))
 refine aB (aC (gX (aD (aA (cS rfl rfl rfl rfl (lC 35 rfl (by first | decide | omega) (aB (aC (aD ?_)))))))))
 refine cO rfl (aL (aC (aD (aT (aD (aA (wq (mC 1 _ tL bH rfl rfl (by decide) (by decide) rfl rfl) rfl (aR fY M24 rfl rfl (fun b25 w25 M25 => (bB 10 _ bH M25 rfl rfl rfl rfl rfl (aQ rfl) rfl (fun w26 M26 => (aB (aC ?_)))))))))))))
 refine bS [(0, 0), (1, 1), (2, 1), (3, 1), (5, 1), (4, 2), (6, 2)] mixed rfl (by kernel_rfl) (fun w27 hb27 hh27 => ?_)
 have M27 := M26.drew hb27 hh27
 refine aY rfl rfl rfl (fun _ => aG (.func _ _ _) rfl) (cB rfl rfl rfl (aZ 0 bH M27 rfl rfl rfl) (cB rfl rfl rfl (aZ 1 bH M27 rfl rfl rfl) (cB rfl rfl rfl (aZ 10 bH M27 rfl rfl rfl) (cB rfl rfl rfl (aZ 10 bH M27 rfl rfl rfl) (dO [false, true, true, true] rfl (by kernel_rfl) ?_)))))
 refine bX aCl rfl rfl (jT _ ap aq bq h1 h2.hq) ?_
 rintro v28 w28 ⟨rfl, hb28⟩
 have M28 := M27.callB hb28
 refine aB (aC ⟨(eQ (bO rfl (aZ 10 bH M28 rfl rfl rfl)) dN), ?_⟩)
 refine dO [true] rfl (by kernel_rfl) (bX aCu rfl rfl (vV _ s (dU ap aq bq) bq _ _ _ (eS h1) h2.hq (M28.ownSeg 4 3)) ?_)
 rintro v29 w29 ⟨rfl, hM29⟩
 have M29 : Mem _ _ [_, _, _, _, _, _, _, _, _, _, _] _ := M28.seg 4 3 hM29
 obtain ⟨s, hs⟩ : ∃ z, z = fI s (dU ap aq bq) bq := ⟨_, rfl⟩
 rw [← hs] at M29
 replace hC := hC.step (x := (dU ap aq bq)) (y := bq) (eS h1) h2.hq
 rw [← hs] at hC
 replace hS := hs.trans (congrArg (fun z => fI z (dU ap aq bq) bq) hS)
 refine aB (aC ⟨dN, ?_⟩)
 refine cF (cV (aC (aA (wq (bM rfl rfl (by first | decide | omega) (by first | decide | omega)) rfl (aS 44 (.int .i64 2) (iE (by first | decide | omega)) (aV rfl rfl ?_))))))
 refine aB (aC (gX (aD (aA (cS rfl rfl rfl rfl (uQ 35 rfl (by first | decide | omega) (aB (aC (aD ?_)))))))))
 refine cD rfl (cN (cX (cX (eT (aC (aD (bS [(0, 1), (1, 1), (2, 1), (3, 2), (4, 2), (5, 2)] mixed rfl (by kernel_rfl) (fun w30 hb30 hh30 => ?_))))))))
 have M30 := M29.drew hb30 hh30
 refine cB rfl rfl rfl (aZ 4 bH M30 rfl rfl rfl) (cB rfl rfl rfl (aZ 5 bH M30 rfl rfl rfl) (cB rfl rfl rfl (aM 6 (.int _ _) oT M30 rfl rfl rfl) (dO [false, false, true] rfl (by kernel_rfl) (bB 4 _ bH M30 rfl rfl rfl rfl rfl (aQ rfl) rfl (fun w31 M31 => ?_)))))
 refine aB (aC ⟨(eQ (bO rfl (aM 6 (.int _ _) oT M31 rfl rfl rfl)) (eQ (bO rfl (aZ 5 bH M31 rfl rfl rfl)) dN)), ?_⟩)
 refine dO [false, true] rfl (by kernel_rfl) (bB 5 _ bH M31 rfl rfl rfl rfl rfl (aQ rfl) rfl (fun w32 M32 => ?_))
 refine aB (aC ⟨(eQ (bO rfl (aM 6 (.int _ _) oT M32 rfl rfl rfl)) dN), ?_⟩)
 refine dO [true] rfl (by kernel_rfl) (dE 6 (.int _ _) oT M32 rfl rfl rfl rfl rfl rfl (fun w33 M33 => ?_))
 refine aB (aC ⟨dN, ?_⟩)
 refine cF (aC (aN (aZp 4 5 6 bH oT M33 rfl rfl rfl rfl rfl rfl rfl rfl ?_)))
 exact ⟨by rw [show s = oE ap aq bp bq from hS], M33.below⟩
set_option maxHeartbeats 4000000 in
theorem aJj (w : World) (ap aq bp bq : Pt) (h1 : SgI ap aq) (h2 : SgI bp bq) :
  Calls Tryz.prog 199 #[(.agg (cL ap).toArray), (.agg (cL aq).toArray), (.agg (cL bp).toArray), (.agg (cL bq).toArray)] w (fun ex w' => ∃ v, ex = .returned v ∧ (fun v w' => v = .tuple #[(.agg (cL (oE ap aq bp bq).1).toArray), (.agg (cL (oE ap aq bp bq).2.1).toArray)] ∧ Below w.heap.size w w') v w') := by
 refine aH #[.cell 8 38, .cell 9 38] 21 Tryz.func199 rfl Tryz.results199 Tryz.ntmps199 rfl ?_
 have M0 := Mem.refl w
 refine aD (aA (bJ (.agg (List.toArray _)) M0 rfl rfl rfl (fun b1 w1 M1 => (bJ (.agg (List.toArray _)) M1 rfl rfl rfl (fun b2 w2 M2 => (bJ (.agg (List.toArray _)) M2 rfl rfl rfl (fun b3 w3 M3 => (bJ (.agg (List.toArray _)) M3 rfl rfl rfl (fun b4 w4 M4 => (aR fY M4 rfl rfl (fun b5 w5 M5 => ?_)))))))))))
 refine aR fY M5 rfl rfl (fun b6 w6 M6 => (aB (aC (aD (aA (wq (aZ 0 bH M6 rfl rfl rfl) rfl (wq (aZ 1 bH M6 rfl rfl rfl) rfl (wq (aZ 2 bH M6 rfl rfl rfl) rfl (wq (aZ 3 bH M6 rfl rfl rfl) rfl ?_)))))))))
 refine bX bBy rfl rfl (aJl _ ap aq bp bq h1 h2) ?_
 rintro v7 w7 ⟨rfl, hb7⟩
 have M7 := M6.callB hb7
 refine wq (aG (.tuple (List.toArray _)) rfl) rfl (wq (bE (.agg (List.toArray _)) rfl rfl) rfl (wq (bE (.agg (List.toArray _)) rfl rfl) rfl (wq (bE (.int _ _) rfl rfl) rfl (bB 4 _ bH M7 rfl rfl rfl rfl rfl (aQ rfl) rfl (fun w8 M8 => (bB 5 _ bH M8 rfl rfl rfl rfl rfl (aQ rfl) rfl (fun w9 M9 => ?_)))))))
 refine aB (aC (aD (bS [(0, 1), (1, 1), (2, 2), (3, 2)] mixed rfl (by kernel_rfl) (fun w10 hb10 hh10 => ?_))))
 have M10 := M9.drew hb10 hh10
 refine cB rfl rfl rfl (aZ 4 bH M10 rfl rfl rfl) (cB rfl rfl rfl (aZ 5 bH M10 rfl rfl rfl) (dO [false, true] rfl (by kernel_rfl) (bB 4 _ bH M10 rfl rfl rfl rfl rfl (aQ rfl) rfl (fun w11 M11 => ?_))))
 refine aB (aC ⟨(eQ (bO rfl (aZ 5 bH M11 rfl rfl rfl)) dN), ?_⟩)
 refine dO [true] rfl (by kernel_rfl) (bB 5 _ bH M11 rfl rfl rfl rfl rfl (aQ rfl) rfl (fun w12 M12 => ?_))
 refine aB (aC ⟨dN, ?_⟩)
 refine cF (aC (aN (aMb 4 5 bH M12 rfl rfl rfl rfl rfl rfl ?_)))
 exact ⟨rfl, M12.below⟩
set_option maxHeartbeats 4000000 in
theorem vQ (w : World) (b : Body) (hb : Okb b) :
  Calls Tryz.prog 198 #[(.agg (aF b).toArray)] w (fun ex w' => ∃ v, ex = .returned v ∧ (fun v w' => v = (.agg (kW b).toArray) ∧ Below w.heap.size w w') v w') := by
 refine aH #[.cell 2 239] 14 Tryz.func198 rfl Tryz.results198 Tryz.ntmps198 rfl ?_
 have M0 := Mem.refl w
 refine aD (aA (bJ (.agg (List.toArray _)) M0 rfl rfl rfl (fun b1 w1 M1 => (aR sM M1 rfl rfl (fun b2 w2 M2 => (aB (aC (aD (aA (wq (aZ 0 bN M2 rfl rfl rfl) rfl (bX bBl rfl rfl (aOl _ b hb) ?_)))))))))))
 rintro v3 w3 ⟨rfl, hb3⟩
 have M3 := M2.callB hb3
 refine wq (aG (.tuple (List.toArray _)) rfl) rfl (wq (bE (.agg (List.toArray _)) rfl rfl) rfl (wq (bE (.agg (List.toArray _)) rfl rfl) rfl (aR fY M3 rfl rfl (fun b4 w4 M4 => (aR fY M4 rfl rfl (fun b5 w5 M5 => (bB 2 _ bH M5 rfl rfl rfl rfl rfl (aQ rfl) rfl (fun w6 M6 => ?_))))))))
 refine bB 3 _ bH M6 rfl rfl rfl rfl rfl (aQ rfl) rfl (fun w7 M7 => (aB (aC (aD (aA (wq (aZ 0 bN M7 rfl rfl rfl) rfl (wq (aZ 2 bH M7 rfl rfl rfl) rfl (wq (aZ 3 bH M7 rfl rfl rfl) rfl (wq (cM [(0, .agg (List.toArray _)), (1, .agg (List.toArray _)), (2, .agg (List.toArray _))] _ aMq rfl rfl) rfl ?_)))))))))
 refine bB 1 _ kG M7 rfl rfl rfl rfl rfl (aQ rfl) rfl (fun w8 M8 => (aB (aC (aN (fT 1 kG M8 rfl rfl rfl ?_)))))
 exact ⟨rfl, M8.below⟩
set_option maxHeartbeats 4000000 in
theorem aYf (w : World) (a b : Body) (ha : Okb a) (hb : Okb b) :
  Calls Tryz.prog 171 #[(.agg (aF a).toArray), (.agg (aF b).toArray)] w (fun ex w' => ∃ v, ex = .returned v ∧ (fun v w' => v = .tuple #[(.agg (kW (loB a b)).toArray), (.agg (kW (hiB a b)).toArray)] ∧ Below w.heap.size w w') v w') := by
 refine aH #[.cell 4 239, .cell 5 239] 17 Tryz.func171 rfl Tryz.results171 Tryz.ntmps171 rfl ?_
 have M0 := Mem.refl w
 refine aD (aA (bJ (.agg (List.toArray _)) M0 rfl rfl rfl (fun b1 w1 M1 => (bJ (.agg (List.toArray _)) M1 rfl rfl rfl (fun b2 w2 M2 => (aR sM M2 rfl rfl (fun b3 w3 M3 => (aR sM M3 rfl rfl (fun b4 w4 M4 => (aB (aC (aD (aD (aA ?_))))))))))))))
 refine wq (aE 0 eK rfl) rfl (wq (aM 0 (.int _ _) bW M4 rfl rfl rfl) rfl (wq (aE 0 eK rfl) rfl (wq (aM 1 (.int _ _) bW M4 rfl rfl rfl) rfl (cS rfl rfl rfl rfl (aB (aC ?_))))))
 refine aW rfl (fun h10 => ?_) (fun h10 => ?_)
 ·refine aA (wq (aZ 1 bN M4 rfl rfl rfl) rfl (wq (aZ 0 bN M4 rfl rfl rfl) rfl (bB 0 _ bN M4 rfl rfl rfl rfl rfl (aQ rfl) rfl (fun w5 M5 => (bB 1 _ bN M5 rfl rfl rfl rfl rfl (aQ rfl) rfl (fun w6 M6 => (aB (aC (aD ?_)))))))))
  refine bS [(0, 1), (2, 1), (1, 2), (3, 2), (4, 2), (5, 2)] mixed rfl (by kernel_rfl) (fun w7 hb7 hh7 => ?_)
  have M7 := M6.drew hb7 hh7
  refine cB rfl rfl rfl (aZ 0 bN M7 rfl rfl rfl) (cB rfl rfl rfl (aZ 1 bN M7 rfl rfl rfl) (dO [false, true] rfl (by kernel_rfl) (bX aEa rfl rfl (vQ _ b hb) ?_)))
  rintro v8 w8 ⟨rfl, hb8⟩
  have M8 := M7.callB hb8
  refine aB (aC ⟨(eQ (bO rfl (aZ 1 bN M8 rfl rfl rfl)) dN), ?_⟩)
  refine dO [true] rfl (by kernel_rfl) (bX aEa rfl rfl (vQ _ a ha) ?_)
  rintro v9 w9 ⟨rfl, hb9⟩
  have M9 := M8.callB hb9
  refine aB (aC ⟨dN, ?_⟩)
  refine dO [] rfl (by kernel_rfl) (bB 2 _ kG M9 rfl rfl rfl rfl rfl (aQ rfl) rfl (fun w10 M10 => ?_))
  refine aB (aC ⟨dN, ?_⟩)
  refine dO [] rfl (by kernel_rfl) (bB 3 _ kG M10 rfl rfl rfl rfl rfl (aQ rfl) rfl (fun w11 M11 => ?_))
  refine aB (aC ⟨dN, ?_⟩)
  refine cF (aC (aN (aMb 2 3 kG M11 rfl rfl rfl rfl rfl rfl ?_)))
  exact ⟨by unfold loB hiB; first | rw [if_pos (by omega), if_pos (by omega)] | rw [if_neg (by omega), if_neg (by omega)], M11.below⟩
 ·refine aL (aC (aD (bS [(0, 1), (2, 1), (1, 2), (3, 2), (4, 2), (5, 2)] mixed rfl (by kernel_rfl) (fun w12 hb12 hh12 => ?_))))
  have M12 := M4.drew hb12 hh12
  refine cB rfl rfl rfl (aZ 0 bN M12 rfl rfl rfl) (cB rfl rfl rfl (aZ 1 bN M12 rfl rfl rfl) (dO [false, true] rfl (by kernel_rfl) (bX aEa rfl rfl (vQ _ a ha) ?_)))
  rintro v13 w13 ⟨rfl, hb13⟩
  have M13 := M12.callB hb13
  refine aB (aC ⟨(eQ (bO rfl (aZ 1 bN M13 rfl rfl rfl)) dN), ?_⟩)
  refine dO [true] rfl (by kernel_rfl) (bX aEa rfl rfl (vQ _ b hb) ?_)
  rintro v14 w14 ⟨rfl, hb14⟩
  have M14 := M13.callB hb14
  refine aB (aC ⟨dN, ?_⟩)
  refine dO [] rfl (by kernel_rfl) (bB 2 _ kG M14 rfl rfl rfl rfl rfl (aQ rfl) rfl (fun w15 M15 => ?_))
  refine aB (aC ⟨dN, ?_⟩)
  refine dO [] rfl (by kernel_rfl) (bB 3 _ kG M15 rfl rfl rfl rfl rfl (aQ rfl) rfl (fun w16 M16 => ?_))
  refine aB (aC ⟨dN, ?_⟩)
  refine cF (aC (aN (aMb 2 3 kG M16 rfl rfl rfl rfl rfl rfl ?_)))
  exact ⟨by unfold loB hiB; first | rw [if_pos (by omega), if_pos (by omega)] | rw [if_neg (by omega), if_neg (by omega)], M16.below⟩
set_option maxHeartbeats 4000000 in
theorem aVw (w : World) (a b : Body) (ha : Okb a) (hb : Okb b) :
  Calls Tryz.prog 172 #[(.agg (kW a).toArray), (.agg (kW b).toArray)] w (fun ex w' => ∃ v, ex = .returned v ∧ (fun v w' => v = .tuple #[.int .i64 (zB (uZ a b)), .int .i64 (xL (uZ a b)), .int .i64 (a.radius + b.radius)] ∧ Below w.heap.size w w') v w') := by
 have hra := ha.r
 have hrb := hb.r
 have hch := yW ha hb
 refine aH #[.tmp 4, .tmp 5, .tmp 6] 38 Tryz.func172 rfl Tryz.results172 Tryz.ntmps172 rfl ?_
 have M0 := Mem.refl w
 refine aD (aA (bJ (.agg (List.toArray _)) M0 rfl rfl rfl (fun b1 w1 M1 => (bJ (.agg (List.toArray _)) M1 rfl rfl rfl (fun b2 w2 M2 => (bI rfl rfl (bI rfl rfl (bI rfl rfl ?_))))))))
 refine aB (aC (aD (aA (wq (aE 10 aGs rfl) rfl (wq (mM 0 _ bH M2 rfl rfl rfl rfl) rfl (wq (aE 12 aEv rfl) rfl (wq (mM 0 _ bH M2 rfl rfl rfl rfl) rfl (wq (aE 10 aGs rfl) rfl ?_))))))))
 refine wq (mM 1 _ bH M2 rfl rfl rfl rfl) rfl (wq (aE 12 aEv rfl) rfl (wq (mM 1 _ bH M2 rfl rfl rfl rfl) rfl (bX bBh rfl rfl (aJj _ (aGa a) (aGd a) (aGa b) (aGd b) (vX ha) (vX hb)) ?_)))
 rintro v3 w3 ⟨rfl, hb3⟩
 have M3 := M2.callB hb3
 refine wq (aG (.tuple (List.toArray _)) rfl) rfl (wq (bE (.agg (List.toArray _)) rfl rfl) rfl (wq (bE (.agg (List.toArray _)) rfl rfl) rfl (aR fY M3 rfl rfl (fun b4 w4 M4 => (aR fY M4 rfl rfl (fun b5 w5 M5 => (bB 2 _ bH M5 rfl rfl rfl rfl rfl (aQ rfl) rfl (fun w6 M6 => ?_))))))))
 refine bB 3 _ bH M6 rfl rfl rfl rfl rfl (aQ rfl) rfl (fun w7 M7 => (aB (aC (aD (aA (wq (aZ 2 bH M7 rfl rfl rfl) rfl (wq (aZ 3 bH M7 rfl rfl rfl) rfl (bX wT rfl rfl (oY _ (uZ a b).1 (uZ a b).2.1 hch.a.i32 hch.b.i32) ?_))))))))
 rintro v8 w8 ⟨rfl, hb8⟩
 have M8 := M7.callB hb8
 refine wq (aG (.tuple (List.toArray _)) rfl) rfl (wq (bE (.int _ _) rfl rfl) rfl (wq (bE (.int _ _) rfl rfl) rfl (bI rfl rfl (bI rfl rfl (aB (aC (aD ?_)))))))
 refine bS [(0, 0), (1, 0), (2, 0), (3, 0), (4, 1), (5, 0), (6, 0), (7, 0), (8, 1), (9, 0), (10, 0), (11, 0), (12, 0), (13, 0)] mixed rfl (by kernel_rfl) (fun w9 hb9 hh9 => ?_)
 have M9 := M8.drew hb9 hh9
 refine gD rfl rfl rfl (gD rfl rfl rfl (aY rfl rfl rfl (fun _ => aE 0 rT rfl) (aY rfl rfl rfl (fun _ => aE 1 nB rfl) (cB rfl rfl rfl (aM 0 (.int _ _) aU M9 rfl rfl rfl) (aY rfl rfl rfl (fun _ => bR fL Tryz.underlying2 rfl (kC _ (by omega) (by omega))) ?_)))))
 refine aY rfl rfl rfl (fun _ => aE 0 rT rfl) (aY rfl rfl rfl (fun _ => aE 1 nB rfl) (cB rfl rfl rfl (aM 1 (.int _ _) aU M9 rfl rfl rfl) (aY rfl rfl rfl (fun _ => bR fL Tryz.underlying2 rfl (kC _ (by omega) (by omega))) (aY rfl rfl rfl (fun _ => bM rfl rfl (by omega) (by omega)) ?_))))
 refine pW rfl rfl rfl (pW rfl rfl rfl (pW rfl rfl rfl (cF (aC (aN (bFr (.int _ _) (.int _ _) (.int _ _) rfl rfl rfl ?_))))))
 exact ⟨rfl, M9.below⟩
set_option maxHeartbeats 4000000 in
theorem yM (w : World) (a b : Body) (ha : Okb a) (hb : Okb b) :
  Calls Tryz.prog 137 #[(.agg (aF a).toArray), (.agg (aF b).toArray)] w (fun ex w' => ∃ v, ex = .returned v ∧ (fun v w' => v = .tuple #[.agg (bBj (nW a b)).toArray, .bool (nW a b).isSome] ∧ Below w.heap.size w w') v w') := by
 obtain ⟨hlo, hhi⟩ := bAx ha hb
 have hd := aZa hlo hhi
 have hl := aDn hd.1 hd.2
 have hss := aZq hlo hhi
 have hr1 := hlo.r
 have hr2 := hhi.r
 refine aH #[.cell 4 121, .tmp 5] 52 Tryz.func137 rfl Tryz.results137 Tryz.ntmps137 rfl ?_
 have M0 := Mem.refl w
 refine aD (aA (bJ (.agg (List.toArray _)) M0 rfl rfl rfl (fun b1 w1 M1 => (bJ (.agg (List.toArray _)) M1 rfl rfl rfl (fun b2 w2 M2 => (aR rU M2 rfl rfl (fun b3 w3 M3 => (wq (aI (.bool false) rfl) rfl (aB (aC (aD (aA ?_))))))))))))
 refine wq (aZ 0 bN M3 rfl rfl rfl) rfl (wq (aZ 1 bN M3 rfl rfl rfl) rfl (bX bCb rfl rfl (aYf _ a b ha hb) ?_))
 rintro v4 w4 ⟨rfl, hb4⟩
 have M4 := M3.callB hb4
 refine wq (aG (.tuple (List.toArray _)) rfl) rfl (wq (bE (.agg (List.toArray _)) rfl rfl) rfl (wq (bE (.agg (List.toArray _)) rfl rfl) rfl (aR sM M4 rfl rfl (fun b5 w5 M5 => (aR sM M5 rfl rfl (fun b6 w6 M6 => (bB 3 _ kG M6 rfl rfl rfl rfl rfl (aQ rfl) rfl (fun w7 M7 => ?_))))))))
 refine bB 4 _ kG M7 rfl rfl rfl rfl rfl (aQ rfl) rfl (fun w8 M8 => (aB (aC (aD (aA (wq (aZ 3 kG M8 rfl rfl rfl) rfl (wq (aZ 4 kG M8 rfl rfl rfl) rfl (bX aZo rfl rfl (aVw _ (loB a b) (hiB a b) hlo hhi) ?_))))))))
 rintro v9 w9 ⟨rfl, hb9⟩
 have M9 := M8.callB hb9
 refine wq (aG (.tuple (List.toArray _)) rfl) rfl (wq (bE (.int _ _) rfl rfl) rfl (wq (bE (.int _ _) rfl rfl) rfl (wq (bE (.int _ _) rfl rfl) rfl (bI rfl rfl (bI rfl rfl ?_)))))
 refine bI rfl rfl (aB (aC (aD (aD (aA (aV rfl rfl (aV rfl rfl (bX aJx rfl rfl (nC _ (zB (uZ (loB a b) (hiB a b))) (xL (uZ (loB a b) (hiB a b))) hd.1 hd.2) ?_))))))))
 rintro v10 w10 ⟨rfl, hb10⟩
 have M10 := M9.callB hb10
 refine aV rfl rfl (aV rfl rfl (wq (fS rfl rfl (by omega) (by omega)) rfl (wq (dS us2 Tryz.underlying170 rfl) rfl (aS 31 (.int .u64 ((((loB a b).radius + (hiB a b).radius).natAbs * ((loB a b).radius + (hiB a b).radius).natAbs : Nat) : Int)) (iE (aWg _ hss)) (cS rfl rfl rfl rfl ?_)))))
 refine aB (aC ?_)
 refine aW rfl (fun h32 => ?_) (fun h32 => ?_)
 ·refine aD (aA (wq (cM [] _ aBy rfl rfl) rfl (bB 2 _ fZ M10 rfl rfl rfl rfl rfl (aQ rfl) rfl (fun w11 M11 => (wq (aI (.bool false) rfl) rfl (aB (aC (aN (cC (aAu (v2 := .bool false) 2 fZ M11 rfl rfl rfl rfl ?_))))))))))
  exact ⟨by rw [aEi]; unfold nE; first | (rw [if_pos (by omega)]; rfl) | (rw [if_neg (by omega)]; rfl), M11.below⟩
 ·refine aL (aC (aD (aA (wq (aE 0 rT rfl) rfl (wq (aE 0 eK rfl) rfl (wq (aM 3 (.int _ _) bW M10 rfl rfl rfl) rfl (wq (aE 0 rT rfl) rfl (wq (aE 0 eK rfl) rfl ?_))))))))
  refine wq (aM 4 (.int _ _) bW M10 rfl rfl rfl) rfl (wq (cM [(0, .int _ _), (1, .int _ _)] _ aBx rfl rfl) rfl (aR pU M10 rfl rfl (fun b12 w12 M12 => (bB 5 _ fP M12 rfl rfl rfl rfl rfl (aQ rfl) rfl (fun w13 M13 => (aB (aC (aD (bS [(0, 1), (1, 0), (2, 0), (4, 0), (5, 0), (6, 0), (3, 2), (7, 2), (8, 0), (9, 0), (10, 0), (11, 2), (12, 0)] mixed rfl (by kernel_rfl) (fun w14 hb14 hh14 => ?_))))))))))
  have M14 := M13.drew hb14 hh14
  refine cB rfl rfl rfl (aZ 5 fP M14 rfl rfl rfl) (gD rfl rfl rfl (gD rfl rfl rfl (gD rfl rfl rfl (gD rfl rfl rfl (gD rfl rfl rfl ?_)))))
  refine dO [false] rfl (by kernel_rfl) (bX bCs rfl rfl (aSt _ (zB (uZ (loB a b) (hiB a b))) (xL (uZ (loB a b) (hiB a b))) hd.1 hd.2) ?_)
  rintro v15 w15 ⟨rfl, hb15⟩
  have M15 := M14.callB hb15
  refine aB (aC ⟨(eQ (bO rfl (aZ 5 fP M15 rfl rfl rfl)) dN), ?_⟩)
  refine dO [false] rfl (by kernel_rfl) (bX aSr rfl rfl (yO _ (zB (uZ (loB a b) (hiB a b))) (xL (uZ (loB a b) (hiB a b))) hd.1 hd.2) ?_)
  rintro v16 w16 ⟨rfl, hb16⟩
  have M16 := M15.callB hb16
  refine aB (aC ⟨(eQ (bO rfl (aZ 5 fP M16 rfl rfl rfl)) dN), ?_⟩)
  refine aY rfl rfl rfl (fun _ => lA rfl rfl (by omega) (by omega)) (aY rfl rfl rfl (fun _ => dS us2 Tryz.underlying21 rfl) (aY rfl rfl rfl (fun _ => cM [(0, .agg (List.toArray _)), (1, .agg (List.toArray _)), (2, .int _ _)] _ aBy rfl rfl) (dO [true] rfl (by kernel_rfl) (bB 2 _ fZ M16 rfl rfl rfl rfl rfl (aQ rfl) rfl (fun w17 M17 => ?_)))))
  refine aB (aC ⟨dN, ?_⟩)
  refine aY rfl rfl rfl (fun _ => aI (.bool true) rfl) (cF (aC (aN (aAu (v2 := .bool true) 2 fZ M17 rfl rfl rfl rfl ?_))))
  exact ⟨by rw [aEi]; unfold nE; first | (rw [if_pos (by omega)]; rfl) | (rw [if_neg (by omega)]; rfl), M17.below⟩
end Go.Proofs.YtlmcphcgiclanaaGreatDoor
