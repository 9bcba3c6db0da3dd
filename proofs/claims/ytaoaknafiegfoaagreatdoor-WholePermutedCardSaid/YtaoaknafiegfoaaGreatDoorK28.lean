/- Part of the proof of the laws of this seat: Z1, Z1b, Z1c, Z1d, W3, Z2, W4, Z3, Z4, W5, W6. No conditions. -/
import Derived.Test.YtaoaknafiegfoaaGreatDoorK2
import Derived.Test.YtaoaknafiegfoaaGreatDoorK5
import Derived.Test.YtaoaknafiegfoaaGreatDoorK12
import Derived.Test.YtaoaknafiegfoaaGreatDoorK18
import Derived.Test.YtaoaknafiegfoaaGreatDoorK11
import Derived.Test.YtaoaknafiegfoaaGreatDoorK17
set_option linter.unusedVariables false
set_option linter.unusedSimpArgs false
set_option linter.unnecessarySimpa false
namespace Go.Proofs.YtaoaknafiegfoaaGreatDoor
open Go.Bil
open Go.RowKit (Below)
open Go.Proofs
set_option maxHeartbeats 8000000 in
theorem bJh (w : World) (n : Nat) (hn : n < 18446744073709551616) :
  Calls Tryz.prog 242 #[.int .u64 (n : Int)] w (fun ex w' => ∃ v, ex = .returned v ∧ (fun v w' => v = .int .u64 ((uV n : Nat) : Int) ∧ Below w.heap.size w w') v w') := by
 refine aH #[.tmp 2] 32 Tryz.func242 rfl Tryz.results242 Tryz.ntmps242 rfl ?_
 have M0 := Mem.refl w
 refine aD (aA (bP rfl rfl (aB (aC (aD (aA (aY rfl rfl (bP rfl rfl (bP rfl rfl ?_)))))))))
 refine aB (aC (aD (aD (aA (aY rfl rfl (aB (aC (aS (dK (σ := Nat × Nat × Nat) [2] (fun (i, R, e) => [(8, .int .i64 (i : Int)), (3, .int .u64 ((n - R * R : Nat) : Int)), (4, .int .u64 ((R * e : Nat) : Int))]) (fun (i, R, e) w' => Iq n i R e ∧ Mem w [] [] w') (fun (i, R, e) => 32 - i) (0, 0, 4294967296) (bR rfl (bR (iv rfl (by simp)) (bR (iv rfl (by simp)) eZ))) (⟨bAg hn, M0⟩) ?_)))))))))
 rintro ⟨i, R, e⟩ ρ1 w1 ⟨I, hM1⟩
 have hile := I.ile
 have hle := I.le
 refine aD (aA (dA rfl rfl rfl rfl (aB (aC (aD ?_)))))
 refine aZ rfl (fun h9 => ?_) (fun h9 => ?_)
 ·obtain ⟨f, hf1, hf2, hf3, hf4, hf5, hf6, hf7, hf8, hfy, hfn⟩ := bAl (by omega) I
  refine aK (aC (aD (aS (aD (aA (aY rfl rfl (bP rfl rfl (aB (aC (aD (aA (aY rfl rfl (wq (gE rfl rfl (by omega) (by omega)) rfl ?_)))))))))))))
  refine wq (gM rfl rfl (by omega)) rfl (aT 13 (.int .u64 ((f * f : Nat) : Int)) (iE ((aYq (2 * i) _ (by omega) (by omega)).trans (congrArg _ hf4))) (bP rfl rfl (aB (aC (aD (aA (aY rfl rfl (aY rfl rfl ?_))))))))
  refine aY rfl rfl (wq (dO (.int _ _) rfl rfl rfl) rfl (aT 17 (.int .u64 ((R * e + f * f : Nat) : Int)) (iE (by rw [rT]; omega)) (dA rfl rfl rfl rfl (aB (aC ?_)))))
  refine aZ rfl (fun h18 => ?_) (fun h18 => ?_)
  ·have h18' : R * e + f * f ≤ n - R * R := by omega
   refine aD (aA (aY rfl rfl (aY rfl rfl (aY rfl rfl (wq (dO (.int _ _) rfl rfl rfl) rfl (aT 22 (.int .u64 ((R * e + f * f : Nat) : Int)) (iE (by rw [rT]; omega)) ?_))))))
   refine wq (dO (.int _ _) rfl rfl rfl) rfl (aT 23 (.int .u64 ((n - (R + f) * (R + f) : Nat) : Int)) (iE (by rw [rT]; omega)) (bP rfl rfl (aB (aC (aA (aY rfl rfl (wq (gM rfl rfl (by decide)) rfl ?_)))))))
   refine aT 25 (.int .u64 ((R * f : Nat) : Int)) (iE ((aUs (R * e)).trans (congrArg _ hf5))) (aY rfl rfl (wq (dO (.int _ _) rfl rfl rfl) rfl (aT 27 (.int .u64 (((R + f) * f : Nat) : Int)) (iE (by rw [rT]; omega)) (bP rfl rfl (aB ?_)))))
   refine dE (aC (aA (wq (bU rfl rfl (by omega) (by omega)) rfl (aY rfl rfl (aB ?_)))))
   refine cS (i + 1, R + f, f) (bR rfl (bR rfl (bR rfl eZ))) (cV rfl jQ) ?_ ?_
   ·exact ⟨hfy h18', hM1⟩
   ·(show 32 - (i + 1) < 32 - i; omega)
  ·have h18' : ¬ (R * e + f * f ≤ n - R * R) := by omega
   refine aA (aY rfl rfl (wq (gM rfl rfl (by decide)) rfl (aT 29 (.int .u64 ((R * f : Nat) : Int)) (iE ((aUs (R * e)).trans (congrArg _ hf5))) (bP rfl rfl (aB ?_)))))
   refine dE (aC (aA (wq (bU rfl rfl (by omega) (by omega)) rfl (aY rfl rfl (aB ?_)))))
   refine cS (i + 1, R, f) (bR rfl (bR rfl (bR rfl eZ))) (cV rfl jQ) ?_ ?_
   ·exact ⟨hfn h18', hM1⟩
   ·(show 32 - (i + 1) < 32 - i; omega)
 ·obtain rfl : i = 32 := by omega
  refine cR (cZ (cX (eQ (aC (aD (aA (aY rfl rfl ?_)))))))
  refine bP rfl rfl (aB (aC (aM (bW (.int _ _) rfl ?_))))
  exact ⟨iE (by rw [bAh I]), hM1.below⟩
set_option maxHeartbeats 4000000 in
theorem qC (w : World) (a b : Int × Int) (ha : I32 a) (hb : I32 b) :
  Calls Tryz.prog 239 #[(.agg (cQ a).toArray), (.agg (cQ b).toArray)] w (fun ex w' => ∃ v, ex = .returned v ∧ (fun v w' => v = .tuple #[.int .i64 (b.1 - a.1), .int .i64 (b.2 - a.2)] ∧ Below w.heap.size w w') v w') := by
 have hax := ha.x
 have hay := ha.y
 have hbx := hb.x
 have hby := hb.y
 refine aH #[.tmp 4, .tmp 5] 20 Tryz.func239 rfl Tryz.results239 Tryz.ntmps239 rfl ?_
 have M0 := Mem.refl w
 refine aD (aA (bG (.agg (List.toArray _)) M0 rfl rfl rfl (fun b1 w1 M1 => (bG (.agg (List.toArray _)) M1 rfl rfl rfl (fun b2 w2 M2 => (bP rfl rfl (bP rfl rfl (aB (aC (aD ?_))))))))))
 refine bO [(0, 0), (1, 1), (2, 0), (3, 0), (4, 1), (5, 0), (6, 0), (7, 0), (8, 1), (9, 0), (10, 0), (11, 1), (12, 0), (13, 0), (14, 0), (15, 0)] mixed rfl (by kernel_rfl) (fun w3 hb3 hh3 => ?_)
 have M3 := M2.drew hb3 hh3
 refine aV rfl rfl rfl (fun _ => aE 0 dR rfl) (bV rfl rfl rfl (aL 1 (.int _ _) aU M3 rfl rfl rfl) (aV rfl rfl rfl (fun _ => bZ fW Tryz.underlying2 rfl (kQ _ (by omega) (by omega))) (aV rfl rfl rfl (fun _ => aE 0 dR rfl) (bV rfl rfl rfl (aL 0 (.int _ _) aU M3 rfl rfl rfl) ?_))))
 refine aV rfl rfl rfl (fun _ => bZ fW Tryz.underlying2 rfl (kQ _ (by omega) (by omega))) (aV rfl rfl rfl (fun _ => mD rfl rfl (by omega) (by omega)) (aV rfl rfl rfl (fun _ => aE 1 dJ rfl) (bV rfl rfl rfl (aL 1 (.int _ _) aU M3 rfl rfl rfl) (aV rfl rfl rfl (fun _ => bZ fW Tryz.underlying2 rfl (kQ _ (by omega) (by omega))) ?_))))
 refine aV rfl rfl rfl (fun _ => aE 1 dJ rfl) (bV rfl rfl rfl (aL 0 (.int _ _) aU M3 rfl rfl rfl) (aV rfl rfl rfl (fun _ => bZ fW Tryz.underlying2 rfl (kQ _ (by omega) (by omega))) (aV rfl rfl rfl (fun _ => mD rfl rfl (by omega) (by omega)) (qN rfl rfl rfl (qN rfl rfl rfl ?_)))))
 refine cD (aC (aM (iH (.int _ _) (.int _ _) rfl rfl ?_)))
 exact ⟨rfl, M3.below⟩
set_option maxHeartbeats 4000000 in
theorem yR (w : World) (n : Int) (hn : xJ n) :
  Calls Tryz.prog 240 #[.int .i64 n] w (fun ex w' => ∃ v, ex = .returned v ∧ (fun v w' => v = .int .u64 ((n.natAbs * n.natAbs : Nat) : Int) ∧ Below w.heap.size w w') v w') := by
 have hlt := (zM hn hn).2.1
 unfold xJ at hn
 refine aH #[.tmp 2] 12 Tryz.func240 rfl Tryz.results240 Tryz.ntmps240 rfl ?_
 have M0 := Mem.refl w
 refine aD (aA (bP rfl rfl (aB (aC (aD (aD (aA (aY rfl rfl (dA rfl rfl rfl rfl (aB (aC ?_)))))))))))
 refine aZ rfl (fun h4 => ?_) (fun h4 => ?_)
 ·refine aA (aY rfl rfl (wq (yM rfl) rfl (aT 6 (.int .i64 (-n)) (iE (kQ _ (by omega) (by omega))) (bP rfl rfl (aB (aC (aD (aA ?_))))))))
  refine aY rfl rfl (wq (dU us2 Tryz.underlying237 rfl) rfl (aT 8 (.int .u64 ((n.natAbs : Nat) : Int)) (iE (by rw [rT]; omega)) (aY rfl rfl (wq (dU us2 Tryz.underlying237 rfl) rfl (aT 10 (.int .u64 ((n.natAbs : Nat) : Int)) (iE (by rw [rT]; omega)) ?_)))))
  refine wq (dO (.int _ _) rfl rfl rfl) rfl (aT 11 (.int .u64 ((n.natAbs * n.natAbs : Nat) : Int)) (iE (aQc _ _ (by omega))) (bP rfl rfl (aB (aC (aM (bW (.int _ _) rfl ?_))))))
  exact ⟨rfl, M0.below⟩
 ·refine aK (aC (aD (aA (aY rfl rfl (wq (dU us2 Tryz.underlying237 rfl) rfl (aT 8 (.int .u64 ((n.natAbs : Nat) : Int)) (iE (by rw [rT]; omega)) (aY rfl rfl (wq (dU us2 Tryz.underlying237 rfl) rfl ?_))))))))
  refine aT 10 (.int .u64 ((n.natAbs : Nat) : Int)) (iE (by rw [rT]; omega)) (wq (dO (.int _ _) rfl rfl rfl) rfl (aT 11 (.int .u64 ((n.natAbs * n.natAbs : Nat) : Int)) (iE (aQc _ _ (by omega))) (bP rfl rfl (aB (aC (aM (bW (.int _ _) rfl ?_)))))))
  exact ⟨rfl, M0.below⟩
set_option maxHeartbeats 4000000 in
theorem oL (w : World) (dx dy : Int) (hx : xJ dx) (hy : xJ dy) :
  Calls Tryz.prog 216 #[.int .i64 dx, .int .i64 dy] w (fun ex w' => ∃ v, ex = .returned v ∧ (fun v w' => v = .int .u64 ((lsq dx dy : Nat) : Int) ∧ Below w.heap.size w w') v w') := by
 have hl := zM hx hy
 refine aH #[.tmp 4] 10 Tryz.func216 rfl Tryz.results216 Tryz.ntmps216 rfl ?_
 have M0 := Mem.refl w
 refine aD (aA (bP rfl rfl (aB (aC (aD (aA (aY rfl rfl (bX aTf rfl rfl (yR _ dx hx) ?_))))))))
 rintro v1 w1 ⟨rfl, hb1⟩
 have M1 := M0.callB hb1
 refine aY rfl rfl (bX aTf rfl rfl (yR _ dy hy) ?_)
 rintro v2 w2 ⟨rfl, hb2⟩
 have M2 := M1.callB hb2
 refine wq (dO (.int _ _) rfl rfl rfl) rfl (aT 9 (.int .u64 ((lsq dx dy : Nat) : Int)) (iE (by rw [rT]; unfold lsq at *; omega)) (bP rfl rfl (aB (aC (aM (bW (.int _ _) rfl ?_))))))
 exact ⟨rfl, M2.below⟩
set_option maxHeartbeats 4000000 in
theorem zX (w : World) (dx dy : Int) (hx : xJ dx) (hy : xJ dy) :
  Calls Tryz.prog 218 #[.int .i64 dx, .int .i64 dy] w (fun ex w' => ∃ v, ex = .returned v ∧ (fun v w' => v = .int .i64 (len dx dy) ∧ Below w.heap.size w w') v w') := by
 have hl := aEl hx hy
 refine aH #[.tmp 4] 10 Tryz.func218 rfl Tryz.results218 Tryz.ntmps218 rfl ?_
 have M0 := Mem.refl w
 refine aD (aA (bP rfl rfl (aB (aC (aD (aA (aY rfl rfl (aY rfl rfl (bX aJv rfl rfl (oL _ dx dy hx hy) ?_)))))))))
 rintro v1 w1 ⟨rfl, hb1⟩
 have M1 := M0.callB hb1
 refine bX bEv rfl rfl (bJh _ (lsq dx dy) (zM hx hy).1) ?_
 rintro v2 w2 ⟨rfl, hb2⟩
 have M2 := M1.callB hb2
 refine wq (dU aCi Tryz.underlying2 rfl) rfl (aT 9 (.int .i64 (len dx dy)) (iE (kQ (len dx dy) (by omega) (by omega))) (bP rfl rfl (aB (aC (aM (bW (.int _ _) rfl ?_))))))
 exact ⟨rfl, M2.below⟩
set_option maxHeartbeats 4000000 in
theorem aCu (w : World) (a b : Int) (hb : 0 < b) (h0 : -1000000000000000000 ≤ a) (h1 : a ≤ 1000000000000000000) :
  Calls Tryz.prog 241 #[.int .i64 a, .int .i64 b] w (fun ex w' => ∃ v, ex = .returned v ∧ (fun v w' => v = .int .i64 (a / b) ∧ Below w.heap.size w w') v w') := by
 have hf := aIl (a := a) hb
 have hb1 := aJz a b
 refine aH #[.tmp 4] 16 Tryz.func241 rfl Tryz.results241 Tryz.ntmps241 rfl ?_
 have M0 := Mem.refl w
 refine aD (aA (bP rfl rfl (aB (aC (aD (aA (aY rfl rfl (aY rfl rfl (wq (aNb rfl rfl (by omega)) rfl ?_)))))))))
 refine aT 8 (.int .i64 (a.tdiv b)) (iE (kQ _ (by omega) (by omega))) (bP rfl rfl (aB (aC (aD (aD (aA (aY rfl rfl (aY rfl rfl (wq (aUx rfl rfl (by omega)) rfl ?_)))))))))
 refine dA rfl rfl rfl rfl (aB (aC ?_))
 refine aZ rfl (fun h12 => ?_) (fun h12 => ?_)
 ·refine aA (aY rfl rfl (wq (mD rfl rfl (by omega) (by omega)) rfl (bP rfl rfl (aB (aC (aD (aA (aY rfl rfl ?_))))))))
  refine bP rfl rfl (aB (aC (aM (bW (.int _ _) rfl ?_))))
  exact ⟨iE (by first | exact hf.1 (by omega) | exact hf.2 (by omega)), M0.below⟩
 ·refine aK (aC (aD (aA (aY rfl rfl (bP rfl rfl (aB (aC (aM (bW (.int _ _) rfl ?_)))))))))
  exact ⟨iE (by first | exact hf.1 (by omega) | exact hf.2 (by omega)), M0.below⟩
set_option maxHeartbeats 4000000 in
theorem aVw (w : World) (dx dy : Int) (hx : xJ dx) (hy : xJ dy) :
  Calls Tryz.prog 217 #[.int .i64 dx, .int .i64 dy] w (fun ex w' => ∃ v, ex = .returned v ∧ (fun v w' => v = (.agg (cQ (lQ dx dy)).toArray) ∧ Below w.heap.size w w') v w') := by
 have hl := aEl hx hy
 have hxx := hx
 have hyy := hy
 unfold xJ at hxx hyy
 refine aH #[.cell 4 37] 23 Tryz.func217 rfl Tryz.results217 Tryz.ntmps217 rfl ?_
 have M0 := Mem.refl w
 refine aD (aA (aQ gL M0 rfl rfl (fun b1 w1 M1 => (aB (aC (aD (aA (aY rfl rfl (aY rfl rfl (bX aVm rfl rfl (zX _ dx dy hx hy) ?_))))))))))
 rintro v2 w2 ⟨rfl, hb2⟩
 have M2 := M1.callB hb2
 refine bP rfl rfl (aB (aC (aD (aD (aA (aY rfl rfl (dA rfl rfl rfl rfl (aB (aC ?_)))))))))
 refine aZ rfl (fun h10 => ?_) (fun h10 => ?_)
 ·refine aD (aA (wq (cH [(0, .int _ _)] _ fE rfl rfl) rfl (bB 0 _ bM M2 rfl rfl rfl rfl rfl (aR rfl) rfl (fun w3 M3 => (aB (aC (aM (cE (eV 0 bM M3 rfl rfl rfl ?_)))))))))
  exact ⟨by unfold lQ; first | (rw [if_pos (by omega)]; rfl) | (rw [if_neg (by omega)]; rfl), M3.below⟩
 ·refine aK (aC (aD (aA (aY rfl rfl (wq (tK rfl rfl (by decide)) rfl (aT 13 (.int .i64 (dx * 65536)) (iE (aBs dx hx)) (aY rfl rfl (bX aTk rfl rfl (aCu _ (dx * 65536) (len dx dy) (by omega) (by omega) (by omega)) ?_))))))))
  rintro v4 w4 ⟨rfl, hb4⟩
  have M4 := M2.callB hb4
  refine wq (dU us2 Tryz.underlying21 rfl) rfl (aY rfl rfl (wq (tK rfl rfl (by decide)) rfl (aT 18 (.int .i64 (dy * 65536)) (iE (aBs dy hy)) (aY rfl rfl (bX aTk rfl rfl (aCu _ (dy * 65536) (len dx dy) (by omega) (by omega) (by omega)) ?_)))))
  rintro v5 w5 ⟨rfl, hb5⟩
  have M5 := M4.callB hb5
  refine wq (dU us2 Tryz.underlying21 rfl) rfl (wq (cH [(0, .int _ _), (1, .int _ _)] _ fE rfl rfl) rfl (bB 0 _ bM M5 rfl rfl rfl rfl rfl (aR rfl) rfl (fun w6 M6 => (aB (aC (aM (eV 0 bM M6 rfl rfl rfl ?_)))))))
  exact ⟨by unfold lQ; first | (rw [if_pos (by omega)]; rfl) | (rw [if_neg (by omega)]; rfl), M6.below⟩
set_option maxHeartbeats 4000000 in
theorem aQl (w : World) (b : Body) (hb : Okb b) :
  Calls Tryz.prog 258 #[(.agg (aF b).toArray)] w (fun ex w' => ∃ v, ex = .returned v ∧ (fun v w' => v = .tuple #[(.agg (cQ (aHm b)).toArray), (.agg (cQ (aJa b)).toArray)] ∧ Below w.heap.size w w') v w') := by
 have ha := hb.a
 have hp := hb.p
 refine aH #[.cell 2 37, .cell 3 37] 36 Tryz.func258 rfl Tryz.results258 Tryz.ntmps258 rfl ?_
 have M0 := Mem.refl w
 refine aD (aA (bG (.agg (List.toArray _)) M0 rfl rfl rfl (fun b1 w1 M1 => (aQ gL M1 rfl rfl (fun b2 w2 M2 => (aQ gL M2 rfl rfl (fun b3 w3 M3 => (aB (aC (aD (aA (wq (aE 6 fR rfl) rfl ?_))))))))))))
 refine wq (aE 0 dR rfl) rfl (wq (aL 0 (.int _ _) aU M3 rfl rfl rfl) rfl (wq (aE 2 jK rfl) rfl (wq (aE 0 dR rfl) rfl (wq (aL 0 (.int _ _) aU M3 rfl rfl rfl) rfl (wq (mC rfl rfl (lV _ (by omega) (by omega))) rfl ?_)))))
 refine wq (aE 6 fR rfl) rfl (wq (aE 1 dJ rfl) rfl (wq (aL 0 (.int _ _) aU M3 rfl rfl rfl) rfl (wq (aE 2 jK rfl) rfl (wq (aE 1 dJ rfl) rfl (wq (aL 0 (.int _ _) aU M3 rfl rfl rfl) rfl ?_)))))
 refine wq (mC rfl rfl (lV _ (by omega) (by omega))) rfl (wq (cH [(0, .int _ _), (1, .int _ _)] _ fE rfl rfl) rfl (bB 1 _ bM M3 rfl rfl rfl rfl rfl (aR rfl) rfl (fun w4 M4 => (aB (aC (aD (aA (wq (aE 6 fR rfl) rfl (wq (aE 0 dR rfl) rfl ?_)))))))))
 refine wq (aL 0 (.int _ _) aU M4 rfl rfl rfl) rfl (wq (aE 2 jK rfl) rfl (wq (aE 0 dR rfl) rfl (wq (aL 0 (.int _ _) aU M4 rfl rfl rfl) rfl (wq (iS rfl rfl (lV _ (by omega) (by omega))) rfl (wq (aE 6 fR rfl) rfl ?_)))))
 refine wq (aE 1 dJ rfl) rfl (wq (aL 0 (.int _ _) aU M4 rfl rfl rfl) rfl (wq (aE 2 jK rfl) rfl (wq (aE 1 dJ rfl) rfl (wq (aL 0 (.int _ _) aU M4 rfl rfl rfl) rfl (wq (iS rfl rfl (lV _ (by omega) (by omega))) rfl ?_)))))
 refine wq (cH [(0, .int _ _), (1, .int _ _)] _ fE rfl rfl) rfl (bB 2 _ bM M4 rfl rfl rfl rfl rfl (aR rfl) rfl (fun w5 M5 => (aB (aC (aD (bO [(0, 1), (1, 1), (2, 2), (3, 2)] mixed rfl (by kernel_rfl) (fun w6 hb6 hh6 => ?_)))))))
 have M6 := M5.drew hb6 hh6
 refine bV rfl rfl rfl (bC 1 bM M6 rfl rfl rfl) (bV rfl rfl rfl (bC 2 bM M6 rfl rfl rfl) (dG [false, true] rfl (by kernel_rfl) (bB 1 _ bM M6 rfl rfl rfl rfl rfl (aR rfl) rfl (fun w7 M7 => ?_))))
 refine aB (aC ⟨(eF (bK rfl (bC 2 bM M7 rfl rfl rfl)) dH), ?_⟩)
 refine dG [true] rfl (by kernel_rfl) (bB 2 _ bM M7 rfl rfl rfl rfl rfl (aR rfl) rfl (fun w8 M8 => ?_))
 refine aB (aC ⟨dH, ?_⟩)
 refine cD (aC (aM (aNx 1 2 bM M8 rfl rfl rfl rfl rfl rfl ?_)))
 exact ⟨rfl, M8.below⟩
set_option maxHeartbeats 4000000 in
theorem aGf (w : World) (p q c : Pt) (h : SgI p q) (hc : PtI c) :
  Calls Tryz.prog 282 #[(.agg (cQ p).toArray), (.agg (cQ q).toArray), (.agg (cQ c).toArray)] w (fun ex w' => ∃ v, ex = .returned v ∧ (fun v w' => v = .tuple #[.int .i64 (pE p q c), .int .i64 (lL p q)] ∧ Below w.heap.size w w') v w') := by
 have hD := sV h
 have hx := aPn h hc
 refine aH #[.tmp 6, .tmp 7] 42 Tryz.func282 rfl Tryz.results282 Tryz.ntmps282 rfl ?_
 have M0 := Mem.refl w
 refine aD (aA (bG (.agg (List.toArray _)) M0 rfl rfl rfl (fun b1 w1 M1 => (bG (.agg (List.toArray _)) M1 rfl rfl rfl (fun b2 w2 M2 => (bG (.agg (List.toArray _)) M2 rfl rfl rfl (fun b3 w3 M3 => (bP rfl rfl (bP rfl rfl ?_)))))))))
 refine aB (aC (aD (aA (wq (bC 0 bM M3 rfl rfl rfl) rfl (wq (bC 1 bM M3 rfl rfl rfl) rfl (bX aAd rfl rfl (qC _ p q h.hp.i32 h.hq.i32) ?_))))))
 rintro v4 w4 ⟨rfl, hb4⟩
 have M4 := M3.callB hb4
 refine wq (aG (.tuple (List.toArray _)) rfl) rfl (wq (bE (.int _ _) rfl rfl) rfl (wq (bE (.int _ _) rfl rfl) rfl (bP rfl rfl (bP rfl rfl (aB (aC (aD (aA ?_))))))))
 refine wq (bC 0 bM M4 rfl rfl rfl) rfl (wq (bC 2 bM M4 rfl rfl rfl) rfl (bX aAd rfl rfl (qC _ p c h.hp.i32 hc.i32) ?_))
 rintro v5 w5 ⟨rfl, hb5⟩
 have M5 := M4.callB hb5
 refine wq (aG (.tuple (List.toArray _)) rfl) rfl (wq (bE (.int _ _) rfl rfl) rfl (wq (bE (.int _ _) rfl rfl) rfl (bP rfl rfl (bP rfl rfl (aB (aC (aD (aA ?_))))))))
 refine aY rfl rfl (aY rfl rfl (wq (gE rfl rfl (by omega) (by omega)) rfl (aY rfl rfl (aY rfl rfl (wq (gE rfl rfl (by omega) (by omega)) rfl ?_)))))
 refine wq (bU rfl rfl (by omega) (by omega)) rfl (aT 30 (.int .i64 (lL p q)) rfl (bP rfl rfl (aB (aC (aD (aA (aY rfl rfl (aY rfl rfl ?_))))))))
 refine wq (gE rfl rfl (by omega) (by omega)) rfl (aY rfl rfl (aY rfl rfl (wq (gE rfl rfl (by omega) (by omega)) rfl (wq (bU rfl rfl (by omega) (by omega)) rfl (aY rfl rfl ?_)))))
 refine wq (zB rfl rfl ) rfl (wq (oR rfl rfl ) rfl (aY rfl rfl (bP rfl rfl (bP rfl rfl (aB (aC (aM ?_)))))))
 refine iH (.int _ _) (.int _ _) rfl rfl ?_
 exact ⟨rfl, M5.below⟩
set_option maxHeartbeats 4000000 in
theorem aCw (w : World) (f a n d : Int) (bn bd : Nat) (ha : -16777216 ≤ a ∧ a ≤ 16777216) (hn : 0 ≤ n) (hnd : n ≤ d) (hd0 : 0 < d) (hd : d ≤ 562949953421312) (h1 : -16777216 ≤ a * n / d ∧ a * n / d ≤ 16777216) (h2 : -1082130432 ≤ f + a * n / d ∧ f + a * n / d ≤ 1082130432) (K1 : Rd w 1 (some ⟨bn, 0, none⟩) 1 [[.int .i64 n]]) (K2 : Rd w 1 (some ⟨bd, 0, none⟩) 1 [[.int .i64 d]]) :
  Calls Tryz.prog 283 #[.int .i32 f, .int .i64 a, .pointer (some ⟨bn, 0, none⟩), .pointer (some ⟨bd, 0, none⟩)] w (fun ex w' => ∃ v, ex = .returned v ∧ (fun v w' => v = .int .i32 (f + a * n / d) ∧ Below w.heap.size w w') v w') := by
 rw [← eT bn, ← eT bd]
 refine aH #[.tmp 6] 20 Tryz.func283 rfl Tryz.results283 Tryz.ntmps283 rfl ?_
 have M0 := Mem.refl w
 refine aD (aA (bP rfl rfl (aB (aC (aD (aA (aY rfl rfl (wq (eJ (o := 0) (.int _ _) lS (K1.mem M0) (show ([[.int .i64 n]] : List (List Value))[0]? = some [.int .i64 n] from rfl) rfl rfl) rfl (wq (eJ (o := 0) (.int _ _) lS (K2.mem M0) (show ([[.int .i64 d]] : List (List Value))[0]? = some [.int .i64 d] from rfl) rfl rfl) rfl ?_)))))))))
 refine bX aFn rfl rfl (bFh _ a n d (by omega) hn hnd hd0 (by omega)) ?_
 rintro v1 w1 ⟨rfl, hb1⟩
 have M1 := M0.callB hb1
 refine wq (aG (.tuple (List.toArray _)) rfl) rfl (wq (bE (.int _ _) rfl rfl) rfl (wq (bE (.int _ _) rfl rfl) rfl (bP rfl rfl (bP rfl rfl (aB (aC (aD (aA ?_))))))))
 refine aY rfl rfl (aY rfl rfl (wq (bZ us2 Tryz.underlying21 rfl (lV _ (by omega) (by omega))) rfl (wq (iS rfl rfl (lV _ (by omega) (by omega))) rfl (bP rfl rfl (aB (aC (aM ?_)))))))
 refine bW (.int _ _) rfl ?_
 exact ⟨rfl, M1.below⟩
set_option maxHeartbeats 4000000 in
theorem kE (w : World) (p q c : Pt) (h : SgI p q) (hc : PtI c) :
  Calls Tryz.prog 277 #[(.agg (cQ p).toArray), (.agg (cQ q).toArray), (.agg (cQ c).toArray)] w (fun ex w' => ∃ v, ex = .returned v ∧ (fun v w' => v = (.agg (cQ (dV p q c)).toArray) ∧ Below w.heap.size w w') v w') := by
 have hD := sV h
 have hn := aGs (c := c) h
 have hx := h.x
 have hy := h.y
 refine aH #[.cell 6 37] 40 Tryz.func277 rfl Tryz.results277 Tryz.ntmps277 rfl ?_
 have M0 := Mem.refl w
 refine aD (aA (bG (.agg (List.toArray _)) M0 rfl rfl rfl (fun b1 w1 M1 => (bG (.agg (List.toArray _)) M1 rfl rfl rfl (fun b2 w2 M2 => (bG (.agg (List.toArray _)) M2 rfl rfl rfl (fun b3 w3 M3 => (aQ gL M3 rfl rfl (fun b4 w4 M4 => (aB (aC (aD (aA ?_)))))))))))))
 refine wq (bC 0 bM M4 rfl rfl rfl) rfl (wq (bC 1 bM M4 rfl rfl rfl) rfl (wq (bC 2 bM M4 rfl rfl rfl) rfl (bX bDu rfl rfl (aGf _ p q c h hc) ?_)))
 rintro v5 w5 ⟨rfl, hb5⟩
 have M5 := M4.callB hb5
 refine wq (aG (.tuple (List.toArray _)) rfl) rfl (wq (bE (.int _ _) rfl rfl) rfl (wq (bE (.int _ _) rfl rfl) rfl (aQ xV M5 rfl rfl (fun b6 w6 M6 => (aQ xV M6 rfl rfl (fun b7 w7 M7 => (dX 4 (.int _ _) lS M7 rfl rfl rfl rfl rfl rfl (fun w8 M8 => ?_))))))))
 refine dX 5 (.int _ _) lS M8 rfl rfl rfl rfl rfl rfl (fun w9 M9 => (aB (aC (aD (aD (aA (wq (aL 5 (.int _ _) lS M9 rfl rfl rfl) rfl (dA rfl rfl rfl rfl (aB (aC ?_))))))))))
 refine aZ rfl (fun h20 => ?_) (fun h20 => ?_)
 ·refine aD (aA (wq (bC 0 bM M9 rfl rfl rfl) rfl (bB 3 _ bM M9 rfl rfl rfl rfl rfl (aR rfl) rfl (fun w10 M10 => (aB (aC (aM (cE (eV 3 bM M10 rfl rfl rfl ?_)))))))))
  exact ⟨by unfold dV; first | (rw [if_pos h20]; rfl) | (rw [if_neg h20]; rfl), M10.below⟩
 ·have hnr := aGn (c := c) h h20
  refine aK (aC (aD (aA (wq (cO [] [.pointer _, .pointer _] rfl rfl) rfl (wq (aI (.func _ _ _) rfl) rfl (aB (aC (aD (aA (wq (bC 0 bM M9 rfl rfl rfl) rfl (wq (bC 1 bM M9 rfl rfl rfl) rfl ?_)))))))))))
  refine bX aAd rfl rfl (qC _ p q h.hp.i32 h.hq.i32) ?_
  rintro v11 w11 ⟨rfl, hb11⟩
  have M11 := M9.callB hb11
  refine wq (aG (.tuple (List.toArray _)) rfl) rfl (wq (bE (.int _ _) rfl rfl) rfl (wq (bE (.int _ _) rfl rfl) rfl (bP rfl rfl (bP rfl rfl (aB (aC (aD ?_)))))))
  refine bO [(0, 0), (1, 0), (2, 1), (3, 0), (5, 0), (6, 0), (7, 1), (8, 0), (4, 2), (9, 2), (10, 0), (11, 2)] mixed rfl (by kernel_rfl) (fun w12 hb12 hh12 => ?_)
  have M12 := M11.drew hb12 hh12
  refine aV rfl rfl rfl (fun _ => aG (.func _ _ _) rfl) (aV rfl rfl rfl (fun _ => aE 0 dR rfl) (bV rfl rfl rfl (aL 0 (.int _ _) aU M12 rfl rfl rfl) (fV rfl rfl rfl (aV rfl rfl rfl (fun _ => aG (.func _ _ _) rfl) (aV rfl rfl rfl (fun _ => aE 1 dJ rfl) ?_)))))
  refine bV rfl rfl rfl (aL 0 (.int _ _) aU M12 rfl rfl rfl) (fV rfl rfl rfl (dG [false, true] rfl (by kernel_rfl) (bX aXb rfl rfl (aCw _ p.1 (q.1 - p.1) (pE p q c) (lL p q) b6 b7 (by omega) hn.1 hn.2 (by omega) (by omega) hnr.1.1 hnr.1.2 (mI 4 M12 rfl rfl) (mI 5 M12 rfl rfl)) ?_)))
  rintro v13 w13 ⟨rfl, hb13⟩
  have M13 := M12.callB hb13
  refine aB (aC ⟨(eF (bK rfl (aL 0 (.int _ _) aU M13 rfl rfl rfl)) dH), ?_⟩)
  refine dG [true] rfl (by kernel_rfl) (bX aXb rfl rfl (aCw _ p.2 (q.2 - p.2) (pE p q c) (lL p q) b6 b7 (by omega) hn.1 hn.2 (by omega) (by omega) hnr.2.1 hnr.2.2 (mI 4 M13 rfl rfl) (mI 5 M13 rfl rfl)) ?_)
  rintro v14 w14 ⟨rfl, hb14⟩
  have M14 := M13.callB hb14
  refine aB (aC ⟨dH, ?_⟩)
  refine aV rfl rfl rfl (fun _ => cH [(0, .int _ _), (1, .int _ _)] _ fE rfl rfl) (dG [] rfl (by kernel_rfl) (bB 3 _ bM M14 rfl rfl rfl rfl rfl (aR rfl) rfl (fun w15 M15 => ?_)))
  refine aB (aC ⟨dH, ?_⟩)
  refine cD (aC (aM (eV 3 bM M15 rfl rfl rfl ?_)))
  exact ⟨by unfold dV; first | (rw [if_pos h20]; rfl) | (rw [if_neg h20]; rfl), M15.below⟩
set_option maxHeartbeats 4000000 in
theorem xD (w : World) (s : Ch) (x y : Pt) (ba bb bl : Nat) (hx : PtI x) (hy : PtI y) (hO : Own [(some ba, bc (cQ s.1) 37), (some bb, bc (cQ s.2.1) 37), (some bl, bc [.int .u64 (s.2.2 : Int)] 237)] w) :
  Calls Tryz.prog 276 #[(.agg (cQ x).toArray), (.agg (cQ y).toArray), .pointer (some ⟨bl, 0, none⟩), .pointer (some ⟨ba, 0, none⟩), .pointer (some ⟨bb, 0, none⟩)] w (fun ex w' => ∃ v, ex = .returned v ∧ (fun v w' => v = .tuple #[] ∧ Mem w (bH [(some ba, bc (cQ s.1) 37), (some bb, bc (cQ s.2.1) 37), (some bl, bc [.int .u64 (s.2.2 : Int)] 237)]) [(some ba, bc (cQ (fT s x y).1) 37), (some bb, bc (cQ (fT s x y).2.1) 37), (some bl, bc [.int .u64 ((fT s x y).2.2 : Int)] 237)] w') v w') := by
 refine aH #[] 20 Tryz.func276 rfl Tryz.results276 Tryz.ntmps276 rfl ?_
 have M0 := hO.mem
 refine aD (aA (bG (.agg (List.toArray _)) M0 rfl rfl rfl (fun b1 w1 M1 => (bG (.agg (List.toArray _)) M1 rfl rfl rfl (fun b2 w2 M2 => (aB (aC (aD (aA (wq (bC 3 bM M2 rfl rfl rfl) rfl (wq (bC 4 bM M2 rfl rfl rfl) rfl ?_)))))))))))
 refine bX aAd rfl rfl (qC _ x y hx.i32 hy.i32) ?_
 rintro v3 w3 ⟨rfl, hb3⟩
 have M3 := M2.callB hb3
 refine wq (bE (.int _ _) rfl rfl) rfl (wq (bE (.int _ _) rfl rfl) rfl (bX aJv rfl rfl (oL _ (y.1 - x.1) (y.2 - x.2) (hx.inX hy) (hx.inY hy)) ?_))
 rintro v4 w4 ⟨rfl, hb4⟩
 have M4 := M3.callB hb4
 refine bP rfl rfl (aB (aC (aD (aA (aY rfl rfl (wq (aL 2 (.int _ _) pM M4 rfl rfl rfl) rfl (dA rfl rfl rfl rfl (aB (aC ?_)))))))))
 refine aZ rfl (fun h16 => ?_) (fun h16 => ?_)
 ·refine bO [(0, 1), (1, 1), (2, 0), (3, 2), (4, 2), (5, 2)] mixed rfl (by kernel_rfl) (fun w5 hb5 hh5 => ?_)
  have M5 := M4.drew hb5 hh5
  refine bV rfl rfl rfl (bC 3 bM M5 rfl rfl rfl) (bV rfl rfl rfl (bC 4 bM M5 rfl rfl rfl) (fV rfl rfl rfl (dG [false, true] rfl (by kernel_rfl) (bB 0 _ bM M5 rfl rfl rfl rfl rfl (aR rfl) rfl (fun w6 M6 => ?_)))))
  refine aB (aC ⟨(eF (bK rfl (bC 4 bM M6 rfl rfl rfl)) dH), ?_⟩)
  refine dG [true] rfl (by kernel_rfl) (bB 1 _ bM M6 rfl rfl rfl rfl rfl (aR rfl) rfl (fun w7 M7 => ?_))
  refine aB (aC ⟨dH, ?_⟩)
  refine dG [] rfl (by kernel_rfl) (dX 2 (.int _ _) pM M7 rfl rfl rfl rfl rfl rfl (fun w8 M8 => ?_))
  refine aB (aC ⟨dH, ?_⟩)
  refine cD (iV ?_)
  exact ⟨rfl, by unfold fT; first | (rw [if_pos (by omega)]; exact M8.keep [true, true, true, false, false]) | (rw [if_neg (by omega)]; exact M8.keep [true, true, true, false, false])⟩
 ·refine aK (iV ?_)
  exact ⟨rfl, by unfold fT; first | (rw [if_pos (by omega)]; exact M4.keep [true, true, true, false, false]) | (rw [if_neg (by omega)]; exact M4.keep [true, true, true, false, false])⟩
set_option maxHeartbeats 8000000 in
theorem aJs (w : World) (ap aq bp bq : Pt) (h1 : SgI ap aq) (h2 : SgI bp bq) :
  Calls Tryz.prog 259 #[(.agg (cQ ap).toArray), (.agg (cQ aq).toArray), (.agg (cQ bp).toArray), (.agg (cQ bq).toArray)] w (fun ex w' => ∃ v, ex = .returned v ∧ (fun v w' => v = .tuple #[(.agg (cQ (pP ap aq bp bq).1).toArray), (.agg (cQ (pP ap aq bp bq).2.1).toArray), .int .u64 ((pP ap aq bp bq).2.2 : Int)] ∧ Below w.heap.size w w') v w') := by
 refine aH #[.cell 8 37, .cell 9 37, .cell 10 237] 48 Tryz.func259 rfl Tryz.results259 Tryz.ntmps259 rfl ?_
 have M0 := Mem.refl w
 refine aD (aA (bG (.agg (List.toArray _)) M0 rfl rfl rfl (fun b1 w1 M1 => (bG (.agg (List.toArray _)) M1 rfl rfl rfl (fun b2 w2 M2 => (bG (.agg (List.toArray _)) M2 rfl rfl rfl (fun b3 w3 M3 => (bG (.agg (List.toArray _)) M3 rfl rfl rfl (fun b4 w4 M4 => (aQ gL M4 rfl rfl (fun b5 w5 M5 => ?_)))))))))))
 refine aQ gL M5 rfl rfl (fun b6 w6 M6 => (aQ bBt M6 rfl rfl (fun b7 w7 M7 => (aB (aC (aD (aA (dX 6 (.int _ _) pM M7 rfl rfl rfl rfl rfl rfl (fun w8 M8 => (aB (aC (aD (aA ?_)))))))))))))
 obtain ⟨s, hS⟩ : ∃ z, z = ch0 := ⟨_, rfl⟩
 have hC : ChI s := by rw [hS]; exact aVh
 have M9 : Mem _ _ [_, _, _, _, (some b5, bc (cQ ch0.1) 37), (some b6, bc (cQ ch0.2.1) 37), (some b7, bc [.int .u64 (ch0.2.2 : Int)] 237)] _ := M8
 rw [← hS] at M9
 refine wq (cO [] [.pointer _, .pointer _, .pointer _] rfl rfl) rfl (wq (aI (.func _ _ _) rfl) rfl (aB (aC (aD (aD (aA (wq (bC 0 bM M9 rfl rfl rfl) rfl (wq (bC 1 bM M9 rfl rfl rfl) rfl (wq (pN [.agg (List.toArray _), .agg (List.toArray _)] vF aOl rfl rfl (dI rfl)) rfl ?_)))))))))
 refine aY rfl rfl (aB (aC (aS (lZ 3 (gZ (aD (aA (dA rfl rfl rfl rfl (rI 21 rfl (by first | decide | omega) ?_)))))))))
 refine aB (aC (aD (cM rfl (aK (aC (aD (aS (aD (aA (wq (nD 0 _ vF bM rfl rfl (by decide) (by decide) rfl rfl) rfl (aQ gL M9 rfl rfl (fun b10 w10 M10 => (bB 7 _ bM M10 rfl rfl rfl rfl rfl (aR rfl) rfl (fun w11 M11 => ?_))))))))))))))
 refine aB (aC (bO [(0, 0), (1, 1), (2, 1), (3, 1), (4, 1), (5, 2), (6, 2)] mixed rfl (by kernel_rfl) (fun w12 hb12 hh12 => ?_)))
 have M12 := M11.drew hb12 hh12
 refine aV rfl rfl rfl (fun _ => aG (.func _ _ _) rfl) (bV rfl rfl rfl (bC 7 bM M12 rfl rfl rfl) (bV rfl rfl rfl (bC 2 bM M12 rfl rfl rfl) (bV rfl rfl rfl (bC 3 bM M12 rfl rfl rfl) (bV rfl rfl rfl (bC 7 bM M12 rfl rfl rfl) (dG [true, true, true, false] rfl (by kernel_rfl) ?_)))))
 refine bX aFh rfl rfl (kE _ bp bq ap h2 h1.hp) ?_
 rintro v13 w13 ⟨rfl, hb13⟩
 have M13 := M12.callB hb13
 refine aB (aC ⟨(eF (bK rfl (bC 7 bM M13 rfl rfl rfl)) dH), ?_⟩)
 refine dG [true] rfl (by kernel_rfl) (bX aFf rfl rfl (xD _ s ap (dV bp bq ap) _ _ _ h1.hp (fC h2) (M13.ownSeg 4 3)) ?_)
 rintro v14 w14 ⟨rfl, hM14⟩
 have M14 : Mem _ _ [_, _, _, _, _, _, _, _] _ := M13.seg 4 3 hM14
 obtain ⟨s, hs⟩ : ∃ z, z = fT s ap (dV bp bq ap) := ⟨_, rfl⟩
 rw [← hs] at M14
 replace hC := hC.step (x := ap) (y := (dV bp bq ap)) h1.hp (fC h2)
 rw [← hs] at hC
 replace hS := hs.trans (congrArg (fun z => fT z ap (dV bp bq ap)) hS)
 refine aB (aC ⟨dH, ?_⟩)
 refine cD (dE (aC (aA (wq (bU rfl rfl (by first | decide | omega) (by first | decide | omega)) rfl (aT 30 (.int .i64 1) (iE (by first | decide | omega)) (aY rfl rfl ?_))))))
 refine aB (aC (gZ (aD (aA (dA rfl rfl rfl rfl (rI 21 rfl (by first | decide | omega) (aB (aC (aD ?_)))))))))
 refine cM rfl (aK (aC (aD (aS (aD (aA (wq (nD 1 _ vF bM rfl rfl (by decide) (by decide) rfl rfl) rfl (aQ gL M14 rfl rfl (fun b15 w15 M15 => (bB 8 _ bM M15 rfl rfl rfl rfl rfl (aR rfl) rfl (fun w16 M16 => (aB (aC ?_)))))))))))))
 refine bO [(0, 0), (1, 1), (2, 1), (3, 1), (4, 1), (5, 2), (6, 2)] mixed rfl (by kernel_rfl) (fun w17 hb17 hh17 => ?_)
 have M17 := M16.drew hb17 hh17
 refine aV rfl rfl rfl (fun _ => aG (.func _ _ _) rfl) (bV rfl rfl rfl (bC 8 bM M17 rfl rfl rfl) (bV rfl rfl rfl (bC 2 bM M17 rfl rfl rfl) (bV rfl rfl rfl (bC 3 bM M17 rfl rfl rfl) (bV rfl rfl rfl (bC 8 bM M17 rfl rfl rfl) (dG [true, true, true, false] rfl (by kernel_rfl) ?_)))))
 refine bX aFh rfl rfl (kE _ bp bq aq h2 h1.hq) ?_
 rintro v18 w18 ⟨rfl, hb18⟩
 have M18 := M17.callB hb18
 refine aB (aC ⟨(eF (bK rfl (bC 8 bM M18 rfl rfl rfl)) dH), ?_⟩)
 refine dG [true] rfl (by kernel_rfl) (bX aFf rfl rfl (xD _ s aq (dV bp bq aq) _ _ _ h1.hq (fC h2) (M18.ownSeg 4 3)) ?_)
 rintro v19 w19 ⟨rfl, hM19⟩
 have M19 : Mem _ _ [_, _, _, _, _, _, _, _, _] _ := M18.seg 4 3 hM19
 obtain ⟨s, hs⟩ : ∃ z, z = fT s aq (dV bp bq aq) := ⟨_, rfl⟩
 rw [← hs] at M19
 replace hC := hC.step (x := aq) (y := (dV bp bq aq)) h1.hq (fC h2)
 rw [← hs] at hC
 replace hS := hs.trans (congrArg (fun z => fT z aq (dV bp bq aq)) hS)
 refine aB (aC ⟨dH, ?_⟩)
 refine cD (dE (aC (aA (wq (bU rfl rfl (by first | decide | omega) (by first | decide | omega)) rfl (aT 30 (.int .i64 2) (iE (by first | decide | omega)) (aY rfl rfl ?_))))))
 refine aB (aC (gZ (aD (aA (dA rfl rfl rfl rfl (uZ 21 rfl (by first | decide | omega) (aB (aC (aD ?_)))))))))
 refine cB rfl (cR (cZ (cZ (eQ (aC (aD (aD (aA (wq (bC 2 bM M19 rfl rfl rfl) rfl ?_)))))))))
 refine wq (bC 3 bM M19 rfl rfl rfl) rfl (wq (pN [.agg (List.toArray _), .agg (List.toArray _)] vF aOl rfl rfl (dI rfl)) rfl (aY rfl rfl (aB (aC (aS (lZ 3 (gZ (aD (aA ?_)))))))))
 refine dA rfl rfl rfl rfl (rI 35 rfl (by first | decide | omega) (aB (aC (aD (cM rfl (aK (aC (aD (aS (aD (aA (wq (nD 0 _ vF bM rfl rfl (by decide) (by decide) rfl rfl) rfl ?_))))))))))))
 refine aQ gL M19 rfl rfl (fun b20 w20 M20 => (bB 9 _ bM M20 rfl rfl rfl rfl rfl (aR rfl) rfl (fun w21 M21 => (aB (aC (bO [(0, 0), (1, 1), (2, 1), (3, 1), (5, 1), (4, 2), (6, 2)] mixed rfl (by kernel_rfl) (fun w22 hb22 hh22 => ?_)))))))
 have M22 := M21.drew hb22 hh22
 refine aV rfl rfl rfl (fun _ => aG (.func _ _ _) rfl) (bV rfl rfl rfl (bC 0 bM M22 rfl rfl rfl) (bV rfl rfl rfl (bC 1 bM M22 rfl rfl rfl) (bV rfl rfl rfl (bC 9 bM M22 rfl rfl rfl) (bV rfl rfl rfl (bC 9 bM M22 rfl rfl rfl) (dG [false, true, true, true] rfl (by kernel_rfl) ?_)))))
 refine bX aFh rfl rfl (kE _ ap aq bp h1 h2.hp) ?_
 rintro v23 w23 ⟨rfl, hb23⟩
 have M23 := M22.callB hb23
 refine aB (aC ⟨(eF (bK rfl (bC 9 bM M23 rfl rfl rfl)) dH), ?_⟩)
 refine dG [true] rfl (by kernel_rfl) (bX aFf rfl rfl (xD _ s (dV ap aq bp) bp _ _ _ (fC h1) h2.hp (M23.ownSeg 4 3)) ?_)
 rintro v24 w24 ⟨rfl, hM24⟩
 have M24 : Mem _ _ [_, _, _, _, _, _, _, _, _, _] _ := M23.seg 4 3 hM24
 obtain ⟨s, hs⟩ : ∃ z, z = fT s (dV ap aq bp) bp := ⟨_, rfl⟩
 rw [← hs] at M24
 replace hC := hC.step (x := (dV ap aq bp)) (y := bp) (fC h1) h2.hp
 rw [← hs] at hC
 replace hS := hs.trans (congrArg (fun z => fT z (dV ap aq bp) bp) hS)
 refine aB (aC ⟨dH, ?_⟩)
 refine cD (dE (aC (aA (wq (bU rfl rfl (by first | decide | omega) (by first | decide | omega)) rfl (aT 44 (.int .i64 1) (iE (by first | decide | omega)) (aY rfl rfl ?_))))))
 refine aB (aC (gZ (aD (aA (dA rfl rfl rfl rfl (rI 35 rfl (by first | decide | omega) (aB (aC (aD ?_)))))))))
 refine cM rfl (aK (aC (aD (aS (aD (aA (wq (nD 1 _ vF bM rfl rfl (by decide) (by decide) rfl rfl) rfl (aQ gL M24 rfl rfl (fun b25 w25 M25 => (bB 10 _ bM M25 rfl rfl rfl rfl rfl (aR rfl) rfl (fun w26 M26 => (aB (aC ?_)))))))))))))
 refine bO [(0, 0), (1, 1), (2, 1), (3, 1), (5, 1), (4, 2), (6, 2)] mixed rfl (by kernel_rfl) (fun w27 hb27 hh27 => ?_)
 have M27 := M26.drew hb27 hh27
 refine aV rfl rfl rfl (fun _ => aG (.func _ _ _) rfl) (bV rfl rfl rfl (bC 0 bM M27 rfl rfl rfl) (bV rfl rfl rfl (bC 1 bM M27 rfl rfl rfl) (bV rfl rfl rfl (bC 10 bM M27 rfl rfl rfl) (bV rfl rfl rfl (bC 10 bM M27 rfl rfl rfl) (dG [false, true, true, true] rfl (by kernel_rfl) ?_)))))
 refine bX aFh rfl rfl (kE _ ap aq bq h1 h2.hq) ?_
 rintro v28 w28 ⟨rfl, hb28⟩
 have M28 := M27.callB hb28
 refine aB (aC ⟨(eF (bK rfl (bC 10 bM M28 rfl rfl rfl)) dH), ?_⟩)
 refine dG [true] rfl (by kernel_rfl) (bX aFf rfl rfl (xD _ s (dV ap aq bq) bq _ _ _ (fC h1) h2.hq (M28.ownSeg 4 3)) ?_)
 rintro v29 w29 ⟨rfl, hM29⟩
 have M29 : Mem _ _ [_, _, _, _, _, _, _, _, _, _, _] _ := M28.seg 4 3 hM29
 obtain ⟨s, hs⟩ : ∃ z, z = fT s (dV ap aq bq) bq := ⟨_, rfl⟩
 rw [← hs] at M29
 replace hC := hC.step (x := (dV ap aq bq)) (y := bq) (fC h1) h2.hq
 rw [← hs] at hC
 replace hS := hs.trans (congrArg (fun z => fT z (dV ap aq bq) bq) hS)
 refine aB (aC ⟨dH, ?_⟩)
 refine cD (dE (aC (aA (wq (bU rfl rfl (by first | decide | omega) (by first | decide | omega)) rfl (aT 44 (.int .i64 2) (iE (by first | decide | omega)) (aY rfl rfl ?_))))))
 refine aB (aC (gZ (aD (aA (dA rfl rfl rfl rfl (uZ 35 rfl (by first | decide | omega) (aB (aC (aD ?_)))))))))
 refine cB rfl (cR (cZ (cZ (eQ (aC (aD (bO [(0, 1), (1, 1), (2, 1), (3, 2), (4, 2), (5, 2)] mixed rfl (by kernel_rfl) (fun w30 hb30 hh30 => ?_))))))))
 have M30 := M29.drew hb30 hh30
 refine bV rfl rfl rfl (bC 4 bM M30 rfl rfl rfl) (bV rfl rfl rfl (bC 5 bM M30 rfl rfl rfl) (bV rfl rfl rfl (aL 6 (.int _ _) pM M30 rfl rfl rfl) (dG [false, false, true] rfl (by kernel_rfl) (bB 4 _ bM M30 rfl rfl rfl rfl rfl (aR rfl) rfl (fun w31 M31 => ?_)))))
 refine aB (aC ⟨(eF (bK rfl (aL 6 (.int _ _) pM M31 rfl rfl rfl)) (eF (bK rfl (bC 5 bM M31 rfl rfl rfl)) dH)), ?_⟩)
 refine dG [false, true] rfl (by kernel_rfl) (bB 5 _ bM M31 rfl rfl rfl rfl rfl (aR rfl) rfl (fun w32 M32 => ?_))
 refine aB (aC ⟨(eF (bK rfl (aL 6 (.int _ _) pM M32 rfl rfl rfl)) dH), ?_⟩)
 refine dG [true] rfl (by kernel_rfl) (dX 6 (.int _ _) pM M32 rfl rfl rfl rfl rfl rfl (fun w33 M33 => ?_))
 refine aB (aC ⟨dH, ?_⟩)
 refine cD (aC (aM (bFw 4 5 6 bM pM M33 rfl rfl rfl rfl rfl rfl rfl rfl ?_)))
 exact ⟨by rw [show s = pP ap aq bp bq from hS], M33.below⟩
set_option maxHeartbeats 4000000 in
theorem aLz (w : World) (ap aq bp bq : Pt) (h1 : SgI ap aq) (h2 : SgI bp bq) :
  Calls Tryz.prog 238 #[(.agg (cQ ap).toArray), (.agg (cQ aq).toArray), (.agg (cQ bp).toArray), (.agg (cQ bq).toArray)] w (fun ex w' => ∃ v, ex = .returned v ∧ (fun v w' => v = .tuple #[(.agg (cQ (pP ap aq bp bq).1).toArray), (.agg (cQ (pP ap aq bp bq).2.1).toArray)] ∧ Below w.heap.size w w') v w') := by
 refine aH #[.cell 8 37, .cell 9 37] 21 Tryz.func238 rfl Tryz.results238 Tryz.ntmps238 rfl ?_
 have M0 := Mem.refl w
 refine aD (aA (bG (.agg (List.toArray _)) M0 rfl rfl rfl (fun b1 w1 M1 => (bG (.agg (List.toArray _)) M1 rfl rfl rfl (fun b2 w2 M2 => (bG (.agg (List.toArray _)) M2 rfl rfl rfl (fun b3 w3 M3 => (bG (.agg (List.toArray _)) M3 rfl rfl rfl (fun b4 w4 M4 => (aQ gL M4 rfl rfl (fun b5 w5 M5 => ?_)))))))))))
 refine aQ gL M5 rfl rfl (fun b6 w6 M6 => (aB (aC (aD (aA (wq (bC 0 bM M6 rfl rfl rfl) rfl (wq (bC 1 bM M6 rfl rfl rfl) rfl (wq (bC 2 bM M6 rfl rfl rfl) rfl (wq (bC 3 bM M6 rfl rfl rfl) rfl ?_)))))))))
 refine bX bEi rfl rfl (aJs _ ap aq bp bq h1 h2) ?_
 rintro v7 w7 ⟨rfl, hb7⟩
 have M7 := M6.callB hb7
 refine wq (aG (.tuple (List.toArray _)) rfl) rfl (wq (bE (.agg (List.toArray _)) rfl rfl) rfl (wq (bE (.agg (List.toArray _)) rfl rfl) rfl (wq (bE (.int _ _) rfl rfl) rfl (bB 4 _ bM M7 rfl rfl rfl rfl rfl (aR rfl) rfl (fun w8 M8 => (bB 5 _ bM M8 rfl rfl rfl rfl rfl (aR rfl) rfl (fun w9 M9 => ?_)))))))
 refine aB (aC (aD (bO [(0, 1), (1, 1), (2, 2), (3, 2)] mixed rfl (by kernel_rfl) (fun w10 hb10 hh10 => ?_))))
 have M10 := M9.drew hb10 hh10
 refine bV rfl rfl rfl (bC 4 bM M10 rfl rfl rfl) (bV rfl rfl rfl (bC 5 bM M10 rfl rfl rfl) (dG [false, true] rfl (by kernel_rfl) (bB 4 _ bM M10 rfl rfl rfl rfl rfl (aR rfl) rfl (fun w11 M11 => ?_))))
 refine aB (aC ⟨(eF (bK rfl (bC 5 bM M11 rfl rfl rfl)) dH), ?_⟩)
 refine dG [true] rfl (by kernel_rfl) (bB 5 _ bM M11 rfl rfl rfl rfl rfl (aR rfl) rfl (fun w12 M12 => ?_))
 refine aB (aC ⟨dH, ?_⟩)
 refine cD (aC (aM (aNx 4 5 bM M12 rfl rfl rfl rfl rfl rfl ?_)))
 exact ⟨rfl, M12.below⟩
set_option maxHeartbeats 4000000 in
theorem xG (w : World) (b : Body) (hb : Okb b) :
  Calls Tryz.prog 237 #[(.agg (aF b).toArray)] w (fun ex w' => ∃ v, ex = .returned v ∧ (fun v w' => v = (.agg (mB b).toArray) ∧ Below w.heap.size w w') v w') := by
 refine aH #[.cell 2 296] 14 Tryz.func237 rfl Tryz.results237 Tryz.ntmps237 rfl ?_
 have M0 := Mem.refl w
 refine aD (aA (bG (.agg (List.toArray _)) M0 rfl rfl rfl (fun b1 w1 M1 => (aQ sT M1 rfl rfl (fun b2 w2 M2 => (aB (aC (aD (aA (wq (bC 0 bS M2 rfl rfl rfl) rfl (bX bEb rfl rfl (aQl _ b hb) ?_)))))))))))
 rintro v3 w3 ⟨rfl, hb3⟩
 have M3 := M2.callB hb3
 refine wq (aG (.tuple (List.toArray _)) rfl) rfl (wq (bE (.agg (List.toArray _)) rfl rfl) rfl (wq (bE (.agg (List.toArray _)) rfl rfl) rfl (aQ gL M3 rfl rfl (fun b4 w4 M4 => (aQ gL M4 rfl rfl (fun b5 w5 M5 => (bB 2 _ bM M5 rfl rfl rfl rfl rfl (aR rfl) rfl (fun w6 M6 => ?_))))))))
 refine bB 3 _ bM M6 rfl rfl rfl rfl rfl (aR rfl) rfl (fun w7 M7 => (aB (aC (aD (aA (wq (bC 0 bS M7 rfl rfl rfl) rfl (wq (bC 2 bM M7 rfl rfl rfl) rfl (wq (bC 3 bM M7 rfl rfl rfl) rfl (wq (cH [(0, .agg (List.toArray _)), (1, .agg (List.toArray _)), (2, .agg (List.toArray _))] _ aQr rfl rfl) rfl ?_)))))))))
 refine bB 1 _ kV M7 rfl rfl rfl rfl rfl (aR rfl) rfl (fun w8 M8 => (aB (aC (aM (eV 1 kV M8 rfl rfl rfl ?_)))))
 exact ⟨rfl, M8.below⟩
set_option maxHeartbeats 4000000 in
theorem bAo (w : World) (a b : Body) (ha : Okb a) (hb : Okb b) :
  Calls Tryz.prog 214 #[(.agg (aF a).toArray), (.agg (aF b).toArray)] w (fun ex w' => ∃ v, ex = .returned v ∧ (fun v w' => v = .tuple #[(.agg (mB (loB a b)).toArray), (.agg (mB (hiB a b)).toArray)] ∧ Below w.heap.size w w') v w') := by
 refine aH #[.cell 4 296, .cell 5 296] 17 Tryz.func214 rfl Tryz.results214 Tryz.ntmps214 rfl ?_
 have M0 := Mem.refl w
 refine aD (aA (bG (.agg (List.toArray _)) M0 rfl rfl rfl (fun b1 w1 M1 => (bG (.agg (List.toArray _)) M1 rfl rfl rfl (fun b2 w2 M2 => (aQ sT M2 rfl rfl (fun b3 w3 M3 => (aQ sT M3 rfl rfl (fun b4 w4 M4 => (aB (aC (aD (aD (aA ?_))))))))))))))
 refine wq (aE 0 eP rfl) rfl (wq (aL 0 (.int _ _) cC M4 rfl rfl rfl) rfl (wq (aE 0 eP rfl) rfl (wq (aL 1 (.int _ _) cC M4 rfl rfl rfl) rfl (dA rfl rfl rfl rfl (aB (aC ?_))))))
 refine aZ rfl (fun h10 => ?_) (fun h10 => ?_)
 ·refine aA (wq (bC 1 bS M4 rfl rfl rfl) rfl (wq (bC 0 bS M4 rfl rfl rfl) rfl (bB 0 _ bS M4 rfl rfl rfl rfl rfl (aR rfl) rfl (fun w5 M5 => (bB 1 _ bS M5 rfl rfl rfl rfl rfl (aR rfl) rfl (fun w6 M6 => (aB (aC (aD ?_)))))))))
  refine bO [(0, 1), (2, 1), (1, 2), (3, 2), (4, 2), (5, 2)] mixed rfl (by kernel_rfl) (fun w7 hb7 hh7 => ?_)
  have M7 := M6.drew hb7 hh7
  refine bV rfl rfl rfl (bC 0 bS M7 rfl rfl rfl) (bV rfl rfl rfl (bC 1 bS M7 rfl rfl rfl) (dG [false, true] rfl (by kernel_rfl) (bX aEo rfl rfl (xG _ b hb) ?_)))
  rintro v8 w8 ⟨rfl, hb8⟩
  have M8 := M7.callB hb8
  refine aB (aC ⟨(eF (bK rfl (bC 1 bS M8 rfl rfl rfl)) dH), ?_⟩)
  refine dG [true] rfl (by kernel_rfl) (bX aEo rfl rfl (xG _ a ha) ?_)
  rintro v9 w9 ⟨rfl, hb9⟩
  have M9 := M8.callB hb9
  refine aB (aC ⟨dH, ?_⟩)
  refine dG [] rfl (by kernel_rfl) (bB 2 _ kV M9 rfl rfl rfl rfl rfl (aR rfl) rfl (fun w10 M10 => ?_))
  refine aB (aC ⟨dH, ?_⟩)
  refine dG [] rfl (by kernel_rfl) (bB 3 _ kV M10 rfl rfl rfl rfl rfl (aR rfl) rfl (fun w11 M11 => ?_))
  refine aB (aC ⟨dH, ?_⟩)
  refine cD (aC (aM (aNx 2 3 kV M11 rfl rfl rfl rfl rfl rfl ?_)))
  exact ⟨by unfold loB hiB; first | rw [if_pos (by omega), if_pos (by omega)] | rw [if_neg (by omega), if_neg (by omega)], M11.below⟩
 ·refine aK (aC (aD (bO [(0, 1), (2, 1), (1, 2), (3, 2), (4, 2), (5, 2)] mixed rfl (by kernel_rfl) (fun w12 hb12 hh12 => ?_))))
  have M12 := M4.drew hb12 hh12
  refine bV rfl rfl rfl (bC 0 bS M12 rfl rfl rfl) (bV rfl rfl rfl (bC 1 bS M12 rfl rfl rfl) (dG [false, true] rfl (by kernel_rfl) (bX aEo rfl rfl (xG _ a ha) ?_)))
  rintro v13 w13 ⟨rfl, hb13⟩
  have M13 := M12.callB hb13
  refine aB (aC ⟨(eF (bK rfl (bC 1 bS M13 rfl rfl rfl)) dH), ?_⟩)
  refine dG [true] rfl (by kernel_rfl) (bX aEo rfl rfl (xG _ b hb) ?_)
  rintro v14 w14 ⟨rfl, hb14⟩
  have M14 := M13.callB hb14
  refine aB (aC ⟨dH, ?_⟩)
  refine dG [] rfl (by kernel_rfl) (bB 2 _ kV M14 rfl rfl rfl rfl rfl (aR rfl) rfl (fun w15 M15 => ?_))
  refine aB (aC ⟨dH, ?_⟩)
  refine dG [] rfl (by kernel_rfl) (bB 3 _ kV M15 rfl rfl rfl rfl rfl (aR rfl) rfl (fun w16 M16 => ?_))
  refine aB (aC ⟨dH, ?_⟩)
  refine cD (aC (aM (aNx 2 3 kV M16 rfl rfl rfl rfl rfl rfl ?_)))
  exact ⟨by unfold loB hiB; first | rw [if_pos (by omega), if_pos (by omega)] | rw [if_neg (by omega), if_neg (by omega)], M16.below⟩
set_option maxHeartbeats 4000000 in
theorem aYg (w : World) (a b : Body) (ha : Okb a) (hb : Okb b) :
  Calls Tryz.prog 215 #[(.agg (mB a).toArray), (.agg (mB b).toArray)] w (fun ex w' => ∃ v, ex = .returned v ∧ (fun v w' => v = .tuple #[.int .i64 (yZ (wC a b)), .int .i64 (aAi (wC a b)), .int .i64 (a.radius + b.radius)] ∧ Below w.heap.size w w') v w') := by
 have hra := ha.r
 have hrb := hb.r
 have hch := zP ha hb
 refine aH #[.tmp 4, .tmp 5, .tmp 6] 38 Tryz.func215 rfl Tryz.results215 Tryz.ntmps215 rfl ?_
 have M0 := Mem.refl w
 refine aD (aA (bG (.agg (List.toArray _)) M0 rfl rfl rfl (fun b1 w1 M1 => (bG (.agg (List.toArray _)) M1 rfl rfl rfl (fun b2 w2 M2 => (bP rfl rfl (bP rfl rfl (bP rfl rfl ?_))))))))
 refine aB (aC (aD (aA (wq (aE 10 aGl rfl) rfl (wq (tX 0 _ bM M2 rfl rfl rfl rfl) rfl (wq (aE 12 aIn rfl) rfl (wq (tX 0 _ bM M2 rfl rfl rfl rfl) rfl (wq (aE 10 aGl rfl) rfl ?_))))))))
 refine wq (tX 1 _ bM M2 rfl rfl rfl rfl) rfl (wq (aE 12 aIn rfl) rfl (wq (tX 1 _ bM M2 rfl rfl rfl rfl) rfl (bX bFl rfl rfl (aLz _ (aHm a) (aJa a) (aHm b) (aJa b) (xM ha) (xM hb)) ?_)))
 rintro v3 w3 ⟨rfl, hb3⟩
 have M3 := M2.callB hb3
 refine wq (aG (.tuple (List.toArray _)) rfl) rfl (wq (bE (.agg (List.toArray _)) rfl rfl) rfl (wq (bE (.agg (List.toArray _)) rfl rfl) rfl (aQ gL M3 rfl rfl (fun b4 w4 M4 => (aQ gL M4 rfl rfl (fun b5 w5 M5 => (bB 2 _ bM M5 rfl rfl rfl rfl rfl (aR rfl) rfl (fun w6 M6 => ?_))))))))
 refine bB 3 _ bM M6 rfl rfl rfl rfl rfl (aR rfl) rfl (fun w7 M7 => (aB (aC (aD (aA (wq (bC 2 bM M7 rfl rfl rfl) rfl (wq (bC 3 bM M7 rfl rfl rfl) rfl (bX aAd rfl rfl (qC _ (wC a b).1 (wC a b).2.1 hch.a.i32 hch.b.i32) ?_))))))))
 rintro v8 w8 ⟨rfl, hb8⟩
 have M8 := M7.callB hb8
 refine wq (aG (.tuple (List.toArray _)) rfl) rfl (wq (bE (.int _ _) rfl rfl) rfl (wq (bE (.int _ _) rfl rfl) rfl (bP rfl rfl (bP rfl rfl (aB (aC (aD ?_)))))))
 refine bO [(0, 0), (1, 0), (2, 0), (3, 0), (4, 1), (5, 0), (6, 0), (7, 0), (8, 1), (9, 0), (10, 0), (11, 0), (12, 0), (13, 0)] mixed rfl (by kernel_rfl) (fun w9 hb9 hh9 => ?_)
 have M9 := M8.drew hb9 hh9
 refine fV rfl rfl rfl (fV rfl rfl rfl (aV rfl rfl rfl (fun _ => aE 0 tD rfl) (aV rfl rfl rfl (fun _ => aE 1 lE rfl) (bV rfl rfl rfl (aL 0 (.int _ _) aU M9 rfl rfl rfl) (aV rfl rfl rfl (fun _ => bZ fW Tryz.underlying2 rfl (kQ _ (by omega) (by omega))) ?_)))))
 refine aV rfl rfl rfl (fun _ => aE 0 tD rfl) (aV rfl rfl rfl (fun _ => aE 1 lE rfl) (bV rfl rfl rfl (aL 1 (.int _ _) aU M9 rfl rfl rfl) (aV rfl rfl rfl (fun _ => bZ fW Tryz.underlying2 rfl (kQ _ (by omega) (by omega))) (aV rfl rfl rfl (fun _ => bU rfl rfl (by omega) (by omega)) ?_))))
 refine qN rfl rfl rfl (qN rfl rfl rfl (qN rfl rfl rfl (cD (aC (aM (bKn (.int _ _) (.int _ _) (.int _ _) rfl rfl rfl ?_))))))
 exact ⟨rfl, M9.below⟩
set_option maxHeartbeats 4000000 in
theorem zT (w : World) (a b : Body) (ha : Okb a) (hb : Okb b) :
  Calls Tryz.prog 185 #[(.agg (aF a).toArray), (.agg (aF b).toArray)] w (fun ex w' => ∃ v, ex = .returned v ∧ (fun v w' => v = .tuple #[.agg (bFk (mS a b)).toArray, .bool (mS a b).isSome] ∧ Below w.heap.size w w') v w') := by
 obtain ⟨hlo, hhi⟩ := bDl ha hb
 have hd := bCk hlo hhi
 have hl := aEl hd.1 hd.2
 have hss := bDj hlo hhi
 have hr1 := hlo.r
 have hr2 := hhi.r
 refine aH #[.cell 4 211, .tmp 5] 52 Tryz.func185 rfl Tryz.results185 Tryz.ntmps185 rfl ?_
 have M0 := Mem.refl w
 refine aD (aA (bG (.agg (List.toArray _)) M0 rfl rfl rfl (fun b1 w1 M1 => (bG (.agg (List.toArray _)) M1 rfl rfl rfl (fun b2 w2 M2 => (aQ uB M2 rfl rfl (fun b3 w3 M3 => (wq (aI (.bool false) rfl) rfl (aB (aC (aD (aA ?_))))))))))))
 refine wq (bC 0 bS M3 rfl rfl rfl) rfl (wq (bC 1 bS M3 rfl rfl rfl) rfl (bX bGo rfl rfl (bAo _ a b ha hb) ?_))
 rintro v4 w4 ⟨rfl, hb4⟩
 have M4 := M3.callB hb4
 refine wq (aG (.tuple (List.toArray _)) rfl) rfl (wq (bE (.agg (List.toArray _)) rfl rfl) rfl (wq (bE (.agg (List.toArray _)) rfl rfl) rfl (aQ sT M4 rfl rfl (fun b5 w5 M5 => (aQ sT M5 rfl rfl (fun b6 w6 M6 => (bB 3 _ kV M6 rfl rfl rfl rfl rfl (aR rfl) rfl (fun w7 M7 => ?_))))))))
 refine bB 4 _ kV M7 rfl rfl rfl rfl rfl (aR rfl) rfl (fun w8 M8 => (aB (aC (aD (aA (wq (bC 3 kV M8 rfl rfl rfl) rfl (wq (bC 4 kV M8 rfl rfl rfl) rfl (bX bGp rfl rfl (aYg _ (loB a b) (hiB a b) hlo hhi) ?_))))))))
 rintro v9 w9 ⟨rfl, hb9⟩
 have M9 := M8.callB hb9
 refine wq (aG (.tuple (List.toArray _)) rfl) rfl (wq (bE (.int _ _) rfl rfl) rfl (wq (bE (.int _ _) rfl rfl) rfl (wq (bE (.int _ _) rfl rfl) rfl (bP rfl rfl (bP rfl rfl ?_)))))
 refine bP rfl rfl (aB (aC (aD (aD (aA (aY rfl rfl (aY rfl rfl (bX aJv rfl rfl (oL _ (yZ (wC (loB a b) (hiB a b))) (aAi (wC (loB a b) (hiB a b))) hd.1 hd.2) ?_))))))))
 rintro v10 w10 ⟨rfl, hb10⟩
 have M10 := M9.callB hb10
 refine aY rfl rfl (aY rfl rfl (wq (gE rfl rfl (by omega) (by omega)) rfl (wq (dU us2 Tryz.underlying237 rfl) rfl (aT 31 (.int .u64 ((((loB a b).radius + (hiB a b).radius).natAbs * ((loB a b).radius + (hiB a b).radius).natAbs : Nat) : Int)) (iE (aZn _ hss)) (dA rfl rfl rfl rfl ?_)))))
 refine aB (aC ?_)
 refine aZ rfl (fun h32 => ?_) (fun h32 => ?_)
 ·refine aD (aA (wq (cH [] _ aDh rfl rfl) rfl (bB 2 _ gI M10 rfl rfl rfl rfl rfl (aR rfl) rfl (fun w11 M11 => (wq (aI (.bool false) rfl) rfl (aB (aC (aM (cE (aCl (v2 := .bool false) 2 gI M11 rfl rfl rfl rfl ?_))))))))))
  exact ⟨by rw [aGt]; unfold mZ; first | (rw [if_pos (by omega)]; rfl) | (rw [if_neg (by omega)]; rfl), M11.below⟩
 ·refine aK (aC (aD (aA (wq (aE 0 tD rfl) rfl (wq (aE 0 eP rfl) rfl (wq (aL 3 (.int _ _) cC M10 rfl rfl rfl) rfl (wq (aE 0 tD rfl) rfl (wq (aE 0 eP rfl) rfl ?_))))))))
  refine wq (aL 4 (.int _ _) cC M10 rfl rfl rfl) rfl (wq (cH [(0, .int _ _), (1, .int _ _)] _ aBx rfl rfl) rfl (aQ qT M10 rfl rfl (fun b12 w12 M12 => (bB 5 _ gG M12 rfl rfl rfl rfl rfl (aR rfl) rfl (fun w13 M13 => (aB (aC (aD (bO [(0, 1), (1, 0), (2, 0), (4, 0), (5, 0), (6, 0), (3, 2), (7, 2), (8, 0), (9, 0), (10, 0), (11, 2), (12, 0)] mixed rfl (by kernel_rfl) (fun w14 hb14 hh14 => ?_))))))))))
  have M14 := M13.drew hb14 hh14
  refine bV rfl rfl rfl (bC 5 gG M14 rfl rfl rfl) (fV rfl rfl rfl (fV rfl rfl rfl (fV rfl rfl rfl (fV rfl rfl rfl (fV rfl rfl rfl ?_)))))
  refine dG [false] rfl (by kernel_rfl) (bX bFz rfl rfl (aVw _ (yZ (wC (loB a b) (hiB a b))) (aAi (wC (loB a b) (hiB a b))) hd.1 hd.2) ?_)
  rintro v15 w15 ⟨rfl, hb15⟩
  have M15 := M14.callB hb15
  refine aB (aC ⟨(eF (bK rfl (bC 5 gG M15 rfl rfl rfl)) dH), ?_⟩)
  refine dG [false] rfl (by kernel_rfl) (bX aVm rfl rfl (zX _ (yZ (wC (loB a b) (hiB a b))) (aAi (wC (loB a b) (hiB a b))) hd.1 hd.2) ?_)
  rintro v16 w16 ⟨rfl, hb16⟩
  have M16 := M15.callB hb16
  refine aB (aC ⟨(eF (bK rfl (bC 5 gG M16 rfl rfl rfl)) dH), ?_⟩)
  refine aV rfl rfl rfl (fun _ => mD rfl rfl (by omega) (by omega)) (aV rfl rfl rfl (fun _ => dU us2 Tryz.underlying21 rfl) (aV rfl rfl rfl (fun _ => cH [(0, .agg (List.toArray _)), (1, .agg (List.toArray _)), (2, .int _ _)] _ aDh rfl rfl) (dG [true] rfl (by kernel_rfl) (bB 2 _ gI M16 rfl rfl rfl rfl rfl (aR rfl) rfl (fun w17 M17 => ?_)))))
  refine aB (aC ⟨dH, ?_⟩)
  refine aV rfl rfl rfl (fun _ => aI (.bool true) rfl) (cD (aC (aM (aCl (v2 := .bool true) 2 gI M17 rfl rfl rfl rfl ?_))))
  exact ⟨by rw [aGt]; unfold mZ; first | (rw [if_pos (by omega)]; rfl) | (rw [if_neg (by omega)]; rfl), M17.below⟩
end Go.Proofs.YtaoaknafiegfoaaGreatDoor
