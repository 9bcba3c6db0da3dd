/- Part of the proof of the laws of this seat: B8, C9, G10. No conditions. -/
import Derived.Test.YtaoaknafiegfoaaGreatDoorK2
import Derived.Test.YtaoaknafiegfoaaGreatDoorK5
import Derived.Test.YtaoaknafiegfoaaGreatDoorK6
import Derived.Test.YtaoaknafiegfoaaGreatDoorK11
import Derived.Test.YtaoaknafiegfoaaGreatDoorK15
set_option linter.unusedVariables false
set_option linter.unusedSimpArgs false
set_option linter.unnecessarySimpa false
namespace Go.Proofs.YtaoaknafiegfoaaGreatDoor
open Go.Bil
open Go.RowKit (Below)
open Go.Proofs
set_option maxHeartbeats 4000000 in
theorem aIe (w : World) (x : Int) (h0 : -2147483647 ≤ x) (h1 : x ≤ 2147483647) :
  Calls Tryz.prog 253 #[.int .i32 x] w (fun ex w' => ∃ v, ex = .returned v ∧ (fun v w' => v = .int .i32 (max x (-x)) ∧ Below w.heap.size w w') v w') := by
 refine aH #[.tmp 2] 7 Tryz.func253 rfl Tryz.results253 Tryz.ntmps253 rfl ?_
 have M0 := Mem.refl w
 refine aD (aA (bI rfl rfl (aB (aC (aD (aA (aZ rfl rfl (aZ rfl rfl (wq (aKp rfl (mP _ (by omega) (by omega))) rfl ?_)))))))))
 refine wq (nJ rfl rfl ) rfl (bI rfl rfl (aB (aC (aL (cA (.int _ _) rfl ?_)))))
 exact ⟨iE (by omega), M0.below⟩
set_option maxHeartbeats 4000000 in
theorem aGo (w : World) (b : Body) (hb : Okb b) :
  Calls Tryz.prog 229 #[(.agg (aF b).toArray)] w (fun ex w' => ∃ v, ex = .returned v ∧ (fun v w' => v = .tuple #[.int .i32 (aRi b), .int .i32 (aQi b)] ∧ Below w.heap.size w w') v w') := by
 have hr := hb.r
 have ha := hb.a
 have hp := hb.p
 refine aH #[.tmp 2, .tmp 3] 18 Tryz.func229 rfl Tryz.results229 Tryz.ntmps229 rfl ?_
 have M0 := Mem.refl w
 refine aD (aA (bG (.agg (List.toArray _)) M0 rfl rfl rfl (fun b1 w1 M1 => (bI rfl rfl (bI rfl rfl (aB (aC (aD (bO [(0, 0), (1, 0), (2, 1), (4, 0), (5, 1), (7, 0), (8, 0), (9, 1), (11, 0), (12, 1), (3, 2), (6, 0), (10, 2), (13, 0), (14, 0), (15, 0)] mixed rfl (by kernel_rfl) (fun w2 hb2 hh2 => ?_))))))))))
 have M2 := M1.drew hb2 hh2
 refine aY rfl rfl rfl (fun _ => aE 2 jZ rfl) (aY rfl rfl rfl (fun _ => aE 0 dS rfl) (bW rfl rfl rfl (aM 0 (.int _ _) aW M2 rfl rfl rfl) (aY rfl rfl rfl (fun _ => aE 1 lS rfl) (bW rfl rfl rfl (aM 0 (.int _ _) aW M2 rfl rfl rfl) (aY rfl rfl rfl (fun _ => aE 2 jZ rfl) ?_)))))
 refine aY rfl rfl rfl (fun _ => aE 1 dG rfl) (bW rfl rfl rfl (aM 0 (.int _ _) aW M2 rfl rfl rfl) (aY rfl rfl rfl (fun _ => aE 1 lS rfl) (bW rfl rfl rfl (aM 0 (.int _ _) aW M2 rfl rfl rfl) (dU [false, false, false, true] rfl (by kernel_rfl) (bZ aYj rfl rfl (aIe _ _ (by omega) (by omega)) ?_)))))
 rintro v3 w3 ⟨rfl, hb3⟩
 have M3 := M2.callB hb3
 refine aB (aC ⟨(eL (bQ rfl (aM 0 (.int _ _) aW M3 rfl rfl rfl)) (eL (bQ rfl (aM 0 (.int _ _) aW M3 rfl rfl rfl)) (eL (bQ rfl (aM 0 (.int _ _) aW M3 rfl rfl rfl)) dT))), ?_⟩)
 refine aY rfl rfl rfl (fun _ => iZ rfl rfl (mP _ (by omega) (by omega))) (dU [false, true, false] rfl (by kernel_rfl) (bZ aYj rfl rfl (aIe _ _ (by omega) (by omega)) ?_))
 rintro v4 w4 ⟨rfl, hb4⟩
 have M4 := M3.callB hb4
 refine aB (aC ⟨(eL (bQ rfl (aM 0 (.int _ _) aW M4 rfl rfl rfl)) (eL (bQ rfl (aM 0 (.int _ _) aW M4 rfl rfl rfl)) dT)), ?_⟩)
 refine aY rfl rfl rfl (fun _ => iZ rfl rfl (mP _ (by omega) (by omega))) (qO rfl rfl rfl (qO rfl rfl rfl (cB (aC (aL (fX (.int _ _) (.int _ _) rfl rfl ?_))))))
 exact ⟨rfl, M4.below⟩
set_option maxHeartbeats 4000000 in
theorem bHo (w : World) (b : Body) (hb : Okb b) :
  Calls Tryz.prog 203 #[(.agg (aF b).toArray)] w (fun ex w' => ∃ v, ex = .returned v ∧ (fun v w' => v = (.agg (cX (iU b)).toArray) ∧ Below w.heap.size w w') v w') := by
 have hr := hb.r
 have ha := hb.a
 have hp := hb.p
 have he := aXr hb
 refine aH #[.cell 2 253] 31 Tryz.func203 rfl Tryz.results203 Tryz.ntmps203 rfl ?_
 have M0 := Mem.refl w
 refine aD (aA (bG (.agg (List.toArray _)) M0 rfl rfl rfl (fun b1 w1 M1 => (aP aFi M1 rfl rfl (fun b2 w2 M2 => (aB (aC (aD (aA (wq (bC 0 bJ M2 rfl rfl rfl) rfl (bZ bDw rfl rfl (aGo _ b hb) ?_)))))))))))
 rintro v3 w3 ⟨rfl, hb3⟩
 have M3 := M2.callB hb3
 refine wq (aG (.tuple (List.toArray _)) rfl) rfl (wq (bB (.int _ _) rfl rfl) rfl (wq (bB (.int _ _) rfl rfl) rfl (bI rfl rfl (bI rfl rfl (aB (aC (aD (aA ?_))))))))
 refine wq (aE 6 fR rfl) rfl (wq (aE 0 dS rfl) rfl (wq (aM 0 (.int _ _) aW M3 rfl rfl rfl) rfl (aZ rfl rfl (wq (mL rfl rfl (mP _ (by omega) (by omega))) rfl (wq (aE 6 fR rfl) rfl ?_)))))
 refine wq (aE 1 dG rfl) rfl (wq (aM 0 (.int _ _) aW M3 rfl rfl rfl) rfl (aZ rfl rfl (wq (mL rfl rfl (mP _ (by omega) (by omega))) rfl (wq (aE 6 fR rfl) rfl (wq (aE 0 dS rfl) rfl ?_)))))
 refine wq (aM 0 (.int _ _) aW M3 rfl rfl rfl) rfl (aZ rfl rfl (wq (iZ rfl rfl (mP _ (by omega) (by omega))) rfl (wq (aE 6 fR rfl) rfl (wq (aE 1 dG rfl) rfl (wq (aM 0 (.int _ _) aW M3 rfl rfl rfl) rfl ?_)))))
 refine aZ rfl rfl (wq (iZ rfl rfl (mP _ (by omega) (by omega))) rfl (wq (cH [(0, .int _ _), (1, .int _ _), (2, .int _ _), (3, .int _ _)] _ aDc rfl rfl) rfl (bA 1 _ jA M3 rfl rfl rfl rfl rfl (aQ rfl) rfl (fun w4 M4 => (aB (aC (aL (eO 1 jA M4 rfl rfl rfl ?_))))))))
 exact ⟨rfl, M4.below⟩
set_option maxHeartbeats 4000000 in
theorem vQ (w : World) (a : Bx) :
  Calls Tryz.prog 231 #[(.agg (cX a).toArray)] w (fun ex w' => ∃ v, ex = .returned v ∧ (fun v w' => v = .bool (decide (hJ a)) ∧ Below w.heap.size w w') v w') := by
 refine aH #[.tmp 2] 15 Tryz.func231 rfl Tryz.results231 Tryz.ntmps231 rfl ?_
 have M0 := Mem.refl w
 refine aD (aA (bG (.agg (List.toArray _)) M0 rfl rfl rfl (fun b1 w1 M1 => (wq (aI (.bool false) rfl) rfl (aB (aC (aD (aA (wq (aE 0 tA rfl) rfl (wq (aM 0 (.int _ _) aW M1 rfl rfl rfl) rfl ?_))))))))))
 refine wq (aE 2 sY rfl) rfl (wq (aM 0 (.int _ _) aW M1 rfl rfl rfl) rfl (dB rfl rfl rfl rfl (wq (aG (.bool (decide _)) rfl) rfl ?_)))
 refine dE 8 rfl (fun g8 => ?_) (fun g8 => ?_)
 ·refine aR rfl rfl (aR rfl rfl (aR rfl rfl (aR rfl rfl (aR rfl rfl (wq (bS true (.bool true) rfl rfl) rfl ?_)))))
  refine wq (aI (.bool true) rfl) rfl (aB (aC (aL (cA (.bool true) rfl ?_))))
  exact ⟨by unfold hJ; first | exact bT (by omega) | exact bD (by omega), M1.below⟩
 ·refine wq (aE 1 uH rfl) rfl (wq (aM 0 (.int _ _) aW M1 rfl rfl rfl) rfl (wq (aE 3 tJ rfl) rfl (wq (aM 0 (.int _ _) aW M1 rfl rfl rfl) rfl (dB rfl rfl rfl rfl (wq (bS false (.bool (decide _)) rfl rfl) rfl ?_)))))
  refine wq (aI (.bool (decide _)) rfl) rfl (aB (aC (aL (cA (.bool (decide _)) rfl ?_))))
  exact ⟨by unfold hJ; first | exact bT (by omega) | exact bD (by omega), M1.below⟩
set_option maxHeartbeats 4000000 in
theorem aUx (w : World) (N : Rd w 4 (some ⟨3, 0, none⟩) 1 [cX gL]) (a b : Bx) :
  Calls Tryz.prog 232 #[(.agg (cX a).toArray), (.agg (cX b).toArray)] w (fun ex w' => ∃ v, ex = .returned v ∧ (fun v w' => v = (.agg (cX (aCn a b)).toArray) ∧ Below w.heap.size w w') v w') := by
 refine aH #[.cell 4 253] 31 Tryz.func232 rfl Tryz.results232 Tryz.ntmps232 rfl ?_
 have M0 := Mem.refl w
 refine aD (aA (bG (.agg (List.toArray _)) M0 rfl rfl rfl (fun b1 w1 M1 => (bG (.agg (List.toArray _)) M1 rfl rfl rfl (fun b2 w2 M2 => (aP aFi M2 rfl rfl (fun b3 w3 M3 => (aB (aC (aD (aA (wq (aE 0 tA rfl) rfl ?_))))))))))))
 refine wq (aM 0 (.int _ _) aW M3 rfl rfl rfl) rfl (wq (aE 0 tA rfl) rfl (wq (aM 1 (.int _ _) aW M3 rfl rfl rfl) rfl (wq (nJ rfl rfl ) rfl (wq (aE 1 uH rfl) rfl (wq (aM 0 (.int _ _) aW M3 rfl rfl rfl) rfl ?_)))))
 refine wq (aE 1 uH rfl) rfl (wq (aM 1 (.int _ _) aW M3 rfl rfl rfl) rfl (wq (nJ rfl rfl ) rfl (wq (aE 2 sY rfl) rfl (wq (aM 0 (.int _ _) aW M3 rfl rfl rfl) rfl (wq (aE 2 sY rfl) rfl ?_)))))
 refine wq (aM 1 (.int _ _) aW M3 rfl rfl rfl) rfl (wq (zP rfl rfl ) rfl (wq (aE 3 tJ rfl) rfl (wq (aM 0 (.int _ _) aW M3 rfl rfl rfl) rfl (wq (aE 3 tJ rfl) rfl (wq (aM 1 (.int _ _) aW M3 rfl rfl rfl) rfl ?_)))))
 refine wq (zP rfl rfl ) rfl (wq (cH [(0, .int _ _), (1, .int _ _), (2, .int _ _), (3, .int _ _)] _ aDc rfl rfl) rfl (aP aFi M3 rfl rfl (fun b4 w4 M4 => (bA 3 _ jA M4 rfl rfl rfl rfl rfl (aQ rfl) rfl (fun w5 M5 => (aB (aC (aD (aD (aA (wq (bC 3 jA M5 rfl rfl rfl) rfl ?_)))))))))))
 refine bZ aKz rfl rfl (vQ _ ⟨max a.x0 b.x0, max a.y0 b.y0, min a.x1 b.x1, min a.y1 b.y1⟩) ?_
 rintro v6 w6 ⟨rfl, hb6⟩
 have M6 := M5.callB hb6
 refine aB (aC ?_)
 refine aX rfl (fun h28 => ?_) (fun h28 => ?_)
 ·refine aD (aA (wq (oZ (k := 0) (o := 0) _ jA (N.mem M6) (show ([cX gL] : List (List Value))[0]? = some (cX gL) from rfl) rfl rfl rfl) rfl (bA 2 _ jA M6 rfl rfl rfl rfl rfl (aQ rfl) rfl (fun w7 M7 => (aB (aC (aL (cD (eO 2 jA M7 rfl rfl rfl ?_)))))))))
  exact ⟨by unfold aCn; rw [if_pos h28]; rfl, M7.below⟩
 ·refine aK (aC (aD (aA (wq (bC 3 jA M6 rfl rfl rfl) rfl (bA 2 _ jA M6 rfl rfl rfl rfl rfl (aQ rfl) rfl (fun w8 M8 => (aB (aC (aL (eO 2 jA M8 rfl rfl rfl ?_))))))))))
  exact ⟨by unfold aCn; rw [if_neg h28]; rfl, M8.below⟩
set_option maxHeartbeats 4000000 in
theorem aIz (w : World) (N : Rd w 4 (some ⟨3, 0, none⟩) 1 [cX gL]) (a b : Bx) :
  Calls Tryz.prog 207 #[(.agg (cX a).toArray), (.agg (cX b).toArray)] w (fun ex w' => ∃ v, ex = .returned v ∧ (fun v w' => v = .bool (decide (ovl a b)) ∧ Below w.heap.size w w') v w') := by
 refine aH #[.tmp 4] 10 Tryz.func207 rfl Tryz.results207 Tryz.ntmps207 rfl ?_
 have M0 := Mem.refl w
 refine aD (aA (bG (.agg (List.toArray _)) M0 rfl rfl rfl (fun b1 w1 M1 => (bG (.agg (List.toArray _)) M1 rfl rfl rfl (fun b2 w2 M2 => (wq (aI (.bool false) rfl) rfl (aB (aC (aD (aA (wq (bC 0 jA M2 rfl rfl rfl) rfl ?_)))))))))))
 refine wq (bC 1 jA M2 rfl rfl rfl) rfl (bZ bGh rfl rfl (aUx _ (N.mem M2) a b) ?_)
 rintro v3 w3 ⟨rfl, hb3⟩
 have M3 := M2.callB hb3
 refine bZ aKz rfl rfl (vQ _ (aCn a b)) ?_
 rintro v4 w4 ⟨rfl, hb4⟩
 have M4 := M3.callB hb4
 refine wq (lL rfl) rfl (wq (aI (.bool (decide _)) rfl) rfl (aB (aC (aL (cA (.bool (decide _)) rfl ?_)))))
 exact ⟨bD (aXx a b), M4.below⟩
set_option maxHeartbeats 4000000 in
theorem aNh (w : World) (x y : Int) :
  Calls Tryz.prog 267 #[.agg [.int .i32 x, .int .i32 y].toArray] w (fun ex w' => ∃ v, ex = .returned v ∧ (fun v w' => v = (.agg (cK (mO x, mO y)).toArray) ∧ Below w.heap.size w w') v w') := by
 refine aH #[.cell 2 283] 10 Tryz.func267 rfl Tryz.results267 Tryz.ntmps267 rfl ?_
 have M0 := Mem.refl w
 refine aD (aA (bG (.agg (List.toArray _)) M0 rfl rfl rfl (fun b1 w1 M1 => (aP oM M1 rfl rfl (fun b2 w2 M2 => (aB (aC (aD (aA (wq (aE 0 dS rfl) rfl (wq (aM 0 (.int _ _) aW M2 rfl rfl rfl) rfl ?_)))))))))))
 refine wq (gT rfl rfl (by decide)) rfl (aV 5 (.int .i32 (mO x)) (iE (bCs x)) (wq (aE 1 dG rfl) rfl (wq (aM 0 (.int _ _) aW M2 rfl rfl rfl) rfl (wq (gT rfl rfl (by decide)) rfl (aV 8 (.int .i32 (mO y)) (iE (bCs y)) ?_)))))
 refine wq (cH [(0, .int _ _), (1, .int _ _)] _ aCc rfl rfl) rfl (bA 1 _ gY M2 rfl rfl rfl rfl rfl (aQ rfl) rfl (fun w3 M3 => (aB (aC (aL (eO 1 gY M3 rfl rfl rfl ?_))))))
 exact ⟨rfl, M3.below⟩
set_option maxHeartbeats 4000000 in
theorem aRc (w : World) (a : Bx) :
  Calls Tryz.prog 254 #[(.agg (cX a).toArray)] w (fun ex w' => ∃ v, ex = .returned v ∧ (fun v w' => v = .tuple #[(.agg (cK (loC a)).toArray), (.agg (cK (hiC a)).toArray), .bool (decide (¬ hJ a))] ∧ Below w.heap.size w w') v w') := by
 refine aH #[.cell 2 283, .cell 3 283, .tmp 4] 21 Tryz.func254 rfl Tryz.results254 Tryz.ntmps254 rfl ?_
 have M0 := Mem.refl w
 refine aD (aA (bG (.agg (List.toArray _)) M0 rfl rfl rfl (fun b1 w1 M1 => (aP oM M1 rfl rfl (fun b2 w2 M2 => (aP oM M2 rfl rfl (fun b3 w3 M3 => (wq (aI (.bool false) rfl) rfl (aB (aC (aD (aD (aA ?_)))))))))))))
 refine wq (bC 0 jA M3 rfl rfl rfl) rfl (bZ aKz rfl rfl (vQ _ a) ?_)
 rintro v4 w4 ⟨rfl, hb4⟩
 have M4 := M3.callB hb4
 refine aB (aC ?_)
 refine aX rfl (fun h6 => ?_) (fun h6 => ?_)
 ·refine aD (bO [(0, 1), (1, 1), (2, 2), (3, 2), (4, 0)] mixed rfl (by kernel_rfl) (fun w5 hb5 hh5 => ?_))
  have M5 := M4.drew hb5 hh5
  refine bW rfl rfl rfl (bC 1 gY M5 rfl rfl rfl) (bW rfl rfl rfl (bC 2 gY M5 rfl rfl rfl) (dU [false, true] rfl (by kernel_rfl) (bA 1 _ gY M5 rfl rfl rfl rfl rfl (aQ rfl) rfl (fun w6 M6 => ?_))))
  refine aB (aC ⟨(eL (bQ rfl (bC 2 gY M6 rfl rfl rfl)) dT), ?_⟩)
  refine dU [true] rfl (by kernel_rfl) (bA 2 _ gY M6 rfl rfl rfl rfl rfl (aQ rfl) rfl (fun w7 M7 => ?_))
  refine aB (aC ⟨dT, ?_⟩)
  refine aY rfl rfl rfl (fun _ => aI (.bool false) rfl) (cB (aC (aL (cD (bDf (v3 := .bool false) 1 2 gY M7 rfl rfl rfl rfl rfl rfl rfl ?_)))))
  exact ⟨by unfold loC hiC; rw [if_pos h6, if_pos h6, decide_eq_false (fun h => h h6)]; rfl, M7.below⟩
 ·refine aK (aC (aD (bO [(0, 0), (1, 1), (2, 0), (3, 1), (4, 0), (6, 0), (7, 1), (8, 0), (9, 1), (10, 0), (5, 2), (11, 2), (12, 2), (13, 2), (14, 0)] mixed rfl (by kernel_rfl) (fun w8 hb8 hh8 => ?_))))
  have M8 := M4.drew hb8 hh8
  refine aY rfl rfl rfl (fun _ => aE 0 tA rfl) (bW rfl rfl rfl (aM 0 (.int _ _) aW M8 rfl rfl rfl) (aY rfl rfl rfl (fun _ => aE 1 uH rfl) (bW rfl rfl rfl (aM 0 (.int _ _) aW M8 rfl rfl rfl) (aY rfl rfl rfl (fun _ => cH [(0, .int _ _), (1, .int _ _)] _ fD rfl rfl) ?_))))
  refine aY rfl rfl rfl (fun _ => aE 2 sY rfl) (bW rfl rfl rfl (aM 0 (.int _ _) aW M8 rfl rfl rfl) (aY rfl rfl rfl (fun _ => aE 3 tJ rfl) (bW rfl rfl rfl (aM 0 (.int _ _) aW M8 rfl rfl rfl) (aY rfl rfl rfl (fun _ => cH [(0, .int _ _), (1, .int _ _)] _ fD rfl rfl) ?_))))
  refine dU [false, false, true, true] rfl (by kernel_rfl) (bZ aTh rfl rfl (aNh _ a.x0 a.y0) ?_)
  rintro v9 w9 ⟨rfl, hb9⟩
  have M9 := M8.callB hb9
  refine aB (aC ⟨(eL (bQ rfl (aM 0 (.int _ _) aW M9 rfl rfl rfl)) (eL (bQ rfl (aM 0 (.int _ _) aW M9 rfl rfl rfl)) dT)), ?_⟩)
  refine dU [true, true] rfl (by kernel_rfl) (bZ aTh rfl rfl (aNh _ a.x1 a.y1) ?_)
  rintro v10 w10 ⟨rfl, hb10⟩
  have M10 := M9.callB hb10
  refine aB (aC ⟨dT, ?_⟩)
  refine dU [] rfl (by kernel_rfl) (bA 1 _ gY M10 rfl rfl rfl rfl rfl (aQ rfl) rfl (fun w11 M11 => ?_))
  refine aB (aC ⟨dT, ?_⟩)
  refine dU [] rfl (by kernel_rfl) (bA 2 _ gY M11 rfl rfl rfl rfl rfl (aQ rfl) rfl (fun w12 M12 => ?_))
  refine aB (aC ⟨dT, ?_⟩)
  refine aY rfl rfl rfl (fun _ => aI (.bool true) rfl) (cB (aC (aL (bDf (v3 := .bool true) 1 2 gY M12 rfl rfl rfl rfl rfl rfl rfl ?_))))
  exact ⟨by unfold loC hiC; rw [if_neg h6, if_neg h6, decide_eq_true h6], M12.below⟩
set_option maxHeartbeats 4000000 in
theorem aKo (w : World) (a : Bx) :
  Calls Tryz.prog 230 #[(.agg (cX a).toArray)] w (fun ex w' => ∃ v, ex = .returned v ∧ (fun v w' => ∃ b1 b2 b3, v = .func (.func 255) #[] #[.pointer (some ⟨b1, 0, none⟩), .pointer (some ⟨b2, 0, none⟩), .pointer (some ⟨b3, 0, none⟩)] ∧ Mem w [] [(some b1, bc (cK (loC a)) 283), (some b3, bc (cK (hiC a)) 283), (some b2, bc [.bool (decide (¬ hJ a))] 4)] w') v w') := by
 refine aH #[.tmp 2] 13 Tryz.func230 rfl Tryz.results230 Tryz.ntmps230 rfl ?_
 have M0 := Mem.refl w
 refine aD (aA (bG (.agg (List.toArray _)) M0 rfl rfl rfl (fun b1 w1 M1 => (wq (aI (_) rfl) rfl (aB (aC (aD (aA (wq (bC 0 jA M1 rfl rfl rfl) rfl (bZ bDs rfl rfl (aRc _ a) ?_))))))))))
 rintro v2 w2 ⟨rfl, hb2⟩
 have M2 := M1.callB hb2
 refine wq (aG (.tuple (List.toArray _)) rfl) rfl (wq (bB (.agg (List.toArray _)) rfl rfl) rfl (wq (bB (.agg (List.toArray _)) rfl rfl) rfl (wq (bB (.bool (decide _)) rfl rfl) rfl (aP oM M2 rfl rfl (fun b3 w3 M3 => (aP oM M3 rfl rfl (fun b4 w4 M4 => ?_)))))))
 refine aP aOu M4 rfl rfl (fun b5 w5 M5 => (bA 1 _ gY M5 rfl rfl rfl rfl rfl (aQ rfl) rfl (fun w6 M6 => (bA 2 _ gY M6 rfl rfl rfl rfl rfl (aQ rfl) rfl (fun w7 M7 => (dX 3 (.bool (decide _)) mV M7 rfl rfl rfl rfl rfl rfl (fun w8 M8 => (aB (aC (aD (aA (wq (cN [] [.pointer _, .pointer _, .pointer _] rfl rfl) rfl ?_))))))))))))
 refine wq (aI (.func _ _ _) rfl) rfl (aB (aC (aL (cA (.func _ _ _) rfl ?_))))
 exact ⟨b3, b5, b4, rfl, M8.keep [false, true, true, true]⟩
set_option maxHeartbeats 4000000 in
theorem aIq (w : World) (lo hi : Int × Int) (ok : Bool) (b1 b2 b3 : Nat) (L1 : Rd w 2 (some ⟨b1, 0, none⟩) 1 [cK lo]) (L2 : Rd w 1 (some ⟨b2, 0, none⟩) 1 [[.bool ok]]) (L3 : Rd w 2 (some ⟨b3, 0, none⟩) 1 [cK hi]) (hlo : Okc lo) (hhi : Okc hi) (lp ob : Nat) (rec : Loop) (hY : sS Tryz.prog lp ob rec 281 283 2 1048576 (fun x => ∃ a b, x = [.int .i32 a, .int .i32 b])) (r0 : Row) (hr0 : aU 283 2 r0.A r0.n r0.c [] r0.e) (hO : Own [(some lp, .loop rec), (some ob, bc [.slice r0.A r0.n r0.c] 281), r0.e] w) (hd1 : 0 < 1 → ∀ q off, (some ⟨b1, 0, none⟩ : Option Addr) = some ⟨q, off, none⟩ → q ∉ bH [(some lp, .loop rec), (some ob, bc [.slice r0.A r0.n r0.c] 281), r0.e]) (hd2 : 0 < 1 → ∀ q off, (some ⟨b2, 0, none⟩ : Option Addr) = some ⟨q, off, none⟩ → q ∉ bH [(some lp, .loop rec), (some ob, bc [.slice r0.A r0.n r0.c] 281), r0.e]) (hd3 : 0 < 1 → ∀ q off, (some ⟨b3, 0, none⟩ : Option Addr) = some ⟨q, off, none⟩ → q ∉ bH [(some lp, .loop rec), (some ob, bc [.slice r0.A r0.n r0.c] 281), r0.e]) :
  Calls Tryz.prog 255 #[.func (.yield lp) #[] #[], .pointer (some ⟨b1, 0, none⟩), .pointer (some ⟨b2, 0, none⟩), .pointer (some ⟨b3, 0, none⟩)] w (fun ex w' => ∃ v, ex = .returned v ∧ (fun v w' => v = .tuple #[] ∧ ∃ r : Row, aU 283 2 r.A r.n r.c ((vB ok lo hi).map cK) r.e ∧ Mem w (bH [(some lp, .loop rec), (some ob, bc [.slice r0.A r0.n r0.c] 281), r0.e]) [(some lp, .loop rec), (some ob, bc [.slice r.A r.n r.c] 281), r.e] w') v w') := by
 rw [← eX b1, ← eX b2, ← eX b3]
 have hxd : nX lo hi = (hi.1 - lo.1 + 1).toNat := rfl
 have hyd : nY lo hi = (hi.2 - lo.2 + 1).toNat := rfl
 have hlx := hlo.x
 have hly := hlo.y
 have hhx := hhi.x
 have hhy := hhi.y
 have hnx := bCo hlo hhi
 have hny := bCm hlo hhi
 refine aH #[] 32 Tryz.func255 rfl Tryz.results255 Tryz.ntmps255 rfl ?_
 have M0 := hO.mem
 refine aD (aA (wq (bN 1 yW (L1.memY M0 hd1) (Nat.lt_of_le_of_lt (Nat.zero_le _) ((L1.memY M0 hd1).below_len (show ([cK lo] : List (List Value))[0]? = some (cK lo) from rfl))) rfl) rfl (wq (eM (o := 1) (.int _ _) aW (L1.memY M0 hd1) (show ([cK lo] : List (List Value))[0]? = some (cK lo) from rfl) rfl rfl) rfl ?_)))
 refine bI rfl rfl (aB (aC (aT (dI (σ := Nat × Row) [0, 1, 2, 3] (fun (j, r) => [(5, .int .i32 (lo.2 + (j : Int)))]) (fun (j, r) w' => (j ≤ nY lo hi ∧ (ok = false → j = 0) ∧ aU 283 2 r.A r.n r.c ((nH lo hi j).map cK) r.e) ∧ Mem w (bH [(some lp, .loop rec), (some ob, bc [.slice r0.A r0.n r0.c] 281), r0.e]) [(some lp, .loop rec), (some ob, bc [.slice r.A r.n r.c] 281), r.e] w') (fun (j, r) => nY lo hi - j) (0, r0) (bM (iv rfl (by simp)) eP) (⟨⟨by omega, fun _ => rfl, hr0⟩, M0⟩) ?_))))
 rintro ⟨j, r⟩ ρ1 w1 ⟨⟨hj, hjz, hr⟩, hM1⟩
 refine aD (aD (aA (wq (eM (o := 0) (.bool _) mV (L2.memY hM1 hd2) (show ([[.bool ok]] : List (List Value))[0]? = some ([.bool ok]) from rfl) rfl rfl) rfl (wq (aG (.bool _) rfl) rfl ?_))))
 refine mG 10 _ rfl (fun g10 => ?_) (fun g10 => ?_)
 ·refine aZ rfl rfl (wq (bN 1 yW (L3.memY hM1 hd3) (Nat.lt_of_le_of_lt (Nat.zero_le _) ((L3.memY hM1 hd3).below_len (show ([cK hi] : List (List Value))[0]? = some (cK hi) from rfl))) rfl) rfl (wq (eM (o := 1) (.int _ _) aW (L3.memY hM1 hd3) (show ([cK hi] : List (List Value))[0]? = some (cK hi) from rfl) rfl rfl) rfl ?_))
  refine dB rfl rfl rfl rfl (wq (bS true (.bool (decide _)) rfl rfl) rfl (aB (aC ?_)))
  refine aX rfl (fun h15 => ?_) (fun h15 => ?_)
  ·refine aK (aC (aD (aT (aD (aA (wq (bN 0 aAm (L1.memY hM1 hd1) (Nat.lt_of_le_of_lt (Nat.zero_le _) ((L1.memY hM1 hd1).below_len (show ([cK lo] : List (List Value))[0]? = some (cK lo) from rfl))) rfl) rfl (wq (eM (o := 0) (.int _ _) aW (L1.memY hM1 hd1) (show ([cK lo] : List (List Value))[0]? = some (cK lo) from rfl) rfl rfl) rfl ?_)))))))
   refine bI rfl rfl (aB (aC (aT (dI (σ := Nat × Row) [0, 1, 2, 3, 5] (fun (i, q0) => [(6, .int .i32 (lo.1 + (i : Int)))]) (fun (i, q0) w' => (i ≤ nX lo hi ∧ aU 283 2 q0.A q0.n q0.c ((nH lo hi j ++ aAf lo i j).map cK) q0.e) ∧ Mem w (bH [(some lp, .loop rec), (some ob, bc [.slice r0.A r0.n r0.c] 281), r0.e]) [(some lp, .loop rec), (some ob, bc [.slice q0.A q0.n q0.c] 281), q0.e] w') (fun (i, q0) => nX lo hi - i) (0, r) (bM (iv rfl (by simp)) eP) (⟨⟨by omega, by simpa [aAf] using hr⟩, hM1⟩) ?_))))
   rintro ⟨i, q0⟩ ρ2 w2 ⟨⟨hi2, hq0⟩, hM2⟩
   have hql : (nH lo hi j).length + i = q0.n := by simpa [aGv] using hq0.1
   refine aD (aD (aA (aZ rfl rfl (wq (bN 0 aAm (L3.memY hM2 hd3) (Nat.lt_of_le_of_lt (Nat.zero_le _) ((L3.memY hM2 hd3).below_len (show ([cK hi] : List (List Value))[0]? = some (cK hi) from rfl))) rfl) rfl (wq (eM (o := 0) (.int _ _) aW (L3.memY hM2 hd3) (show ([cK hi] : List (List Value))[0]? = some (cK hi) from rfl) rfl rfl) rfl ?_)))))
   refine dB rfl rfl rfl rfl (aB (aC ?_))
   refine aX rfl (fun h23 => ?_) (fun h23 => ?_)
   ·have hlt6 := aVv (lo := lo) (hi := hi) (i := i) (j := j) hnx (by omega) (by omega)
    refine aK (aC (aD (aT (aD (aCd (aCg (aG (.func _ _ _) rfl) rfl rfl (aCg (aG (.int _ _) rfl) rfl rfl (aCg (aG (.int _ _) rfl) rfl rfl (aCg (cH [(0, .int _ _), (1, .int _ _)] _ aCc rfl rfl) rfl rfl ?_)))))))))
    obtain ⟨fy, ty, ay, by1, hy1, hy2⟩ := hY _ q0 ((nH lo hi j ++ aAf lo i j).map cK) (cK (lo.1 + (i : Int), lo.2 + (j : Int))) ⟨_, _, rfl⟩ (by omega) hq0 (hM2.ownSeg 0 3)
    refine aDs rfl rfl rfl rfl hy1 (hy2.mono ?_)
    rintro _ w3 ⟨rfl, q3, hqn3, hq3, hM3⟩
    have M3 : Mem _ _ [_, _, _] _ := hM2.seg 0 3 hM3
    refine ⟨_, rfl, ?_⟩
    refine aYc rfl (fun _ _ h => h) (wq (fZ false rfl rfl) rfl (aB (aC (cC rfl (aK (dD ?_))))))
    refine aC (aA (aZ rfl rfl (wq (iZ rfl rfl (mP _ (by omega) (by omega))) rfl (bI rfl rfl (aB ?_)))))
    refine cO (i + 1, q3) (bM (iv rfl (by omega)) eP) (cU rfl (cU rfl (cU rfl (cU rfl (cU rfl jT))))) ?_ ?_
    ·exact ⟨⟨by omega, by rw [aPo, ← List.append_assoc, List.map_append]; exact hq3⟩, M3⟩
    ·(show nX lo hi - (i + 1) < nX lo hi - i; omega)
   ·have hix : i = nX lo hi := by omega
    refine cR (dC (dA (eZ (dD (aC (aA ?_))))))
    refine aZ rfl rfl (wq (iZ rfl rfl (mP _ (by omega) (by omega))) rfl (bI rfl rfl (aB ?_)))
    refine cO (j + 1, q0) (bM (iv rfl (by omega)) eP) (cU rfl (cU rfl (cU rfl (cU rfl jT)))) ?_ ?_
    ·exact ⟨⟨by omega, fun h => (by rw [g10] at h; cases h), by rw [zE, ← hix]; exact hq0⟩, hM2⟩
    ·(show nY lo hi - (j + 1) < nY lo hi - j; omega)
  ·refine cR (dC (dA (eZ (jD ?_))))
   exact ⟨rfl, r, by unfold vB; first | (rw [if_pos g10, show nY lo hi = j by omega]; exact hr) | (rw [if_neg (by rw [g10]; decide)]; rw [hjz g10] at hr; exact hr), hM1⟩
 ·refine aR rfl rfl (aR rfl rfl (aR rfl rfl (aR rfl rfl (wq (bS false (.bool false) rfl rfl) rfl (aB (aC ?_))))))
  refine cC rfl (cR (dC (dA (eZ (jD ?_)))))
  exact ⟨rfl, r, by unfold vB; first | (rw [if_pos g10, show nY lo hi = j by omega]; exact hr) | (rw [if_neg (by rw [g10]; decide)]; rw [hjz g10] at hr; exact hr), hM1⟩
set_option maxHeartbeats 4000000 in
theorem aUy (w : World) (a : Bx) (ha : Okx a) :
  Calls Tryz.prog 204 #[(.agg (cX a).toArray)] w (fun ex w' => ∃ v, ex = .returned v ∧ (fun v w' => ∃ r : Row, v = .slice r.A r.n r.c ∧ aU 283 2 r.A r.n r.c ((gI a).map cK) r.e ∧ Mem w [] [r.e] w') v w') := by
 refine vW #[.tmp 2] 13 Tryz.func204 rfl Tryz.results204 Tryz.ntmps204 rfl ?_
 have M0 := Mem.refl w
 refine oU (mM (bG (.agg (List.toArray _)) M0 rfl rfl rfl (fun b1 w1 M1 => (eG rfl rfl (aB (oN ?_))))))
 refine oU (mM (aP bAj M1 rfl rfl (fun b2 w2 M2 => (aB (oN (oU ?_))))))
 refine oU (mM (wq (bC 0 jA M2 rfl rfl rfl) rfl (bZ bEh rfl rfl (aKo _ a) ?_)))
 rintro v3 w3 ⟨bl, bk, bh, rfl, hM3⟩
 have M3 : Mem _ _ [_, _, _, _, _] _ := M2.call0 hM3
 refine aB (oN (aIy ?_))
 have M4 : Mem _ _ [_, _, _, _, _] _ := ((M3.keep [false, true, true, true, true]).dummy default).perm (List.Perm.cons _ (List.perm_append_comm (l₁ := [_, _, _]) (l₂ := [_])))
 refine aIf bHl M4 rfl (fun fnn B lp tmps w1 hρ hn M1 => ?_)
 refine yI (P := Tryz.prog) (ob := b2) (Tsl := 281) (Te := 283) (sz := 2) (N := 1048576) (ok := (fun x => ∃ a b, x = [.int .i32 a, .int .i32 b])) M1 ?_ (fun hY => ?_)
 ·intro wr r ls x hok hlt hrow hO
  obtain ⟨xa, xb, rfl⟩ := hok
  refine ⟨_, _, _, _, aHb hO rfl rfl rfl hn (by decide) hρ ?_⟩
  have MR0 := hO.mem
  refine qY rfl (fun _ _ h => nomatch h.1) (aP oM MR0 rfl rfl (fun b5 w5 M5 => (bA 3 _ gY M5 rfl rfl rfl rfl rfl (aQ rfl) rfl (fun w6 M6 => (aB ?_)))))
  refine ⟨rfl, _, M6, rfl, fun w7 M7 => ?_⟩
  refine aGw (qY rfl (fun _ _ h => nomatch h.1) (wq (aM 1 (.slice _ _ _) aKi M7 rfl rfl rfl) rfl (wq (bC 3 gY M7 rfl rfl rfl) rfl (cS [.agg (List.toArray _)] [[.int .i32 xa, .int .i32 xb]] rfl aWw M7 rfl rfl rfl rfl (cY rfl) (by decide) (fun b8 w8 M8 => (dL 2 [[.int .i32 xa, .int .i32 xb]] aWw M8 rfl rfl rfl rfl rfl hrow rfl (by simp [Go.Bil.one]) (cZ.ofMem 4 M8 rfl) (by omega) (fun A9 c9 e9 w9 M9 hR9 => ?_)))))))
  refine dX 1 (.slice _ _ _) aKi M9 rfl rfl rfl rfl rfl rfl (fun w10 M10 => (aB (dD ?_)))
  refine ⟨rfl, _, M10, rfl, fun w11 M11 => ?_⟩
  exact ⟨⟨A9, r.n + 1, c9, e9⟩, rfl, hR9, M11.keep [true, true, true, false, false]⟩
 ·refine (aIq _ (loC a) (hiC a) _ bl bk bh (mW 3 M1 rfl rfl) (mW 5 M1 rfl rfl) (mW 4 M1 rfl rfl) (aKx ha) (aMh ha) lp b2 _ hY ⟨none, 0, 0, (none, default)⟩ (aU.nil _ _ _) (M1.ownSeg 0 3) (M1.apartTake 3 3 rfl rfl) (M1.apartTake 3 5 rfl rfl) (M1.apartTake 3 4 rfl rfl)).mono ?_
  rintro _ w5 ⟨v5, rfl, rfl, r, hr, hM⟩
  have M5 : Mem _ _ (_ :: [_, _, _, _, _, _]) _ := M1.seg 0 3 hM
  refine ⟨_, rfl, _, M5, fun w6 M6 => ?_⟩
  refine bDk (oN (oU (aCv (aOr (aM 1 (.slice _ _ _) aKi M6 rfl rfl rfl) rfl rfl (aOr (aI (.slice _ _ _) rfl) rfl rfl ?_)))))
  refine aOo (oN (aWs (bCh (i := 6) (.slice _ _ _) rfl M6 rfl (fun w9 M9 => ?_))))
  exact ⟨r, rfl, hr, M9.keep [false, false, true, false, false, false, false]⟩
set_option maxHeartbeats 4000000 in
theorem aHy (w : World) (F : Rd w 2 (some ⟨0, 0, none⟩) 1 [[.int .u32 73856093, .int .u32 19349663]]) (c : Int × Int) :
  Calls Tryz.prog 205 #[(.agg (cK c).toArray)] w (fun ex w' => ∃ v, ex = .returned v ∧ (fun v w' => v = .int .i64 (dP c : Int) ∧ Below w.heap.size w w') v w') := by
 refine aH #[.tmp 2] 20 Tryz.func205 rfl Tryz.results205 Tryz.ntmps205 rfl ?_
 have M0 := Mem.refl w
 refine aD (aA (bG (.agg (List.toArray _)) M0 rfl rfl rfl (fun b1 w1 M1 => (bI rfl rfl (aB (aC (aD (aA (wq (aE 0 aAm rfl) rfl (wq (aM 0 (.int _ _) aW M1 rfl rfl rfl) rfl ?_))))))))))
 refine wq (dZ gB Tryz.underlying35 rfl) rfl (wq (fG (0) aVc rfl rfl rfl (by decide)) rfl (wq (eM (k := 0) (o := 0) (.int _ _) bU (F.mem M1) (show ([[.int .u32 73856093, .int .u32 19349663]] : List (List Value))[0]? = some [.int .u32 73856093, .int .u32 19349663] from rfl) rfl rfl) rfl (wq (dV (.int _ _) rfl rfl rfl) rfl ?_)))
 refine wq (aE 1 yW rfl) rfl (wq (aM 0 (.int _ _) aW M1 rfl rfl rfl) rfl (wq (dZ gB Tryz.underlying35 rfl) rfl (wq (fG (1) aVc rfl rfl rfl (by decide)) rfl (wq (eM (k := 0) (o := 1) (.int _ _) bU (F.mem M1) (show ([[.int .u32 73856093, .int .u32 19349663]] : List (List Value))[0]? = some [.int .u32 73856093, .int .u32 19349663] from rfl) rfl rfl) rfl ?_))))
 refine wq (dV (.int _ _) rfl rfl rfl) rfl (wq (dV (.int _ _) rfl rfl rfl) rfl (bI rfl rfl (aB (aC (aD (aA (aZ rfl rfl (wq (dV (.int _ _) rfl rfl rfl) rfl ?_))))))))
 refine aV 18 (.int .u32 (qX c)) rfl (wq (bY sE Tryz.underlying3 rfl (kT _ (by have := kQ c; omega) (by have := kQ c; omega))) rfl (bI rfl rfl (aB (aC (aL (cA (.int _ _) rfl ?_))))))
 exact ⟨iE (aPc c), M1.below⟩
set_option maxHeartbeats 16000000 in
theorem aGd (w : World) (F : Rd w 2 (some ⟨0, 0, none⟩) 1 [[.int .u32 73856093, .int .u32 19349663]]) (b : Nat) (rs : List Row) (cnt : Int) (g : Nat → List Int) (hG : GridRows 35 rs g) (hcnt : 0 ≤ cnt ∧ cnt ≤ 1048576) (hgl : ∀ j, j < 1024 → (g j).length ≤ 1048576) (key : Int) (a : Bx) (ha : Okx a) (hO : Own ((some b, bc (dH rs cnt) 250) :: rs.map Row.e) w) (hdF : 0 < 1 → ∀ q off, (some ⟨0, 0, none⟩ : Option Addr) = some ⟨q, off, none⟩ → q ∉ bH ((some b, bc (dH rs cnt) 250) :: rs.map Row.e)) :
  Calls Tryz.prog 181 #[.pointer (some ⟨b, 0, none⟩), .int .u32 key, (.agg (cX a).toArray)] w (fun ex w' => ∃ v, ex = .returned v ∧ (fun v w' => v = .tuple #[] ∧ ∃ rs' : List Row, GridRows 35 rs' (rJ g key ((gI a).map dP)) ∧ Mem w (bH ((some b, bc (dH rs cnt) 250) :: rs.map Row.e)) ((some b, bc (dH rs' (cnt + 1)) 250) :: rs'.map Row.e) w') v w') := by
 refine aH #[] 49 Tryz.func181 rfl Tryz.results181 Tryz.ntmps181 rfl ?_
 have M0 := hO.mem
 refine aD (aA (bG (.agg (List.toArray _)) M0 rfl rfl rfl (fun b1 w1 M1 => ?_)))
 have M2 : Mem _ _ ([_, _] ++ _) _ := Mem.front (L := [_]) M1
 refine aB (aC (aD (aD (aA (wq (aG (.pointer _) rfl) rfl (wq (eN false Tryz.underlying279 rfl rfl) rfl (aB (aC (cC rfl (aK (aC (aD (aA ?_)))))))))))))
 refine wq (aG (.pointer _) rfl) rfl (wq (aN rfl) rfl (wq (aE 1024 aGm rfl) rfl (wq (aM 0 (.int .i64 cnt) iY M2 rfl rfl (yB hG.len)) rfl (wq (bP rfl rfl (by omega) (by omega)) rfl (wq (aN rfl) rfl ?_)))))
 refine wq (aE 1024 aGm rfl) rfl (dX 0 (.int _ _) iY M2 rfl rfl rfl rfl rfl (by rw [yB hG.len]; rfl) (fun w3 M3 => ?_))
 have M3b : Mem _ _ ([(some b, bc (dH rs (cnt + 1)) 250), _] ++ rs.map Row.e) _ := Mem.cells0 M3 (aCb hG.len)
 refine aB (aC (aD (aA (kE M3b rfl rfl (fun b4 w4 M4 => ?_)))))
 have M5 : Mem _ _ ([_, _, _] ++ _) _ := Mem.front (L := [_, _]) M4
 refine wq (aI (.map _) rfl) rfl (aB (aC (aD (aA (wq (bC 1 jA M5 rfl rfl rfl) rfl (bZ bGa rfl rfl (aUy _ a ha) ?_))))))
 rintro v6 w6 ⟨r0, rfl, hR0, hM6⟩
 have M6 : Mem _ _ ([_, _, _, _] ++ _) _ := Mem.front (L := [_, _, _]) (M5.call0 hM6)
 have hcl : (gI a).length = r0.n := by simpa using hR0.1
 have hcb := aMi ha
 refine wq (cT Tryz.underlying281 rfl) rfl (aZ rfl rfl (aB (aC (aT (dI (σ := Nat × List Row × dK) [0, 1, 6, 21, 22] (fun (i, rs1, em) => [(23, .int .i64 (i : Int))]) (fun (i, rs1, em) w' => (i ≤ r0.n ∧ GridRows 35 rs1 (rJ g key (((gI a).map dP).take i)) ∧ iL .i64 Value.bool (qJ (((gI a).map dP).take i)) (some b4) em) ∧ Mem w (bH ((some b, bc (dH rs cnt) 250) :: rs.map Row.e)) ([(some b, bc (dH rs1 (cnt + 1)) 250), (some b1, bc (cX a) 253), em, r0.e] ++ rs1.map Row.e) w') (fun (i, rs1, em) => r0.n - i) (0, rs, (some b4, .map #[] 0)) (bM rfl eP) (⟨⟨by omega, by rw [List.take_zero, aUp]; exact hG, (iL.empty _ _ b4).congr (fun q => by rw [List.take_zero]; exact aPw q)⟩, M6⟩) ?_)))))
 rintro ⟨i, rs1, em⟩ ρ7 w7 ⟨⟨hi, hrs, hme⟩, hM7⟩
 refine aD (aA (dB rfl rfl rfl rfl (aB (aC (aD ?_)))))
 refine aX rfl (fun h24 => ?_) (fun h24 => ?_)
 ·obtain ⟨xc, hxc⟩ := cM (xs := gI a) (k := i) hcl (by omega)
  have hbb : ((gI a).map dP)[i]? = some (dP xc) := by rw [List.getElem?_map, hxc]; rfl
  refine aK (aC (aD (aT (aD (aA (wq (bR (i) aWw rfl rfl rfl ((hR0.rd hM7 (aS (i := 3) rfl)).below_len (aJ cK hxc)) ((hR0.rd hM7 (aS (i := 3) rfl)).someK (aJ cK hxc))) rfl (wq (dJ _ gY (hR0.rd hM7 (aS (i := 3) rfl)) (aJ cK hxc) rfl) rfl ?_)))))))
  refine aP oM hM7 rfl rfl (fun b8 w8 M8 => ?_)
  have M9 : Mem _ _ ([_, _, _, _, _] ++ _) _ := Mem.front (L := [_, _, _, _]) M8
  refine bA 4 _ gY M9 rfl rfl rfl rfl rfl (aQ rfl) rfl (fun w10 M10 => (aB (aC (aD (aA (wq (bC 4 gY M10 rfl rfl rfl) rfl (bZ bEu rfl rfl (aHy _ (F.memY M10 hdF) xc) ?_)))))))
  rintro v11 w11 ⟨rfl, hb11⟩
  have M11 := M10.callB hb11
  refine bI rfl rfl (aB (aC (aD (aD (aA (wq (aG (.map _) rfl) rfl (aZ rfl rfl (wq (jN (enc := Value.bool) false 2 aUt zv4 M11 rfl hme rfl rfl) rfl (aB (aC ?_))))))))))
  refine iI _ rfl (fun h31 => ?_) (fun h31 => ?_)
  ·refine cR (dC (eZ (aC (aA (wq (bP rfl rfl (by omega) (by omega)) rfl (aZ rfl rfl ?_))))))
   refine aB ?_
   refine cO (i + 1, rs1, em) (bM rfl eP) (cU rfl (cU rfl (cU rfl (cU rfl (cU rfl jT))))) ?_ ?_
   ·exact ⟨⟨by omega, by rw [aXb hbb (uU.1 h31)]; exact hrs, by rw [aPn hbb (uU.1 h31)]; exact hme⟩, Mem.keepL (L := [_, _, _, _, _]) [true, true, true, true, false] M11⟩
   ·(show r0.n - (i + 1) < r0.n - i; omega)
  ·have hnb : dP xc ∉ ((gI a).map dP).take i := fun h => by have h2 := uU.2 h; rw [h2] at h31; cases h31
   refine aK (aC (aD (aA (wq (aG (.map _) rfl) rfl (aZ rfl rfl (iP (enc := Value.bool) 2 aUt M11 rfl rfl hme rfl rfl rfl rfl (fun e12 w12 hm12 M12 => (aB (aC (bO [(0, 0), (1, 0), (2, 0), (3, 0), (4, 0), (5, 0), (6, 0), (7, 1), (8, 0), (11, 0), (12, 0), (9, 2), (10, 2), (13, 0), (14, 2)] mixed rfl (by kernel_rfl) (fun w13 hb13 hh13 => ?_)))))))))))
   have M13 := M12.drew hb13 hh13
   refine aY rfl rfl rfl (fun _ => aG (.pointer _) rfl) (gV rfl rfl rfl (aY rfl rfl rfl (fun _ => aG (.pointer _) rfl) (gV rfl rfl rfl (aY rfl rfl rfl (fun _ => aN rfl) (aY rfl rfl rfl (fun _ => aE 0 yL rfl) ?_)))))
   refine aY rfl rfl rfl (fun _ => fG (dP xc) aJy rfl rfl rfl (jO xc)) ?_
   obtain ⟨rb, hrb⟩ := hrs.get (jO xc)
   have hrowb := hrs.row _ _ hrb
   have hgb : rJ g key (((gI a).map dP).take i) (dP xc) = g (dP xc) := by unfold rJ; rw [if_neg hnb]
   have hrn : (rJ g key (((gI a).map dP).take i) (dP xc)).length = rb.n := by simpa using hrowb.1
   have hgl := hgl (dP xc) (jO xc)
   rw [hgb] at hrn
   have M14 : Mem _ _ ([_, _, _, _, _, _] ++ (rs1.eraseIdx (dP xc)).map Row.e) _ := Mem.pull (L := [_, _, _, _, _]) (rs := rs1) M13 hrb
   refine bW rfl rfl rfl (aM 0 (.slice _ _ _) aFg M14 rfl rfl (rY hrb)) (gV rfl rfl rfl (aY rfl rfl rfl (fun _ => aN rfl) (aY rfl rfl rfl (fun _ => aE 0 yL rfl) (dU [false] rfl (by kernel_rfl) (cS [.int _ _] [fF key] rfl aHe M14 rfl rfl rfl rfl (cY rfl) (by decide) (fun b15 w15 M15 => ?_))))))
   have M16 : Mem _ _ ([_, _, _, _, _, _, _] ++ _) _ := Mem.front (L := [_, _, _, _, _, _]) M15
   refine aB (aC ⟨(eL (bQ rfl (aM 0 (.slice _ _ _) aFg M16 rfl rfl (rY hrb))) dT), ?_⟩)
   refine dU [true] rfl (by kernel_rfl) (dL 5 [fF key] aHe M16 rfl rfl rfl rfl rfl hrowb rfl (aMn _) (cZ.ofMem 6 M16 rfl) (by omega) (fun A17 c17 e17 w17 M17 hR17 => ?_))
   refine aB (aC ⟨dT, ?_⟩)
   refine aY rfl rfl rfl (fun _ => fG (dP xc) aJy rfl rfl rfl (jO xc)) (dU [] rfl (by kernel_rfl) (dX 0 (.slice _ _ _) aFg M17 rfl rfl rfl rfl rfl (by rw [rY hrb]; rfl) (fun w18 M18 => ?_)))
   have M18b : Mem _ _ ([(some b, bc (dH (rs1.set (dP xc) (⟨A17, rb.n + 1, c17, e17⟩ : Row)) (cnt + 1)) 250), _, _, _, _, _, _] ++ (rs1.eraseIdx (dP xc)).map Row.e) _ := Mem.cells0 M18 (aBq (⟨A17, rb.n + 1, c17, e17⟩ : Row) (by rw [hrs.len]; exact jO xc))
   refine aB (aC ⟨dT, ?_⟩)
   refine cB (dD (aC (aA (wq (bP rfl rfl (by omega) (by omega)) rfl (aZ rfl rfl (aB ?_))))))
   refine cO (i + 1, rs1.set (dP xc) (⟨A17, rb.n + 1, c17, e17⟩ : Row), e12) (bM rfl eP) (cU rfl (cU rfl (cU rfl (cU rfl (cU rfl jT))))) ?_ ?_
   ·exact ⟨⟨by omega, by rw [aTk hbb hnb]; exact hrs.put (r := (⟨A17, rb.n + 1, c17, e17⟩ : Row)) (jO xc) (by simpa using hR17), hm12.congr (fun q => aCj hbb q)⟩, Mem.push (L := [_, _, _, _]) (rs := rs1) (⟨A17, rb.n + 1, c17, e17⟩ : Row) (Mem.keepL (L := [_, _, _, _, _, _, _]) [true, true, true, true, false, true, false] M18b) (by rw [hrs.len]; exact jO xc)⟩
   ·(show r0.n - (i + 1) < r0.n - i; omega)
 ·have hin : i = r0.n := by omega
  rw [List.take_of_length_le (by simp; omega)] at hrs
  refine cR (dC (dA (eZ (jD ?_))))
  exact ⟨rfl, rs1, hrs, Mem.keepL (L := [_, _, _, _]) [true, false, false, false] hM7⟩
end Go.Proofs.YtaoaknafiegfoaaGreatDoor
