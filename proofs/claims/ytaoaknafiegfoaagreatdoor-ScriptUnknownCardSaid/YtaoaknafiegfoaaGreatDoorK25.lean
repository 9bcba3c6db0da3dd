/- Part of the proof of the laws of this seat: B8, C9, G10. No conditions. -/
import Derived.Test.YtaoaknafiegfoaaGreatDoorK2
import Derived.Test.YtaoaknafiegfoaaGreatDoorK5
import Derived.Test.YtaoaknafiegfoaaGreatDoorK6
import Derived.Test.YtaoaknafiegfoaaGreatDoorK11
import Derived.Test.YtaoaknafiegfoaaGreatDoorK15
set_option linter.unusedVariables false
set_option linter.unusedSimpArgs false
set_option linter.unnecessarySimpa false
namespace Go.Proofs.YtaoaknafiegfoaaGreatDoor
open Go.Bil
open Go.RowKit (Below)
open Go.Proofs
set_option maxHeartbeats 4000000 in
theorem aFu (w : World) (x : Int) (h0 : -2147483647 ≤ x) (h1 : x ≤ 2147483647) :
  Calls Tryz.prog 253 #[.int .i32 x] w (fun ex w' => ∃ v, ex = .returned v ∧ (fun v w' => v = .int .i32 (max x (-x)) ∧ Below w.heap.size w w') v w') := by
 refine aH #[.tmp 2] 7 Tryz.func253 rfl Tryz.results253 Tryz.ntmps253 rfl ?_
 have M0 := Mem.refl w
 refine aD (aA (bP rfl rfl (aB (aC (aD (aA (aY rfl rfl (aY rfl rfl (wq (aJg rfl (lU _ (by omega) (by omega))) rfl ?_)))))))))
 refine wq (nP rfl rfl ) rfl (bP rfl rfl (aB (aC (aN (cB (.int _ _) rfl ?_)))))
 exact ⟨iE (by omega), M0.below⟩
set_option maxHeartbeats 4000000 in
theorem aHk (w : World) (b : Body) (hb : Okb b) :
  Calls Tryz.prog 229 #[(.agg (aF b).toArray)] w (fun ex w' => ∃ v, ex = .returned v ∧ (fun v w' => v = .tuple #[.int .i32 (aPo b), .int .i32 (aOh b)] ∧ Below w.heap.size w w') v w') := by
 have hr := hb.r
 have ha := hb.a
 have hp := hb.p
 refine aH #[.tmp 2, .tmp 3] 18 Tryz.func229 rfl Tryz.results229 Tryz.ntmps229 rfl ?_
 have M0 := Mem.refl w
 refine aD (aA (bC (.agg (List.toArray _)) M0 rfl rfl rfl (fun b1 w1 M1 => (bP rfl rfl (bP rfl rfl (aB (aC (aD (bO [(0, 0), (1, 0), (2, 1), (4, 0), (5, 1), (7, 0), (8, 0), (9, 1), (11, 0), (12, 1), (3, 2), (6, 0), (10, 2), (13, 0), (14, 0), (15, 0)] mixed rfl (by kernel_rfl) (fun w2 hb2 hh2 => ?_))))))))))
 have M2 := M1.drew hb2 hh2
 refine aX rfl rfl rfl (fun _ => aE 2 kW rfl) (aX rfl rfl rfl (fun _ => aE 0 dT rfl) (cA rfl rfl rfl (aK 0 (.int _ _) aW M2 rfl rfl rfl) (aX rfl rfl rfl (fun _ => aE 1 nQ rfl) (cA rfl rfl rfl (aK 0 (.int _ _) aW M2 rfl rfl rfl) (aX rfl rfl rfl (fun _ => aE 2 kW rfl) ?_)))))
 refine aX rfl rfl rfl (fun _ => aE 1 dN rfl) (cA rfl rfl rfl (aK 0 (.int _ _) aW M2 rfl rfl rfl) (aX rfl rfl rfl (fun _ => aE 1 nQ rfl) (cA rfl rfl rfl (aK 0 (.int _ _) aW M2 rfl rfl rfl) (dL [false, false, false, true] rfl (by kernel_rfl) (bX aRe rfl rfl (aFu _ _ (by omega) (by omega)) ?_)))))
 rintro v3 w3 ⟨rfl, hb3⟩
 have M3 := M2.callB hb3
 refine aB (aC ⟨(eK (bL rfl (aK 0 (.int _ _) aW M3 rfl rfl rfl)) (eK (bL rfl (aK 0 (.int _ _) aW M3 rfl rfl rfl)) (eK (bL rfl (aK 0 (.int _ _) aW M3 rfl rfl rfl)) dM))), ?_⟩)
 refine aX rfl rfl rfl (fun _ => iV rfl rfl (lU _ (by omega) (by omega))) (dL [false, true, false] rfl (by kernel_rfl) (bX aRe rfl rfl (aFu _ _ (by omega) (by omega)) ?_))
 rintro v4 w4 ⟨rfl, hb4⟩
 have M4 := M3.callB hb4
 refine aB (aC ⟨(eK (bL rfl (aK 0 (.int _ _) aW M4 rfl rfl rfl)) (eK (bL rfl (aK 0 (.int _ _) aW M4 rfl rfl rfl)) dM)), ?_⟩)
 refine aX rfl rfl rfl (fun _ => iV rfl rfl (lU _ (by omega) (by omega))) (qL rfl rfl rfl (qL rfl rfl rfl (cF (aC (aN (iK (.int _ _) (.int _ _) rfl rfl ?_))))))
 exact ⟨rfl, M4.below⟩
set_option maxHeartbeats 4000000 in
theorem bFn (w : World) (b : Body) (hb : Okb b) :
  Calls Tryz.prog 203 #[(.agg (aF b).toArray)] w (fun ex w' => ∃ v, ex = .returned v ∧ (fun v w' => v = (.agg (cU (iR b)).toArray) ∧ Below w.heap.size w w') v w') := by
 have hr := hb.r
 have ha := hb.a
 have hp := hb.p
 have he := aVd hb
 refine aH #[.cell 2 253] 31 Tryz.func203 rfl Tryz.results203 Tryz.ntmps203 rfl ?_
 have M0 := Mem.refl w
 refine aD (aA (bC (.agg (List.toArray _)) M0 rfl rfl rfl (fun b1 w1 M1 => (aP aEm M1 rfl rfl (fun b2 w2 M2 => (aB (aC (aD (aA (wq (bA 0 bR M2 rfl rfl rfl) rfl (bX bEd rfl rfl (aHk _ b hb) ?_)))))))))))
 rintro v3 w3 ⟨rfl, hb3⟩
 have M3 := M2.callB hb3
 refine wq (aG (.tuple (List.toArray _)) rfl) rfl (wq (bG (.int _ _) rfl rfl) rfl (wq (bG (.int _ _) rfl rfl) rfl (bP rfl rfl (bP rfl rfl (aB (aC (aD (aA ?_))))))))
 refine wq (aE 6 gQ rfl) rfl (wq (aE 0 dT rfl) rfl (wq (aK 0 (.int _ _) aW M3 rfl rfl rfl) rfl (aY rfl rfl (wq (lH rfl rfl (lU _ (by omega) (by omega))) rfl (wq (aE 6 gQ rfl) rfl ?_)))))
 refine wq (aE 1 dN rfl) rfl (wq (aK 0 (.int _ _) aW M3 rfl rfl rfl) rfl (aY rfl rfl (wq (lH rfl rfl (lU _ (by omega) (by omega))) rfl (wq (aE 6 gQ rfl) rfl (wq (aE 0 dT rfl) rfl ?_)))))
 refine wq (aK 0 (.int _ _) aW M3 rfl rfl rfl) rfl (aY rfl rfl (wq (iV rfl rfl (lU _ (by omega) (by omega))) rfl (wq (aE 6 gQ rfl) rfl (wq (aE 1 dN rfl) rfl (wq (aK 0 (.int _ _) aW M3 rfl rfl rfl) rfl ?_)))))
 refine aY rfl rfl (wq (iV rfl rfl (lU _ (by omega) (by omega))) rfl (wq (cD [(0, .int _ _), (1, .int _ _), (2, .int _ _), (3, .int _ _)] _ aCs rfl rfl) rfl (bB 1 _ iU M3 rfl rfl rfl rfl rfl (aQ rfl) rfl (fun w4 M4 => (aB (aC (aN (eP 1 iU M4 rfl rfl rfl ?_))))))))
 exact ⟨rfl, M4.below⟩
set_option maxHeartbeats 4000000 in
theorem tZ (w : World) (a : Bx) :
  Calls Tryz.prog 231 #[(.agg (cU a).toArray)] w (fun ex w' => ∃ v, ex = .returned v ∧ (fun v w' => v = .bool (decide (gM a)) ∧ Below w.heap.size w w') v w') := by
 refine aH #[.tmp 2] 15 Tryz.func231 rfl Tryz.results231 Tryz.ntmps231 rfl ?_
 have M0 := Mem.refl w
 refine aD (aA (bC (.agg (List.toArray _)) M0 rfl rfl rfl (fun b1 w1 M1 => (wq (aI (.bool false) rfl) rfl (aB (aC (aD (aA (wq (aE 0 sM rfl) rfl (wq (aK 0 (.int _ _) aW M1 rfl rfl rfl) rfl ?_))))))))))
 refine wq (aE 2 sZ rfl) rfl (wq (aK 0 (.int _ _) aW M1 rfl rfl rfl) rfl (cY rfl rfl rfl rfl (wq (aG (.bool (decide _)) rfl) rfl ?_)))
 refine dK 8 rfl (fun g8 => ?_) (fun g8 => ?_)
 ·refine aR rfl rfl (aR rfl rfl (aR rfl rfl (aR rfl rfl (aR rfl rfl (wq (bW true (.bool true) rfl rfl) rfl ?_)))))
  refine wq (aI (.bool true) rfl) rfl (aB (aC (aN (cB (.bool true) rfl ?_))))
  exact ⟨by unfold gM; first | exact bT (by omega) | exact bD (by omega), M1.below⟩
 ·refine wq (aE 1 sI rfl) rfl (wq (aK 0 (.int _ _) aW M1 rfl rfl rfl) rfl (wq (aE 3 sO rfl) rfl (wq (aK 0 (.int _ _) aW M1 rfl rfl rfl) rfl (cY rfl rfl rfl rfl (wq (bW false (.bool (decide _)) rfl rfl) rfl ?_)))))
  refine wq (aI (.bool (decide _)) rfl) rfl (aB (aC (aN (cB (.bool (decide _)) rfl ?_))))
  exact ⟨by unfold gM; first | exact bT (by omega) | exact bD (by omega), M1.below⟩
set_option maxHeartbeats 4000000 in
theorem aQz (w : World) (N : Rd w 4 (some ⟨3, 0, none⟩) 1 [cU gP]) (a b : Bx) :
  Calls Tryz.prog 232 #[(.agg (cU a).toArray), (.agg (cU b).toArray)] w (fun ex w' => ∃ v, ex = .returned v ∧ (fun v w' => v = (.agg (cU (aBv a b)).toArray) ∧ Below w.heap.size w w') v w') := by
 refine aH #[.cell 4 253] 31 Tryz.func232 rfl Tryz.results232 Tryz.ntmps232 rfl ?_
 have M0 := Mem.refl w
 refine aD (aA (bC (.agg (List.toArray _)) M0 rfl rfl rfl (fun b1 w1 M1 => (bC (.agg (List.toArray _)) M1 rfl rfl rfl (fun b2 w2 M2 => (aP aEm M2 rfl rfl (fun b3 w3 M3 => (aB (aC (aD (aA (wq (aE 0 sM rfl) rfl ?_))))))))))))
 refine wq (aK 0 (.int _ _) aW M3 rfl rfl rfl) rfl (wq (aE 0 sM rfl) rfl (wq (aK 1 (.int _ _) aW M3 rfl rfl rfl) rfl (wq (nP rfl rfl ) rfl (wq (aE 1 sI rfl) rfl (wq (aK 0 (.int _ _) aW M3 rfl rfl rfl) rfl ?_)))))
 refine wq (aE 1 sI rfl) rfl (wq (aK 1 (.int _ _) aW M3 rfl rfl rfl) rfl (wq (nP rfl rfl ) rfl (wq (aE 2 sZ rfl) rfl (wq (aK 0 (.int _ _) aW M3 rfl rfl rfl) rfl (wq (aE 2 sZ rfl) rfl ?_)))))
 refine wq (aK 1 (.int _ _) aW M3 rfl rfl rfl) rfl (wq (xU rfl rfl ) rfl (wq (aE 3 sO rfl) rfl (wq (aK 0 (.int _ _) aW M3 rfl rfl rfl) rfl (wq (aE 3 sO rfl) rfl (wq (aK 1 (.int _ _) aW M3 rfl rfl rfl) rfl ?_)))))
 refine wq (xU rfl rfl ) rfl (wq (cD [(0, .int _ _), (1, .int _ _), (2, .int _ _), (3, .int _ _)] _ aCs rfl rfl) rfl (aP aEm M3 rfl rfl (fun b4 w4 M4 => (bB 3 _ iU M4 rfl rfl rfl rfl rfl (aQ rfl) rfl (fun w5 M5 => (aB (aC (aD (aD (aA (wq (bA 3 iU M5 rfl rfl rfl) rfl ?_)))))))))))
 refine bX aIm rfl rfl (tZ _ ⟨max a.x0 b.x0, max a.y0 b.y0, min a.x1 b.x1, min a.y1 b.y1⟩) ?_
 rintro v6 w6 ⟨rfl, hb6⟩
 have M6 := M5.callB hb6
 refine aB (aC ?_)
 refine bE rfl (fun h28 => ?_) (fun h28 => ?_)
 ·refine aD (aA (wq (zJ (k := 0) (o := 0) _ iU (N.mem M6) (show ([cU gP] : List (List Value))[0]? = some (cU gP) from rfl) rfl rfl rfl) rfl (bB 2 _ iU M6 rfl rfl rfl rfl rfl (aQ rfl) rfl (fun w7 M7 => (aB (aC (aN (cJ (eP 2 iU M7 rfl rfl rfl ?_)))))))))
  exact ⟨by unfold aBv; rw [if_pos h28]; rfl, M7.below⟩
 ·refine aM (aC (aD (aA (wq (bA 3 iU M6 rfl rfl rfl) rfl (bB 2 _ iU M6 rfl rfl rfl rfl rfl (aQ rfl) rfl (fun w8 M8 => (aB (aC (aN (eP 2 iU M8 rfl rfl rfl ?_))))))))))
  exact ⟨by unfold aBv; rw [if_neg h28]; rfl, M8.below⟩
set_option maxHeartbeats 4000000 in
theorem aFe (w : World) (N : Rd w 4 (some ⟨3, 0, none⟩) 1 [cU gP]) (a b : Bx) :
  Calls Tryz.prog 207 #[(.agg (cU a).toArray), (.agg (cU b).toArray)] w (fun ex w' => ∃ v, ex = .returned v ∧ (fun v w' => v = .bool (decide (ovl a b)) ∧ Below w.heap.size w w') v w') := by
 refine aH #[.tmp 4] 10 Tryz.func207 rfl Tryz.results207 Tryz.ntmps207 rfl ?_
 have M0 := Mem.refl w
 refine aD (aA (bC (.agg (List.toArray _)) M0 rfl rfl rfl (fun b1 w1 M1 => (bC (.agg (List.toArray _)) M1 rfl rfl rfl (fun b2 w2 M2 => (wq (aI (.bool false) rfl) rfl (aB (aC (aD (aA (wq (bA 0 iU M2 rfl rfl rfl) rfl ?_)))))))))))
 refine wq (bA 1 iU M2 rfl rfl rfl) rfl (bX bFf rfl rfl (aQz _ (N.mem M2) a b) ?_)
 rintro v3 w3 ⟨rfl, hb3⟩
 have M3 := M2.callB hb3
 refine bX aIm rfl rfl (tZ _ (aBv a b)) ?_
 rintro v4 w4 ⟨rfl, hb4⟩
 have M4 := M3.callB hb4
 refine wq (tE rfl) rfl (wq (aI (.bool (decide _)) rfl) rfl (aB (aC (aN (cB (.bool (decide _)) rfl ?_)))))
 exact ⟨bD (aWa a b), M4.below⟩
set_option maxHeartbeats 4000000 in
theorem aLt (w : World) (x y : Int) :
  Calls Tryz.prog 267 #[.agg [.int .i32 x, .int .i32 y].toArray] w (fun ex w' => ∃ v, ex = .returned v ∧ (fun v w' => v = (.agg (cG (lR x, lR y)).toArray) ∧ Below w.heap.size w w') v w') := by
 refine aH #[.cell 2 283] 10 Tryz.func267 rfl Tryz.results267 Tryz.ntmps267 rfl ?_
 have M0 := Mem.refl w
 refine aD (aA (bC (.agg (List.toArray _)) M0 rfl rfl rfl (fun b1 w1 M1 => (aP oE M1 rfl rfl (fun b2 w2 M2 => (aB (aC (aD (aA (wq (aE 0 dT rfl) rfl (wq (aK 0 (.int _ _) aW M2 rfl rfl rfl) rfl ?_)))))))))))
 refine wq (gL rfl rfl (by decide)) rfl (aS 5 (.int .i32 (lR x)) (iE (bBk x)) (wq (aE 1 dN rfl) rfl (wq (aK 0 (.int _ _) aW M2 rfl rfl rfl) rfl (wq (gL rfl rfl (by decide)) rfl (aS 8 (.int .i32 (lR y)) (iE (bBk y)) ?_)))))
 refine wq (cD [(0, .int _ _), (1, .int _ _)] _ aBs rfl rfl) rfl (bB 1 _ gO M2 rfl rfl rfl rfl rfl (aQ rfl) rfl (fun w3 M3 => (aB (aC (aN (eP 1 gO M3 rfl rfl rfl ?_))))))
 exact ⟨rfl, M3.below⟩
set_option maxHeartbeats 4000000 in
theorem aPc (w : World) (a : Bx) :
  Calls Tryz.prog 254 #[(.agg (cU a).toArray)] w (fun ex w' => ∃ v, ex = .returned v ∧ (fun v w' => v = .tuple #[(.agg (cG (loC a)).toArray), (.agg (cG (hiC a)).toArray), .bool (decide (¬ gM a))] ∧ Below w.heap.size w w') v w') := by
 refine aH #[.cell 2 283, .cell 3 283, .tmp 4] 21 Tryz.func254 rfl Tryz.results254 Tryz.ntmps254 rfl ?_
 have M0 := Mem.refl w
 refine aD (aA (bC (.agg (List.toArray _)) M0 rfl rfl rfl (fun b1 w1 M1 => (aP oE M1 rfl rfl (fun b2 w2 M2 => (aP oE M2 rfl rfl (fun b3 w3 M3 => (wq (aI (.bool false) rfl) rfl (aB (aC (aD (aD (aA ?_)))))))))))))
 refine wq (bA 0 iU M3 rfl rfl rfl) rfl (bX aIm rfl rfl (tZ _ a) ?_)
 rintro v4 w4 ⟨rfl, hb4⟩
 have M4 := M3.callB hb4
 refine aB (aC ?_)
 refine bE rfl (fun h6 => ?_) (fun h6 => ?_)
 ·refine aD (bO [(0, 1), (1, 1), (2, 2), (3, 2), (4, 0)] mixed rfl (by kernel_rfl) (fun w5 hb5 hh5 => ?_))
  have M5 := M4.drew hb5 hh5
  refine cA rfl rfl rfl (bA 1 gO M5 rfl rfl rfl) (cA rfl rfl rfl (bA 2 gO M5 rfl rfl rfl) (dL [false, true] rfl (by kernel_rfl) (bB 1 _ gO M5 rfl rfl rfl rfl rfl (aQ rfl) rfl (fun w6 M6 => ?_))))
  refine aB (aC ⟨(eK (bL rfl (bA 2 gO M6 rfl rfl rfl)) dM), ?_⟩)
  refine dL [true] rfl (by kernel_rfl) (bB 2 _ gO M6 rfl rfl rfl rfl rfl (aQ rfl) rfl (fun w7 M7 => ?_))
  refine aB (aC ⟨dM, ?_⟩)
  refine aX rfl rfl rfl (fun _ => aI (.bool false) rfl) (cF (aC (aN (cJ (bBd (v3 := .bool false) 1 2 gO M7 rfl rfl rfl rfl rfl rfl rfl ?_)))))
  exact ⟨by unfold loC hiC; rw [if_pos h6, if_pos h6, decide_eq_false (fun h => h h6)]; rfl, M7.below⟩
 ·refine aM (aC (aD (bO [(0, 0), (1, 1), (2, 0), (3, 1), (4, 0), (6, 0), (7, 1), (8, 0), (9, 1), (10, 0), (5, 2), (11, 2), (12, 2), (13, 2), (14, 0)] mixed rfl (by kernel_rfl) (fun w8 hb8 hh8 => ?_))))
  have M8 := M4.drew hb8 hh8
  refine aX rfl rfl rfl (fun _ => aE 0 sM rfl) (cA rfl rfl rfl (aK 0 (.int _ _) aW M8 rfl rfl rfl) (aX rfl rfl rfl (fun _ => aE 1 sI rfl) (cA rfl rfl rfl (aK 0 (.int _ _) aW M8 rfl rfl rfl) (aX rfl rfl rfl (fun _ => cD [(0, .int _ _), (1, .int _ _)] _ fY rfl rfl) ?_))))
  refine aX rfl rfl rfl (fun _ => aE 2 sZ rfl) (cA rfl rfl rfl (aK 0 (.int _ _) aW M8 rfl rfl rfl) (aX rfl rfl rfl (fun _ => aE 3 sO rfl) (cA rfl rfl rfl (aK 0 (.int _ _) aW M8 rfl rfl rfl) (aX rfl rfl rfl (fun _ => cD [(0, .int _ _), (1, .int _ _)] _ fY rfl rfl) ?_))))
  refine dL [false, false, true, true] rfl (by kernel_rfl) (bX aVu rfl rfl (aLt _ a.x0 a.y0) ?_)
  rintro v9 w9 ⟨rfl, hb9⟩
  have M9 := M8.callB hb9
  refine aB (aC ⟨(eK (bL rfl (aK 0 (.int _ _) aW M9 rfl rfl rfl)) (eK (bL rfl (aK 0 (.int _ _) aW M9 rfl rfl rfl)) dM)), ?_⟩)
  refine dL [true, true] rfl (by kernel_rfl) (bX aVu rfl rfl (aLt _ a.x1 a.y1) ?_)
  rintro v10 w10 ⟨rfl, hb10⟩
  have M10 := M9.callB hb10
  refine aB (aC ⟨dM, ?_⟩)
  refine dL [] rfl (by kernel_rfl) (bB 1 _ gO M10 rfl rfl rfl rfl rfl (aQ rfl) rfl (fun w11 M11 => ?_))
  refine aB (aC ⟨dM, ?_⟩)
  refine dL [] rfl (by kernel_rfl) (bB 2 _ gO M11 rfl rfl rfl rfl rfl (aQ rfl) rfl (fun w12 M12 => ?_))
  refine aB (aC ⟨dM, ?_⟩)
  refine aX rfl rfl rfl (fun _ => aI (.bool true) rfl) (cF (aC (aN (bBd (v3 := .bool true) 1 2 gO M12 rfl rfl rfl rfl rfl rfl rfl ?_))))
  exact ⟨by unfold loC hiC; rw [if_neg h6, if_neg h6, decide_eq_true h6], M12.below⟩
set_option maxHeartbeats 4000000 in
theorem aLi (w : World) (a : Bx) :
  Calls Tryz.prog 230 #[(.agg (cU a).toArray)] w (fun ex w' => ∃ v, ex = .returned v ∧ (fun v w' => ∃ b1 b2 b3, v = .func (.func 255) #[] #[.pointer (some ⟨b1, 0, none⟩), .pointer (some ⟨b2, 0, none⟩), .pointer (some ⟨b3, 0, none⟩)] ∧ Mem w [] [(some b1, bc (cG (loC a)) 283), (some b3, bc (cG (hiC a)) 283), (some b2, bc [.bool (decide (¬ gM a))] 4)] w') v w') := by
 refine aH #[.tmp 2] 13 Tryz.func230 rfl Tryz.results230 Tryz.ntmps230 rfl ?_
 have M0 := Mem.refl w
 refine aD (aA (bC (.agg (List.toArray _)) M0 rfl rfl rfl (fun b1 w1 M1 => (wq (aI (_) rfl) rfl (aB (aC (aD (aA (wq (bA 0 iU M1 rfl rfl rfl) rfl (bX bDr rfl rfl (aPc _ a) ?_))))))))))
 rintro v2 w2 ⟨rfl, hb2⟩
 have M2 := M1.callB hb2
 refine wq (aG (.tuple (List.toArray _)) rfl) rfl (wq (bG (.agg (List.toArray _)) rfl rfl) rfl (wq (bG (.agg (List.toArray _)) rfl rfl) rfl (wq (bG (.bool (decide _)) rfl rfl) rfl (aP oE M2 rfl rfl (fun b3 w3 M3 => (aP oE M3 rfl rfl (fun b4 w4 M4 => ?_)))))))
 refine aP aMs M4 rfl rfl (fun b5 w5 M5 => (bB 1 _ gO M5 rfl rfl rfl rfl rfl (aQ rfl) rfl (fun w6 M6 => (bB 2 _ gO M6 rfl rfl rfl rfl rfl (aQ rfl) rfl (fun w7 M7 => (dX 3 (.bool (decide _)) mW M7 rfl rfl rfl rfl rfl rfl (fun w8 M8 => (aB (aC (aD (aA (wq (cM [] [.pointer _, .pointer _, .pointer _] rfl rfl) rfl ?_))))))))))))
 refine wq (aI (.func _ _ _) rfl) rfl (aB (aC (aN (cB (.func _ _ _) rfl ?_))))
 exact ⟨b3, b5, b4, rfl, M8.keep [false, true, true, true]⟩
set_option maxHeartbeats 4000000 in
theorem aGb (w : World) (lo hi : Int × Int) (ok : Bool) (b1 b2 b3 : Nat) (L1 : Rd w 2 (some ⟨b1, 0, none⟩) 1 [cG lo]) (L2 : Rd w 1 (some ⟨b2, 0, none⟩) 1 [[.bool ok]]) (L3 : Rd w 2 (some ⟨b3, 0, none⟩) 1 [cG hi]) (hlo : Okc lo) (hhi : Okc hi) (lp ob : Nat) (rec : Loop) (hY : tD Tryz.prog lp ob rec 281 283 2 1048576 (fun x => ∃ a b, x = [.int .i32 a, .int .i32 b])) (r0 : Row) (hr0 : aU 283 2 r0.A r0.n r0.c [] r0.e) (hO : Own [(some lp, .loop rec), (some ob, bc [.slice r0.A r0.n r0.c] 281), r0.e] w) (hd1 : 0 < 1 → ∀ q off, (some ⟨b1, 0, none⟩ : Option Addr) = some ⟨q, off, none⟩ → q ∉ bH [(some lp, .loop rec), (some ob, bc [.slice r0.A r0.n r0.c] 281), r0.e]) (hd2 : 0 < 1 → ∀ q off, (some ⟨b2, 0, none⟩ : Option Addr) = some ⟨q, off, none⟩ → q ∉ bH [(some lp, .loop rec), (some ob, bc [.slice r0.A r0.n r0.c] 281), r0.e]) (hd3 : 0 < 1 → ∀ q off, (some ⟨b3, 0, none⟩ : Option Addr) = some ⟨q, off, none⟩ → q ∉ bH [(some lp, .loop rec), (some ob, bc [.slice r0.A r0.n r0.c] 281), r0.e]) :
  Calls Tryz.prog 255 #[.func (.yield lp) #[] #[], .pointer (some ⟨b1, 0, none⟩), .pointer (some ⟨b2, 0, none⟩), .pointer (some ⟨b3, 0, none⟩)] w (fun ex w' => ∃ v, ex = .returned v ∧ (fun v w' => v = .tuple #[] ∧ ∃ r : Row, aU 283 2 r.A r.n r.c ((uM ok lo hi).map cG) r.e ∧ Mem w (bH [(some lp, .loop rec), (some ob, bc [.slice r0.A r0.n r0.c] 281), r0.e]) [(some lp, .loop rec), (some ob, bc [.slice r.A r.n r.c] 281), r.e] w') v w') := by
 rw [← eM b1, ← eM b2, ← eM b3]
 have hxd : nX lo hi = (hi.1 - lo.1 + 1).toNat := rfl
 have hyd : nY lo hi = (hi.2 - lo.2 + 1).toNat := rfl
 have hlx := hlo.x
 have hly := hlo.y
 have hhx := hhi.x
 have hhy := hhi.y
 have hnx := bBl hlo hhi
 have hny := bAx hlo hhi
 refine aH #[] 32 Tryz.func255 rfl Tryz.results255 Tryz.ntmps255 rfl ?_
 have M0 := hO.mem
 refine aD (aA (wq (bN 1 xX (L1.memY M0 hd1) (Nat.lt_of_le_of_lt (Nat.zero_le _) ((L1.memY M0 hd1).below_len (show ([cG lo] : List (List Value))[0]? = some (cG lo) from rfl))) rfl) rfl (wq (eI (o := 1) (.int _ _) aW (L1.memY M0 hd1) (show ([cG lo] : List (List Value))[0]? = some (cG lo) from rfl) rfl rfl) rfl ?_)))
 refine bP rfl rfl (aB (aC (aT (dP (σ := Nat × Row) [0, 1, 2, 3] (fun (j, r) => [(5, .int .i32 (lo.2 + (j : Int)))]) (fun (j, r) w' => (j ≤ nY lo hi ∧ (ok = false → j = 0) ∧ aU 283 2 r.A r.n r.c ((mG lo hi j).map cG) r.e) ∧ Mem w (bH [(some lp, .loop rec), (some ob, bc [.slice r0.A r0.n r0.c] 281), r0.e]) [(some lp, .loop rec), (some ob, bc [.slice r.A r.n r.c] 281), r.e] w') (fun (j, r) => nY lo hi - j) (0, r0) (bM (iv rfl (by simp)) fD) (⟨⟨by omega, fun _ => rfl, hr0⟩, M0⟩) ?_))))
 rintro ⟨j, r⟩ ρ1 w1 ⟨⟨hj, hjz, hr⟩, hM1⟩
 refine aD (aD (aA (wq (eI (o := 0) (.bool _) mW (L2.memY hM1 hd2) (show ([[.bool ok]] : List (List Value))[0]? = some ([.bool ok]) from rfl) rfl rfl) rfl (wq (aG (.bool _) rfl) rfl ?_))))
 refine lQ 10 _ rfl (fun g10 => ?_) (fun g10 => ?_)
 ·refine aY rfl rfl (wq (bN 1 xX (L3.memY hM1 hd3) (Nat.lt_of_le_of_lt (Nat.zero_le _) ((L3.memY hM1 hd3).below_len (show ([cG hi] : List (List Value))[0]? = some (cG hi) from rfl))) rfl) rfl (wq (eI (o := 1) (.int _ _) aW (L3.memY hM1 hd3) (show ([cG hi] : List (List Value))[0]? = some (cG hi) from rfl) rfl rfl) rfl ?_))
  refine cY rfl rfl rfl rfl (wq (bW true (.bool (decide _)) rfl rfl) rfl (aB (aC ?_)))
  refine bE rfl (fun h15 => ?_) (fun h15 => ?_)
  ·refine aM (aC (aD (aT (aD (aA (wq (bN 0 xO (L1.memY hM1 hd1) (Nat.lt_of_le_of_lt (Nat.zero_le _) ((L1.memY hM1 hd1).below_len (show ([cG lo] : List (List Value))[0]? = some (cG lo) from rfl))) rfl) rfl (wq (eI (o := 0) (.int _ _) aW (L1.memY hM1 hd1) (show ([cG lo] : List (List Value))[0]? = some (cG lo) from rfl) rfl rfl) rfl ?_)))))))
   refine bP rfl rfl (aB (aC (aT (dP (σ := Nat × Row) [0, 1, 2, 3, 5] (fun (i, q0) => [(6, .int .i32 (lo.1 + (i : Int)))]) (fun (i, q0) w' => (i ≤ nX lo hi ∧ aU 283 2 q0.A q0.n q0.c ((mG lo hi j ++ zI lo i j).map cG) q0.e) ∧ Mem w (bH [(some lp, .loop rec), (some ob, bc [.slice r0.A r0.n r0.c] 281), r0.e]) [(some lp, .loop rec), (some ob, bc [.slice q0.A q0.n q0.c] 281), q0.e] w') (fun (i, q0) => nX lo hi - i) (0, r) (bM (iv rfl (by simp)) fD) (⟨⟨by omega, by simpa [zI] using hr⟩, hM1⟩) ?_))))
   rintro ⟨i, q0⟩ ρ2 w2 ⟨⟨hi2, hq0⟩, hM2⟩
   have hql : (mG lo hi j).length + i = q0.n := by simpa [aFx] using hq0.1
   refine aD (aD (aA (aY rfl rfl (wq (bN 0 xO (L3.memY hM2 hd3) (Nat.lt_of_le_of_lt (Nat.zero_le _) ((L3.memY hM2 hd3).below_len (show ([cG hi] : List (List Value))[0]? = some (cG hi) from rfl))) rfl) rfl (wq (eI (o := 0) (.int _ _) aW (L3.memY hM2 hd3) (show ([cG hi] : List (List Value))[0]? = some (cG hi) from rfl) rfl rfl) rfl ?_)))))
   refine cY rfl rfl rfl rfl (aB (aC ?_))
   refine bE rfl (fun h23 => ?_) (fun h23 => ?_)
   ·have hlt6 := aUw (lo := lo) (hi := hi) (i := i) (j := j) hnx (by omega) (by omega)
    refine aM (aC (aD (aT (aD (aBh (aCa (aG (.func _ _ _) rfl) rfl rfl (aCa (aG (.int _ _) rfl) rfl rfl (aCa (aG (.int _ _) rfl) rfl rfl (aCa (cD [(0, .int _ _), (1, .int _ _)] _ aBs rfl rfl) rfl rfl ?_)))))))))
    obtain ⟨fy, ty, ay, by1, hy1, hy2⟩ := hY _ q0 ((mG lo hi j ++ zI lo i j).map cG) (cG (lo.1 + (i : Int), lo.2 + (j : Int))) ⟨_, _, rfl⟩ (by omega) hq0 (hM2.ownSeg 0 3)
    refine aCp rfl rfl rfl rfl hy1 (hy2.mono ?_)
    rintro _ w3 ⟨rfl, q3, hqn3, hq3, hM3⟩
    have M3 : Mem _ _ [_, _, _] _ := hM2.seg 0 3 hM3
    refine ⟨_, rfl, ?_⟩
    refine aVn rfl (fun _ _ h => h) (wq (gE false rfl rfl) rfl (aB (aC (cC rfl (aM (dJ ?_))))))
    refine aC (aA (aY rfl rfl (wq (iV rfl rfl (lU _ (by omega) (by omega))) rfl (bP rfl rfl (aB ?_)))))
    refine cT (i + 1, q3) (bM (iv rfl (by omega)) fD) (cW rfl (cW rfl (cW rfl (cW rfl (cW rfl kK))))) ?_ ?_
    ·exact ⟨⟨by omega, by rw [aNu, ← List.append_assoc, List.map_append]; exact hq3⟩, M3⟩
    ·(show nX lo hi - (i + 1) < nX lo hi - i; omega)
   ·have hix : i = nX lo hi := by omega
    refine cO (dC (dA (eV (dJ (aC (aA ?_))))))
    refine aY rfl rfl (wq (iV rfl rfl (lU _ (by omega) (by omega))) rfl (bP rfl rfl (aB ?_)))
    refine cT (j + 1, q0) (bM (iv rfl (by omega)) fD) (cW rfl (cW rfl (cW rfl (cW rfl kK)))) ?_ ?_
    ·exact ⟨⟨by omega, fun h => (by rw [g10] at h; cases h), by rw [xQ, ← hix]; exact hq0⟩, hM2⟩
    ·(show nY lo hi - (j + 1) < nY lo hi - j; omega)
  ·refine cO (dC (dA (eV (iX ?_))))
   exact ⟨rfl, r, by unfold uM; first | (rw [if_pos g10, show nY lo hi = j by omega]; exact hr) | (rw [if_neg (by rw [g10]; decide)]; rw [hjz g10] at hr; exact hr), hM1⟩
 ·refine aR rfl rfl (aR rfl rfl (aR rfl rfl (aR rfl rfl (wq (bW false (.bool false) rfl rfl) rfl (aB (aC ?_))))))
  refine cC rfl (cO (dC (dA (eV (iX ?_)))))
  exact ⟨rfl, r, by unfold uM; first | (rw [if_pos g10, show nY lo hi = j by omega]; exact hr) | (rw [if_neg (by rw [g10]; decide)]; rw [hjz g10] at hr; exact hr), hM1⟩
set_option maxHeartbeats 4000000 in
theorem aSo (w : World) (a : Bx) (ha : Okx a) :
  Calls Tryz.prog 204 #[(.agg (cU a).toArray)] w (fun ex w' => ∃ v, ex = .returned v ∧ (fun v w' => ∃ r : Row, v = .slice r.A r.n r.c ∧ aU 283 2 r.A r.n r.c ((fW a).map cG) r.e ∧ Mem w [] [r.e] w') v w') := by
 refine vC #[.tmp 2] 13 Tryz.func204 rfl Tryz.results204 Tryz.ntmps204 rfl ?_
 have M0 := Mem.refl w
 refine oD (lT (bC (.agg (List.toArray _)) M0 rfl rfl rfl (fun b1 w1 M1 => (fL rfl rfl (aB (nZ ?_))))))
 refine oD (lT (aP aZr M1 rfl rfl (fun b2 w2 M2 => (aB (nZ (oD ?_))))))
 refine oD (lT (wq (bA 0 iU M2 rfl rfl rfl) rfl (bX bEl rfl rfl (aLi _ a) ?_)))
 rintro v3 w3 ⟨bl, bk, bh, rfl, hM3⟩
 have M3 : Mem _ _ [_, _, _, _, _] _ := M2.call0 hM3
 refine aB (nZ (aHa ?_))
 have M4 : Mem _ _ [_, _, _, _, _] _ := ((M3.keep [false, true, true, true, true]).dummy default).perm (List.Perm.cons _ (List.perm_append_comm (l₁ := [_, _, _]) (l₂ := [_])))
 refine aIc bEi M4 rfl (fun fnn B lp tmps w1 hρ hn M1 => ?_)
 refine zD (P := Tryz.prog) (ob := b2) (Tsl := 281) (Te := 283) (sz := 2) (N := 1048576) (ok := (fun x => ∃ a b, x = [.int .i32 a, .int .i32 b])) M1 ?_ (fun hY => ?_)
 ·intro wr r ls x hok hlt hrow hO
  obtain ⟨xa, xb, rfl⟩ := hok
  refine ⟨_, _, _, _, aGu hO rfl rfl rfl hn (by decide) hρ ?_⟩
  have MR0 := hO.mem
  refine qJ rfl (fun _ _ h => nomatch h.1) (aP oE MR0 rfl rfl (fun b5 w5 M5 => (bB 3 _ gO M5 rfl rfl rfl rfl rfl (aQ rfl) rfl (fun w6 M6 => (aB ?_)))))
  refine ⟨rfl, _, M6, rfl, fun w7 M7 => ?_⟩
  refine aId (qJ rfl (fun _ _ h => nomatch h.1) (wq (aK 1 (.slice _ _ _) aJu M7 rfl rfl rfl) rfl (wq (bA 3 gO M7 rfl rfl rfl) rfl (cV [.agg (List.toArray _)] [[.int .i32 xa, .int .i32 xb]] rfl aQy M7 rfl rfl rfl rfl (dD rfl) (by decide) (fun b8 w8 M8 => (dZ 2 [[.int .i32 xa, .int .i32 xb]] aQy M8 rfl rfl rfl rfl rfl hrow rfl (by simp [Go.Bil.one]) (cZ.ofMem 4 M8 rfl) (by omega) (fun A9 c9 e9 w9 M9 hR9 => ?_)))))))
  refine dX 1 (.slice _ _ _) aJu M9 rfl rfl rfl rfl rfl rfl (fun w10 M10 => (aB (dJ ?_)))
  refine ⟨rfl, _, M10, rfl, fun w11 M11 => ?_⟩
  exact ⟨⟨A9, r.n + 1, c9, e9⟩, rfl, hR9, M11.keep [true, true, true, false, false]⟩
 ·refine (aGb _ (loC a) (hiC a) _ bl bk bh (lX 3 M1 rfl rfl) (lX 5 M1 rfl rfl) (lX 4 M1 rfl rfl) (aLe ha) (aLg ha) lp b2 _ hY ⟨none, 0, 0, (none, default)⟩ (aU.nil _ _ _) (M1.ownSeg 0 3) (M1.apartTake 3 3 rfl rfl) (M1.apartTake 3 5 rfl rfl) (M1.apartTake 3 4 rfl rfl)).mono ?_
  rintro _ w5 ⟨v5, rfl, rfl, r, hr, hM⟩
  have M5 : Mem _ _ (_ :: [_, _, _, _, _, _]) _ := M1.seg 0 3 hM
  refine ⟨_, rfl, _, M5, fun w6 M6 => ?_⟩
  refine bBa (nZ (oD (aCl (aMw (aK 1 (.slice _ _ _) aJu M6 rfl rfl rfl) rfl rfl (aMw (aI (.slice _ _ _) rfl) rfl rfl ?_)))))
  refine aMq (nZ (aRx (bAo (i := 6) (.slice _ _ _) rfl M6 rfl (fun w9 M9 => ?_))))
  exact ⟨r, rfl, hr, M9.keep [false, false, true, false, false, false, false]⟩
set_option maxHeartbeats 4000000 in
theorem aGy (w : World) (F : Rd w 2 (some ⟨0, 0, none⟩) 1 [[.int .u32 73856093, .int .u32 19349663]]) (c : Int × Int) :
  Calls Tryz.prog 205 #[(.agg (cG c).toArray)] w (fun ex w' => ∃ v, ex = .returned v ∧ (fun v w' => v = .int .i64 (dI c : Int) ∧ Below w.heap.size w w') v w') := by
 refine aH #[.tmp 2] 20 Tryz.func205 rfl Tryz.results205 Tryz.ntmps205 rfl ?_
 have M0 := Mem.refl w
 refine aD (aA (bC (.agg (List.toArray _)) M0 rfl rfl rfl (fun b1 w1 M1 => (bP rfl rfl (aB (aC (aD (aA (wq (aE 0 xO rfl) rfl (wq (aK 0 (.int _ _) aW M1 rfl rfl rfl) rfl ?_))))))))))
 refine wq (dR fR Tryz.underlying35 rfl) rfl (wq (fA (0) aWh rfl rfl rfl (by decide)) rfl (wq (eI (k := 0) (o := 0) (.int _ _) bY (F.mem M1) (show ([[.int .u32 73856093, .int .u32 19349663]] : List (List Value))[0]? = some [.int .u32 73856093, .int .u32 19349663] from rfl) rfl rfl) rfl (wq (dY (.int _ _) rfl rfl rfl) rfl ?_)))
 refine wq (aE 1 xX rfl) rfl (wq (aK 0 (.int _ _) aW M1 rfl rfl rfl) rfl (wq (dR fR Tryz.underlying35 rfl) rfl (wq (fA (1) aWh rfl rfl rfl (by decide)) rfl (wq (eI (k := 0) (o := 1) (.int _ _) bY (F.mem M1) (show ([[.int .u32 73856093, .int .u32 19349663]] : List (List Value))[0]? = some [.int .u32 73856093, .int .u32 19349663] from rfl) rfl rfl) rfl ?_))))
 refine wq (dY (.int _ _) rfl rfl rfl) rfl (wq (dY (.int _ _) rfl rfl rfl) rfl (bP rfl rfl (aB (aC (aD (aA (aY rfl rfl (wq (dY (.int _ _) rfl rfl rfl) rfl ?_))))))))
 refine aS 18 (.int .u32 (qF c)) rfl (wq (bS rI Tryz.underlying3 rfl (kJ _ (by have := kC c; omega) (by have := kC c; omega))) rfl (bP rfl rfl (aB (aC (aN (cB (.int _ _) rfl ?_))))))
 exact ⟨iE (aPg c), M1.below⟩
set_option maxHeartbeats 16000000 in
theorem aGi (w : World) (F : Rd w 2 (some ⟨0, 0, none⟩) 1 [[.int .u32 73856093, .int .u32 19349663]]) (b : Nat) (rs : List Row) (cnt : Int) (g : Nat → List Int) (hG : GridRows 35 rs g) (hcnt : 0 ≤ cnt ∧ cnt ≤ 1048576) (hgl : ∀ j, j < 1024 → (g j).length ≤ 1048576) (key : Int) (a : Bx) (ha : Okx a) (hO : Own ((some b, bc (dE rs cnt) 250) :: rs.map Row.e) w) (hdF : 0 < 1 → ∀ q off, (some ⟨0, 0, none⟩ : Option Addr) = some ⟨q, off, none⟩ → q ∉ bH ((some b, bc (dE rs cnt) 250) :: rs.map Row.e)) :
  Calls Tryz.prog 181 #[.pointer (some ⟨b, 0, none⟩), .int .u32 key, (.agg (cU a).toArray)] w (fun ex w' => ∃ v, ex = .returned v ∧ (fun v w' => v = .tuple #[] ∧ ∃ rs' : List Row, GridRows 35 rs' (qP g key ((fW a).map dI)) ∧ Mem w (bH ((some b, bc (dE rs cnt) 250) :: rs.map Row.e)) ((some b, bc (dE rs' (cnt + 1)) 250) :: rs'.map Row.e) w') v w') := by
 refine aH #[] 49 Tryz.func181 rfl Tryz.results181 Tryz.ntmps181 rfl ?_
 have M0 := hO.mem
 refine aD (aA (bC (.agg (List.toArray _)) M0 rfl rfl rfl (fun b1 w1 M1 => ?_)))
 have M2 : Mem _ _ ([_, _] ++ _) _ := Mem.front (L := [_]) M1
 refine aB (aC (aD (aD (aA (wq (aG (.pointer _) rfl) rfl (wq (eQ false Tryz.underlying279 rfl rfl) rfl (aB (aC (cC rfl (aM (aC (aD (aA ?_)))))))))))))
 refine wq (aG (.pointer _) rfl) rfl (wq (aL rfl) rfl (wq (aE 1024 aFh rfl) rfl (wq (aK 0 (.int .i64 cnt) iM M2 rfl rfl (xD hG.len)) rfl (wq (bQ rfl rfl (by omega) (by omega)) rfl (wq (aL rfl) rfl ?_)))))
 refine wq (aE 1024 aFh rfl) rfl (dX 0 (.int _ _) iM M2 rfl rfl rfl rfl rfl (by rw [xD hG.len]; rfl) (fun w3 M3 => ?_))
 have M3b : Mem _ _ ([(some b, bc (dE rs (cnt + 1)) 250), _] ++ rs.map Row.e) _ := Mem.cells0 M3 (aAj hG.len)
 refine aB (aC (aD (aA (jT M3b rfl rfl (fun b4 w4 M4 => ?_)))))
 have M5 : Mem _ _ ([_, _, _] ++ _) _ := Mem.front (L := [_, _]) M4
 refine wq (aI (.map _) rfl) rfl (aB (aC (aD (aA (wq (bA 1 iU M5 rfl rfl rfl) rfl (bX bDj rfl rfl (aSo _ a ha) ?_))))))
 rintro v6 w6 ⟨r0, rfl, hR0, hM6⟩
 have M6 : Mem _ _ ([_, _, _, _] ++ _) _ := Mem.front (L := [_, _, _]) (M5.call0 hM6)
 have hcl : (fW a).length = r0.n := by simpa using hR0.1
 have hcb := aKc ha
 refine wq (cR Tryz.underlying281 rfl) rfl (aY rfl rfl (aB (aC (aT (dP (σ := Nat × List Row × dG) [0, 1, 6, 21, 22] (fun (i, rs1, em) => [(23, .int .i64 (i : Int))]) (fun (i, rs1, em) w' => (i ≤ r0.n ∧ GridRows 35 rs1 (qP g key (((fW a).map dI).take i)) ∧ iA .i64 Value.bool (pA (((fW a).map dI).take i)) (some b4) em) ∧ Mem w (bH ((some b, bc (dE rs cnt) 250) :: rs.map Row.e)) ([(some b, bc (dE rs1 (cnt + 1)) 250), (some b1, bc (cU a) 253), em, r0.e] ++ rs1.map Row.e) w') (fun (i, rs1, em) => r0.n - i) (0, rs, (some b4, .map #[] 0)) (bM rfl fD) (⟨⟨by omega, by rw [List.take_zero, aRi]; exact hG, (iA.empty _ _ b4).congr (fun q => by rw [List.take_zero]; exact aOo q)⟩, M6⟩) ?_)))))
 rintro ⟨i, rs1, em⟩ ρ7 w7 ⟨⟨hi, hrs, hme⟩, hM7⟩
 refine aD (aA (cY rfl rfl rfl rfl (aB (aC (aD ?_)))))
 refine bE rfl (fun h24 => ?_) (fun h24 => ?_)
 ·obtain ⟨xc, hxc⟩ := cL (xs := fW a) (k := i) hcl (by omega)
  have hbb : ((fW a).map dI)[i]? = some (dI xc) := by rw [List.getElem?_map, hxc]; rfl
  refine aM (aC (aD (aT (aD (aA (wq (bV (i) aQy rfl rfl rfl ((hR0.rd hM7 (aV (i := 3) rfl)).below_len (aJ cG hxc)) ((hR0.rd hM7 (aV (i := 3) rfl)).someK (aJ cG hxc))) rfl (wq (eB _ gO (hR0.rd hM7 (aV (i := 3) rfl)) (aJ cG hxc) rfl) rfl ?_)))))))
  refine aP oE hM7 rfl rfl (fun b8 w8 M8 => ?_)
  have M9 : Mem _ _ ([_, _, _, _, _] ++ _) _ := Mem.front (L := [_, _, _, _]) M8
  refine bB 4 _ gO M9 rfl rfl rfl rfl rfl (aQ rfl) rfl (fun w10 M10 => (aB (aC (aD (aA (wq (bA 4 gO M10 rfl rfl rfl) rfl (bX bCm rfl rfl (aGy _ (F.memY M10 hdF) xc) ?_)))))))
  rintro v11 w11 ⟨rfl, hb11⟩
  have M11 := M10.callB hb11
  refine bP rfl rfl (aB (aC (aD (aD (aA (wq (aG (.map _) rfl) rfl (aY rfl rfl (wq (jC (enc := Value.bool) false 2 aTw zv4 M11 rfl hme rfl rfl) rfl (aB (aC ?_))))))))))
  refine iS _ rfl (fun h31 => ?_) (fun h31 => ?_)
  ·refine cO (dC (eV (aC (aA (wq (bQ rfl rfl (by omega) (by omega)) rfl (aY rfl rfl ?_))))))
   refine aB ?_
   refine cT (i + 1, rs1, em) (bM rfl fD) (cW rfl (cW rfl (cW rfl (cW rfl (cW rfl kK))))) ?_ ?_
   ·exact ⟨⟨by omega, by rw [aRl hbb (tX.1 h31)]; exact hrs, by rw [aNo hbb (tX.1 h31)]; exact hme⟩, Mem.keepL (L := [_, _, _, _, _]) [true, true, true, true, false] M11⟩
   ·(show r0.n - (i + 1) < r0.n - i; omega)
  ·have hnb : dI xc ∉ ((fW a).map dI).take i := fun h => by have h2 := tX.2 h; rw [h2] at h31; cases h31
   refine aM (aC (aD (aA (wq (aG (.map _) rfl) rfl (aY rfl rfl (iN (enc := Value.bool) 2 aTw M11 rfl rfl hme rfl rfl rfl rfl (fun e12 w12 hm12 M12 => (aB (aC (bO [(0, 0), (1, 0), (2, 0), (3, 0), (4, 0), (5, 0), (6, 0), (7, 1), (8, 0), (11, 0), (12, 0), (9, 2), (10, 2), (13, 0), (14, 2)] mixed rfl (by kernel_rfl) (fun w13 hb13 hh13 => ?_)))))))))))
   have M13 := M12.drew hb13 hh13
   refine aX rfl rfl rfl (fun _ => aG (.pointer _) rfl) (iG rfl rfl rfl (aX rfl rfl rfl (fun _ => aG (.pointer _) rfl) (iG rfl rfl rfl (aX rfl rfl rfl (fun _ => aL rfl) (aX rfl rfl rfl (fun _ => aE 0 wX rfl) ?_)))))
   refine aX rfl rfl rfl (fun _ => fA (dI xc) aJt rfl rfl rfl (jD xc)) ?_
   obtain ⟨rb, hrb⟩ := hrs.get (jD xc)
   have hrowb := hrs.row _ _ hrb
   have hgb : qP g key (((fW a).map dI).take i) (dI xc) = g (dI xc) := by unfold qP; rw [if_neg hnb]
   have hrn : (qP g key (((fW a).map dI).take i) (dI xc)).length = rb.n := by simpa using hrowb.1
   have hgl := hgl (dI xc) (jD xc)
   rw [hgb] at hrn
   have M14 : Mem _ _ ([_, _, _, _, _, _] ++ (rs1.eraseIdx (dI xc)).map Row.e) _ := Mem.pull (L := [_, _, _, _, _]) (rs := rs1) M13 hrb
   refine cA rfl rfl rfl (aK 0 (.slice _ _ _) aDg M14 rfl rfl (rK hrb)) (iG rfl rfl rfl (aX rfl rfl rfl (fun _ => aL rfl) (aX rfl rfl rfl (fun _ => aE 0 wX rfl) (dL [false] rfl (by kernel_rfl) (cV [.int _ _] [eZ key] rfl aFk M14 rfl rfl rfl rfl (dD rfl) (by decide) (fun b15 w15 M15 => ?_))))))
   have M16 : Mem _ _ ([_, _, _, _, _, _, _] ++ _) _ := Mem.front (L := [_, _, _, _, _, _]) M15
   refine aB (aC ⟨(eK (bL rfl (aK 0 (.slice _ _ _) aDg M16 rfl rfl (rK hrb))) dM), ?_⟩)
   refine dL [true] rfl (by kernel_rfl) (dZ 5 [eZ key] aFk M16 rfl rfl rfl rfl rfl hrowb rfl (aIy _) (cZ.ofMem 6 M16 rfl) (by omega) (fun A17 c17 e17 w17 M17 hR17 => ?_))
   refine aB (aC ⟨dM, ?_⟩)
   refine aX rfl rfl rfl (fun _ => fA (dI xc) aJt rfl rfl rfl (jD xc)) (dL [] rfl (by kernel_rfl) (dX 0 (.slice _ _ _) aDg M17 rfl rfl rfl rfl rfl (by rw [rK hrb]; rfl) (fun w18 M18 => ?_)))
   have M18b : Mem _ _ ([(some b, bc (dE (rs1.set (dI xc) (⟨A17, rb.n + 1, c17, e17⟩ : Row)) (cnt + 1)) 250), _, _, _, _, _, _] ++ (rs1.eraseIdx (dI xc)).map Row.e) _ := Mem.cells0 M18 (aAe (⟨A17, rb.n + 1, c17, e17⟩ : Row) (by rw [hrs.len]; exact jD xc))
   refine aB (aC ⟨dM, ?_⟩)
   refine cF (dJ (aC (aA (wq (bQ rfl rfl (by omega) (by omega)) rfl (aY rfl rfl (aB ?_))))))
   refine cT (i + 1, rs1.set (dI xc) (⟨A17, rb.n + 1, c17, e17⟩ : Row), e12) (bM rfl fD) (cW rfl (cW rfl (cW rfl (cW rfl (cW rfl kK))))) ?_ ?_
   ·exact ⟨⟨by omega, by rw [aSl hbb hnb]; exact hrs.put (r := (⟨A17, rb.n + 1, c17, e17⟩ : Row)) (jD xc) (by simpa using hR17), hm12.congr (fun q => aBt hbb q)⟩, Mem.push (L := [_, _, _, _]) (rs := rs1) (⟨A17, rb.n + 1, c17, e17⟩ : Row) (Mem.keepL (L := [_, _, _, _, _, _, _]) [true, true, true, true, false, true, false] M18b) (by rw [hrs.len]; exact jD xc)⟩
   ·(show r0.n - (i + 1) < r0.n - i; omega)
 ·have hin : i = r0.n := by omega
  rw [List.take_of_length_le (by simp; omega)] at hrs
  refine cO (dC (dA (eV (iX ?_))))
  exact ⟨rfl, rs1, hrs, Mem.keepL (L := [_, _, _, _]) [true, false, false, false] hM7⟩
end Go.Proofs.YtaoaknafiegfoaaGreatDoor
