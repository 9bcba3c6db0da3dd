/- Part of the proof of the laws of this seat: B8, C9, G10. No conditions. -/
import Derived.Test.YtaoaknafiegfoaaGreatDoorK2
import Derived.Test.YtaoaknafiegfoaaGreatDoorK5
import Derived.Test.YtaoaknafiegfoaaGreatDoorK6
import Derived.Test.YtaoaknafiegfoaaGreatDoorK11
import Derived.Test.YtaoaknafiegfoaaGreatDoorK15
set_option linter.unusedVariables false
set_option linter.unusedSimpArgs false
set_option linter.unnecessarySimpa false
namespace Go.Proofs.YtaoaknafiegfoaaGreatDoor
open Go.Bil
open Go.RowKit (Below)
open Go.Proofs
set_option maxHeartbeats 4000000 in
theorem aIs (w : World) (x : Int) (h0 : -2147483647 ≤ x) (h1 : x ≤ 2147483647) :
  Calls Tryz.prog 253 #[.int .i32 x] w (fun ex w' => ∃ v, ex = .returned v ∧ (fun v w' => v = .int .i32 (max x (-x)) ∧ Below w.heap.size w w') v w') := by
 refine aH #[.tmp 2] 7 Tryz.func253 rfl Tryz.results253 Tryz.ntmps253 rfl ?_
 have M0 := Mem.refl w
 refine aD (aA (bP rfl rfl (aB (aC (aD (aA (aY rfl rfl (aY rfl rfl (wq (aLr rfl (lV _ (by omega) (by omega))) rfl ?_)))))))))
 refine wq (oR rfl rfl ) rfl (bP rfl rfl (aB (aC (aM (bW (.int _ _) rfl ?_)))))
 exact ⟨iE (by omega), M0.below⟩
set_option maxHeartbeats 4000000 in
theorem aHa (w : World) (b : Body) (hb : Okb b) :
  Calls Tryz.prog 229 #[(.agg (aF b).toArray)] w (fun ex w' => ∃ v, ex = .returned v ∧ (fun v w' => v = .tuple #[.int .i32 (aRi b), .int .i32 (aPj b)] ∧ Below w.heap.size w w') v w') := by
 have hr := hb.r
 have ha := hb.a
 have hp := hb.p
 refine aH #[.tmp 2, .tmp 3] 18 Tryz.func229 rfl Tryz.results229 Tryz.ntmps229 rfl ?_
 have M0 := Mem.refl w
 refine aD (aA (bG (.agg (List.toArray _)) M0 rfl rfl rfl (fun b1 w1 M1 => (bP rfl rfl (bP rfl rfl (aB (aC (aD (bO [(0, 0), (1, 0), (2, 1), (4, 0), (5, 1), (7, 0), (8, 0), (9, 1), (11, 0), (12, 1), (3, 2), (6, 0), (10, 2), (13, 0), (14, 0), (15, 0)] mixed rfl (by kernel_rfl) (fun w2 hb2 hh2 => ?_))))))))))
 have M2 := M1.drew hb2 hh2
 refine aV rfl rfl rfl (fun _ => aE 2 jK rfl) (aV rfl rfl rfl (fun _ => aE 0 dR rfl) (bV rfl rfl rfl (aL 0 (.int _ _) aU M2 rfl rfl rfl) (aV rfl rfl rfl (fun _ => aE 1 lE rfl) (bV rfl rfl rfl (aL 0 (.int _ _) aU M2 rfl rfl rfl) (aV rfl rfl rfl (fun _ => aE 2 jK rfl) ?_)))))
 refine aV rfl rfl rfl (fun _ => aE 1 dJ rfl) (bV rfl rfl rfl (aL 0 (.int _ _) aU M2 rfl rfl rfl) (aV rfl rfl rfl (fun _ => aE 1 lE rfl) (bV rfl rfl rfl (aL 0 (.int _ _) aU M2 rfl rfl rfl) (dG [false, false, false, true] rfl (by kernel_rfl) (bX aUk rfl rfl (aIs _ _ (by omega) (by omega)) ?_)))))
 rintro v3 w3 ⟨rfl, hb3⟩
 have M3 := M2.callB hb3
 refine aB (aC ⟨(eF (bK rfl (aL 0 (.int _ _) aU M3 rfl rfl rfl)) (eF (bK rfl (aL 0 (.int _ _) aU M3 rfl rfl rfl)) (eF (bK rfl (aL 0 (.int _ _) aU M3 rfl rfl rfl)) dH))), ?_⟩)
 refine aV rfl rfl rfl (fun _ => iS rfl rfl (lV _ (by omega) (by omega))) (dG [false, true, false] rfl (by kernel_rfl) (bX aUk rfl rfl (aIs _ _ (by omega) (by omega)) ?_))
 rintro v4 w4 ⟨rfl, hb4⟩
 have M4 := M3.callB hb4
 refine aB (aC ⟨(eF (bK rfl (aL 0 (.int _ _) aU M4 rfl rfl rfl)) (eF (bK rfl (aL 0 (.int _ _) aU M4 rfl rfl rfl)) dH)), ?_⟩)
 refine aV rfl rfl rfl (fun _ => iS rfl rfl (lV _ (by omega) (by omega))) (qN rfl rfl rfl (qN rfl rfl rfl (cD (aC (aM (iH (.int _ _) (.int _ _) rfl rfl ?_))))))
 exact ⟨rfl, M4.below⟩
set_option maxHeartbeats 4000000 in
theorem bGn (w : World) (b : Body) (hb : Okb b) :
  Calls Tryz.prog 203 #[(.agg (aF b).toArray)] w (fun ex w' => ∃ v, ex = .returned v ∧ (fun v w' => v = (.agg (cY (iQ b)).toArray) ∧ Below w.heap.size w w') v w') := by
 have hr := hb.r
 have ha := hb.a
 have hp := hb.p
 have he := aXp hb
 refine aH #[.cell 2 253] 31 Tryz.func203 rfl Tryz.results203 Tryz.ntmps203 rfl ?_
 have M0 := Mem.refl w
 refine aD (aA (bG (.agg (List.toArray _)) M0 rfl rfl rfl (fun b1 w1 M1 => (aQ aDs M1 rfl rfl (fun b2 w2 M2 => (aB (aC (aD (aA (wq (bC 0 bS M2 rfl rfl rfl) rfl (bX bEt rfl rfl (aHa _ b hb) ?_)))))))))))
 rintro v3 w3 ⟨rfl, hb3⟩
 have M3 := M2.callB hb3
 refine wq (aG (.tuple (List.toArray _)) rfl) rfl (wq (bE (.int _ _) rfl rfl) rfl (wq (bE (.int _ _) rfl rfl) rfl (bP rfl rfl (bP rfl rfl (aB (aC (aD (aA ?_))))))))
 refine wq (aE 6 fR rfl) rfl (wq (aE 0 dR rfl) rfl (wq (aL 0 (.int _ _) aU M3 rfl rfl rfl) rfl (aY rfl rfl (wq (mC rfl rfl (lV _ (by omega) (by omega))) rfl (wq (aE 6 fR rfl) rfl ?_)))))
 refine wq (aE 1 dJ rfl) rfl (wq (aL 0 (.int _ _) aU M3 rfl rfl rfl) rfl (aY rfl rfl (wq (mC rfl rfl (lV _ (by omega) (by omega))) rfl (wq (aE 6 fR rfl) rfl (wq (aE 0 dR rfl) rfl ?_)))))
 refine wq (aL 0 (.int _ _) aU M3 rfl rfl rfl) rfl (aY rfl rfl (wq (iS rfl rfl (lV _ (by omega) (by omega))) rfl (wq (aE 6 fR rfl) rfl (wq (aE 1 dJ rfl) rfl (wq (aL 0 (.int _ _) aU M3 rfl rfl rfl) rfl ?_)))))
 refine aY rfl rfl (wq (iS rfl rfl (lV _ (by omega) (by omega))) rfl (wq (cH [(0, .int _ _), (1, .int _ _), (2, .int _ _), (3, .int _ _)] _ aCr rfl rfl) rfl (bB 1 _ iT M3 rfl rfl rfl rfl rfl (aR rfl) rfl (fun w4 M4 => (aB (aC (aM (eV 1 iT M4 rfl rfl rfl ?_))))))))
 exact ⟨rfl, M4.below⟩
set_option maxHeartbeats 4000000 in
theorem vI (w : World) (a : Bx) :
  Calls Tryz.prog 231 #[(.agg (cY a).toArray)] w (fun ex w' => ∃ v, ex = .returned v ∧ (fun v w' => v = .bool (decide (gU a)) ∧ Below w.heap.size w w') v w') := by
 refine aH #[.tmp 2] 15 Tryz.func231 rfl Tryz.results231 Tryz.ntmps231 rfl ?_
 have M0 := Mem.refl w
 refine aD (aA (bG (.agg (List.toArray _)) M0 rfl rfl rfl (fun b1 w1 M1 => (wq (aI (.bool false) rfl) rfl (aB (aC (aD (aA (wq (aE 0 tR rfl) rfl (wq (aL 0 (.int _ _) aU M1 rfl rfl rfl) rfl ?_))))))))))
 refine wq (aE 2 sW rfl) rfl (wq (aL 0 (.int _ _) aU M1 rfl rfl rfl) rfl (dA rfl rfl rfl rfl (wq (aG (.bool (decide _)) rfl) rfl ?_)))
 refine cU 8 rfl (fun g8 => ?_) (fun g8 => ?_)
 ·refine aN rfl rfl (aN rfl rfl (aN rfl rfl (aN rfl rfl (aN rfl rfl (wq (bQ true (.bool true) rfl rfl) rfl ?_)))))
  refine wq (aI (.bool true) rfl) rfl (aB (aC (aM (bW (.bool true) rfl ?_))))
  exact ⟨by unfold gU; first | exact bT (by omega) | exact bD (by omega), M1.below⟩
 ·refine wq (aE 1 tP rfl) rfl (wq (aL 0 (.int _ _) aU M1 rfl rfl rfl) rfl (wq (aE 3 sU rfl) rfl (wq (aL 0 (.int _ _) aU M1 rfl rfl rfl) rfl (dA rfl rfl rfl rfl (wq (bQ false (.bool (decide _)) rfl rfl) rfl ?_)))))
  refine wq (aI (.bool (decide _)) rfl) rfl (aB (aC (aM (bW (.bool (decide _)) rfl ?_))))
  exact ⟨by unfold gU; first | exact bT (by omega) | exact bD (by omega), M1.below⟩
set_option maxHeartbeats 4000000 in
theorem aVi (w : World) (N : Rd w 4 (some ⟨3, 0, none⟩) 1 [cY gO]) (a b : Bx) :
  Calls Tryz.prog 232 #[(.agg (cY a).toArray), (.agg (cY b).toArray)] w (fun ex w' => ∃ v, ex = .returned v ∧ (fun v w' => v = (.agg (cY (aCx a b)).toArray) ∧ Below w.heap.size w w') v w') := by
 refine aH #[.cell 4 253] 31 Tryz.func232 rfl Tryz.results232 Tryz.ntmps232 rfl ?_
 have M0 := Mem.refl w
 refine aD (aA (bG (.agg (List.toArray _)) M0 rfl rfl rfl (fun b1 w1 M1 => (bG (.agg (List.toArray _)) M1 rfl rfl rfl (fun b2 w2 M2 => (aQ aDs M2 rfl rfl (fun b3 w3 M3 => (aB (aC (aD (aA (wq (aE 0 tR rfl) rfl ?_))))))))))))
 refine wq (aL 0 (.int _ _) aU M3 rfl rfl rfl) rfl (wq (aE 0 tR rfl) rfl (wq (aL 1 (.int _ _) aU M3 rfl rfl rfl) rfl (wq (oR rfl rfl ) rfl (wq (aE 1 tP rfl) rfl (wq (aL 0 (.int _ _) aU M3 rfl rfl rfl) rfl ?_)))))
 refine wq (aE 1 tP rfl) rfl (wq (aL 1 (.int _ _) aU M3 rfl rfl rfl) rfl (wq (oR rfl rfl ) rfl (wq (aE 2 sW rfl) rfl (wq (aL 0 (.int _ _) aU M3 rfl rfl rfl) rfl (wq (aE 2 sW rfl) rfl ?_)))))
 refine wq (aL 1 (.int _ _) aU M3 rfl rfl rfl) rfl (wq (zB rfl rfl ) rfl (wq (aE 3 sU rfl) rfl (wq (aL 0 (.int _ _) aU M3 rfl rfl rfl) rfl (wq (aE 3 sU rfl) rfl (wq (aL 1 (.int _ _) aU M3 rfl rfl rfl) rfl ?_)))))
 refine wq (zB rfl rfl ) rfl (wq (cH [(0, .int _ _), (1, .int _ _), (2, .int _ _), (3, .int _ _)] _ aCr rfl rfl) rfl (aQ aDs M3 rfl rfl (fun b4 w4 M4 => (bB 3 _ iT M4 rfl rfl rfl rfl rfl (aR rfl) rfl (fun w5 M5 => (aB (aC (aD (aD (aA (wq (bC 3 iT M5 rfl rfl rfl) rfl ?_)))))))))))
 refine bX aJu rfl rfl (vI _ ⟨max a.x0 b.x0, max a.y0 b.y0, min a.x1 b.x1, min a.y1 b.y1⟩) ?_
 rintro v6 w6 ⟨rfl, hb6⟩
 have M6 := M5.callB hb6
 refine aB (aC ?_)
 refine aZ rfl (fun h28 => ?_) (fun h28 => ?_)
 ·refine aD (aA (wq (oV (k := 0) (o := 0) _ iT (N.mem M6) (show ([cY gO] : List (List Value))[0]? = some (cY gO) from rfl) rfl rfl rfl) rfl (bB 2 _ iT M6 rfl rfl rfl rfl rfl (aR rfl) rfl (fun w7 M7 => (aB (aC (aM (cE (eV 2 iT M7 rfl rfl rfl ?_)))))))))
  exact ⟨by unfold aCx; rw [if_pos h28]; rfl, M7.below⟩
 ·refine aK (aC (aD (aA (wq (bC 3 iT M6 rfl rfl rfl) rfl (bB 2 _ iT M6 rfl rfl rfl rfl rfl (aR rfl) rfl (fun w8 M8 => (aB (aC (aM (eV 2 iT M8 rfl rfl rfl ?_))))))))))
  exact ⟨by unfold aCx; rw [if_neg h28]; rfl, M8.below⟩
set_option maxHeartbeats 4000000 in
theorem aIu (w : World) (N : Rd w 4 (some ⟨3, 0, none⟩) 1 [cY gO]) (a b : Bx) :
  Calls Tryz.prog 207 #[(.agg (cY a).toArray), (.agg (cY b).toArray)] w (fun ex w' => ∃ v, ex = .returned v ∧ (fun v w' => v = .bool (decide (ovl a b)) ∧ Below w.heap.size w w') v w') := by
 refine aH #[.tmp 4] 10 Tryz.func207 rfl Tryz.results207 Tryz.ntmps207 rfl ?_
 have M0 := Mem.refl w
 refine aD (aA (bG (.agg (List.toArray _)) M0 rfl rfl rfl (fun b1 w1 M1 => (bG (.agg (List.toArray _)) M1 rfl rfl rfl (fun b2 w2 M2 => (wq (aI (.bool false) rfl) rfl (aB (aC (aD (aA (wq (bC 0 iT M2 rfl rfl rfl) rfl ?_)))))))))))
 refine wq (bC 1 iT M2 rfl rfl rfl) rfl (bX bEs rfl rfl (aVi _ (N.mem M2) a b) ?_)
 rintro v3 w3 ⟨rfl, hb3⟩
 have M3 := M2.callB hb3
 refine bX aJu rfl rfl (vI _ (aCx a b)) ?_
 rintro v4 w4 ⟨rfl, hb4⟩
 have M4 := M3.callB hb4
 refine wq (lM rfl) rfl (wq (aI (.bool (decide _)) rfl) rfl (aB (aC (aM (bW (.bool (decide _)) rfl ?_)))))
 exact ⟨bD (aXj a b), M4.below⟩
set_option maxHeartbeats 4000000 in
theorem aNu (w : World) (x y : Int) :
  Calls Tryz.prog 267 #[.agg [.int .i32 x, .int .i32 y].toArray] w (fun ex w' => ∃ v, ex = .returned v ∧ (fun v w' => v = (.agg (cJ (lY x, lY y)).toArray) ∧ Below w.heap.size w w') v w') := by
 refine aH #[.cell 2 283] 10 Tryz.func267 rfl Tryz.results267 Tryz.ntmps267 rfl ?_
 have M0 := Mem.refl w
 refine aD (aA (bG (.agg (List.toArray _)) M0 rfl rfl rfl (fun b1 w1 M1 => (aQ oQ M1 rfl rfl (fun b2 w2 M2 => (aB (aC (aD (aA (wq (aE 0 dR rfl) rfl (wq (aL 0 (.int _ _) aU M2 rfl rfl rfl) rfl ?_)))))))))))
 refine wq (gM rfl rfl (by decide)) rfl (aT 5 (.int .i32 (lY x)) (iE (bCa x)) (wq (aE 1 dJ rfl) rfl (wq (aL 0 (.int _ _) aU M2 rfl rfl rfl) rfl (wq (gM rfl rfl (by decide)) rfl (aT 8 (.int .i32 (lY y)) (iE (bCa y)) ?_)))))
 refine wq (cH [(0, .int _ _), (1, .int _ _)] _ aBv rfl rfl) rfl (bB 1 _ gT M2 rfl rfl rfl rfl rfl (aR rfl) rfl (fun w3 M3 => (aB (aC (aM (eV 1 gT M3 rfl rfl rfl ?_))))))
 exact ⟨rfl, M3.below⟩
set_option maxHeartbeats 4000000 in
theorem aPx (w : World) (a : Bx) :
  Calls Tryz.prog 254 #[(.agg (cY a).toArray)] w (fun ex w' => ∃ v, ex = .returned v ∧ (fun v w' => v = .tuple #[(.agg (cJ (loC a)).toArray), (.agg (cJ (hiC a)).toArray), .bool (decide (¬ gU a))] ∧ Below w.heap.size w w') v w') := by
 refine aH #[.cell 2 283, .cell 3 283, .tmp 4] 21 Tryz.func254 rfl Tryz.results254 Tryz.ntmps254 rfl ?_
 have M0 := Mem.refl w
 refine aD (aA (bG (.agg (List.toArray _)) M0 rfl rfl rfl (fun b1 w1 M1 => (aQ oQ M1 rfl rfl (fun b2 w2 M2 => (aQ oQ M2 rfl rfl (fun b3 w3 M3 => (wq (aI (.bool false) rfl) rfl (aB (aC (aD (aD (aA ?_)))))))))))))
 refine wq (bC 0 iT M3 rfl rfl rfl) rfl (bX aJu rfl rfl (vI _ a) ?_)
 rintro v4 w4 ⟨rfl, hb4⟩
 have M4 := M3.callB hb4
 refine aB (aC ?_)
 refine aZ rfl (fun h6 => ?_) (fun h6 => ?_)
 ·refine aD (bO [(0, 1), (1, 1), (2, 2), (3, 2), (4, 0)] mixed rfl (by kernel_rfl) (fun w5 hb5 hh5 => ?_))
  have M5 := M4.drew hb5 hh5
  refine bV rfl rfl rfl (bC 1 gT M5 rfl rfl rfl) (bV rfl rfl rfl (bC 2 gT M5 rfl rfl rfl) (dG [false, true] rfl (by kernel_rfl) (bB 1 _ gT M5 rfl rfl rfl rfl rfl (aR rfl) rfl (fun w6 M6 => ?_))))
  refine aB (aC ⟨(eF (bK rfl (bC 2 gT M6 rfl rfl rfl)) dH), ?_⟩)
  refine dG [true] rfl (by kernel_rfl) (bB 2 _ gT M6 rfl rfl rfl rfl rfl (aR rfl) rfl (fun w7 M7 => ?_))
  refine aB (aC ⟨dH, ?_⟩)
  refine aV rfl rfl rfl (fun _ => aI (.bool false) rfl) (cD (aC (aM (cE (bCw (v3 := .bool false) 1 2 gT M7 rfl rfl rfl rfl rfl rfl rfl ?_)))))
  exact ⟨by unfold loC hiC; rw [if_pos h6, if_pos h6, decide_eq_false (fun h => h h6)]; rfl, M7.below⟩
 ·refine aK (aC (aD (bO [(0, 0), (1, 1), (2, 0), (3, 1), (4, 0), (6, 0), (7, 1), (8, 0), (9, 1), (10, 0), (5, 2), (11, 2), (12, 2), (13, 2), (14, 0)] mixed rfl (by kernel_rfl) (fun w8 hb8 hh8 => ?_))))
  have M8 := M4.drew hb8 hh8
  refine aV rfl rfl rfl (fun _ => aE 0 tR rfl) (bV rfl rfl rfl (aL 0 (.int _ _) aU M8 rfl rfl rfl) (aV rfl rfl rfl (fun _ => aE 1 tP rfl) (bV rfl rfl rfl (aL 0 (.int _ _) aU M8 rfl rfl rfl) (aV rfl rfl rfl (fun _ => cH [(0, .int _ _), (1, .int _ _)] _ fE rfl rfl) ?_))))
  refine aV rfl rfl rfl (fun _ => aE 2 sW rfl) (bV rfl rfl rfl (aL 0 (.int _ _) aU M8 rfl rfl rfl) (aV rfl rfl rfl (fun _ => aE 3 sU rfl) (bV rfl rfl rfl (aL 0 (.int _ _) aU M8 rfl rfl rfl) (aV rfl rfl rfl (fun _ => cH [(0, .int _ _), (1, .int _ _)] _ fE rfl rfl) ?_))))
  refine dG [false, false, true, true] rfl (by kernel_rfl) (bX aTy rfl rfl (aNu _ a.x0 a.y0) ?_)
  rintro v9 w9 ⟨rfl, hb9⟩
  have M9 := M8.callB hb9
  refine aB (aC ⟨(eF (bK rfl (aL 0 (.int _ _) aU M9 rfl rfl rfl)) (eF (bK rfl (aL 0 (.int _ _) aU M9 rfl rfl rfl)) dH)), ?_⟩)
  refine dG [true, true] rfl (by kernel_rfl) (bX aTy rfl rfl (aNu _ a.x1 a.y1) ?_)
  rintro v10 w10 ⟨rfl, hb10⟩
  have M10 := M9.callB hb10
  refine aB (aC ⟨dH, ?_⟩)
  refine dG [] rfl (by kernel_rfl) (bB 1 _ gT M10 rfl rfl rfl rfl rfl (aR rfl) rfl (fun w11 M11 => ?_))
  refine aB (aC ⟨dH, ?_⟩)
  refine dG [] rfl (by kernel_rfl) (bB 2 _ gT M11 rfl rfl rfl rfl rfl (aR rfl) rfl (fun w12 M12 => ?_))
  refine aB (aC ⟨dH, ?_⟩)
  refine aV rfl rfl rfl (fun _ => aI (.bool true) rfl) (cD (aC (aM (bCw (v3 := .bool true) 1 2 gT M12 rfl rfl rfl rfl rfl rfl rfl ?_))))
  exact ⟨by unfold loC hiC; rw [if_neg h6, if_neg h6, decide_eq_true h6], M12.below⟩
set_option maxHeartbeats 4000000 in
theorem aKq (w : World) (a : Bx) :
  Calls Tryz.prog 230 #[(.agg (cY a).toArray)] w (fun ex w' => ∃ v, ex = .returned v ∧ (fun v w' => ∃ b1 b2 b3, v = .func (.func 255) #[] #[.pointer (some ⟨b1, 0, none⟩), .pointer (some ⟨b2, 0, none⟩), .pointer (some ⟨b3, 0, none⟩)] ∧ Mem w [] [(some b1, bc (cJ (loC a)) 283), (some b3, bc (cJ (hiC a)) 283), (some b2, bc [.bool (decide (¬ gU a))] 4)] w') v w') := by
 refine aH #[.tmp 2] 13 Tryz.func230 rfl Tryz.results230 Tryz.ntmps230 rfl ?_
 have M0 := Mem.refl w
 refine aD (aA (bG (.agg (List.toArray _)) M0 rfl rfl rfl (fun b1 w1 M1 => (wq (aI (_) rfl) rfl (aB (aC (aD (aA (wq (bC 0 iT M1 rfl rfl rfl) rfl (bX bDp rfl rfl (aPx _ a) ?_))))))))))
 rintro v2 w2 ⟨rfl, hb2⟩
 have M2 := M1.callB hb2
 refine wq (aG (.tuple (List.toArray _)) rfl) rfl (wq (bE (.agg (List.toArray _)) rfl rfl) rfl (wq (bE (.agg (List.toArray _)) rfl rfl) rfl (wq (bE (.bool (decide _)) rfl rfl) rfl (aQ oQ M2 rfl rfl (fun b3 w3 M3 => (aQ oQ M3 rfl rfl (fun b4 w4 M4 => ?_)))))))
 refine aQ aMx M4 rfl rfl (fun b5 w5 M5 => (bB 1 _ gT M5 rfl rfl rfl rfl rfl (aR rfl) rfl (fun w6 M6 => (bB 2 _ gT M6 rfl rfl rfl rfl rfl (aR rfl) rfl (fun w7 M7 => (dX 3 (.bool (decide _)) nV M7 rfl rfl rfl rfl rfl rfl (fun w8 M8 => (aB (aC (aD (aA (wq (cO [] [.pointer _, .pointer _, .pointer _] rfl rfl) rfl ?_))))))))))))
 refine wq (aI (.func _ _ _) rfl) rfl (aB (aC (aM (bW (.func _ _ _) rfl ?_))))
 exact ⟨b3, b5, b4, rfl, M8.keep [false, true, true, true]⟩
set_option maxHeartbeats 4000000 in
theorem aFw (w : World) (lo hi : Int × Int) (ok : Bool) (b1 b2 b3 : Nat) (L1 : Rd w 2 (some ⟨b1, 0, none⟩) 1 [cJ lo]) (L2 : Rd w 1 (some ⟨b2, 0, none⟩) 1 [[.bool ok]]) (L3 : Rd w 2 (some ⟨b3, 0, none⟩) 1 [cJ hi]) (hlo : Okc lo) (hhi : Okc hi) (lp ob : Nat) (rec : Loop) (hY : uA Tryz.prog lp ob rec 281 283 2 1048576 (fun x => ∃ a b, x = [.int .i32 a, .int .i32 b])) (r0 : Row) (hr0 : aW 283 2 r0.A r0.n r0.c [] r0.e) (hO : Own [(some lp, .loop rec), (some ob, bc [.slice r0.A r0.n r0.c] 281), r0.e] w) (hd1 : 0 < 1 → ∀ q off, (some ⟨b1, 0, none⟩ : Option Addr) = some ⟨q, off, none⟩ → q ∉ bH [(some lp, .loop rec), (some ob, bc [.slice r0.A r0.n r0.c] 281), r0.e]) (hd2 : 0 < 1 → ∀ q off, (some ⟨b2, 0, none⟩ : Option Addr) = some ⟨q, off, none⟩ → q ∉ bH [(some lp, .loop rec), (some ob, bc [.slice r0.A r0.n r0.c] 281), r0.e]) (hd3 : 0 < 1 → ∀ q off, (some ⟨b3, 0, none⟩ : Option Addr) = some ⟨q, off, none⟩ → q ∉ bH [(some lp, .loop rec), (some ob, bc [.slice r0.A r0.n r0.c] 281), r0.e]) :
  Calls Tryz.prog 255 #[.func (.yield lp) #[] #[], .pointer (some ⟨b1, 0, none⟩), .pointer (some ⟨b2, 0, none⟩), .pointer (some ⟨b3, 0, none⟩)] w (fun ex w' => ∃ v, ex = .returned v ∧ (fun v w' => v = .tuple #[] ∧ ∃ r : Row, aW 283 2 r.A r.n r.c ((vH ok lo hi).map cJ) r.e ∧ Mem w (bH [(some lp, .loop rec), (some ob, bc [.slice r0.A r0.n r0.c] 281), r0.e]) [(some lp, .loop rec), (some ob, bc [.slice r.A r.n r.c] 281), r.e] w') v w') := by
 rw [← eT b1, ← eT b2, ← eT b3]
 have hxd : nX lo hi = (hi.1 - lo.1 + 1).toNat := rfl
 have hyd : nY lo hi = (hi.2 - lo.2 + 1).toNat := rfl
 have hlx := hlo.x
 have hly := hlo.y
 have hhx := hhi.x
 have hhy := hhi.y
 have hnx := bCh hlo hhi
 have hny := bCf hlo hhi
 refine aH #[] 32 Tryz.func255 rfl Tryz.results255 Tryz.ntmps255 rfl ?_
 have M0 := hO.mem
 refine aD (aA (wq (bJ 1 yF (L1.memY M0 hd1) (Nat.lt_of_le_of_lt (Nat.zero_le _) ((L1.memY M0 hd1).below_len (show ([cJ lo] : List (List Value))[0]? = some (cJ lo) from rfl))) rfl) rfl (wq (eJ (o := 1) (.int _ _) aU (L1.memY M0 hd1) (show ([cJ lo] : List (List Value))[0]? = some (cJ lo) from rfl) rfl rfl) rfl ?_)))
 refine bP rfl rfl (aB (aC (aS (dK (σ := Nat × Row) [0, 1, 2, 3] (fun (j, r) => [(5, .int .i32 (lo.2 + (j : Int)))]) (fun (j, r) w' => (j ≤ nY lo hi ∧ (ok = false → j = 0) ∧ aW 283 2 r.A r.n r.c ((mP lo hi j).map cJ) r.e) ∧ Mem w (bH [(some lp, .loop rec), (some ob, bc [.slice r0.A r0.n r0.c] 281), r0.e]) [(some lp, .loop rec), (some ob, bc [.slice r.A r.n r.c] 281), r.e] w') (fun (j, r) => nY lo hi - j) (0, r0) (bR (iv rfl (by simp)) eZ) (⟨⟨by omega, fun _ => rfl, hr0⟩, M0⟩) ?_))))
 rintro ⟨j, r⟩ ρ1 w1 ⟨⟨hj, hjz, hr⟩, hM1⟩
 refine aD (aD (aA (wq (eJ (o := 0) (.bool _) nV (L2.memY hM1 hd2) (show ([[.bool ok]] : List (List Value))[0]? = some ([.bool ok]) from rfl) rfl rfl) rfl (wq (aG (.bool _) rfl) rfl ?_))))
 refine nK 10 _ rfl (fun g10 => ?_) (fun g10 => ?_)
 ·refine aY rfl rfl (wq (bJ 1 yF (L3.memY hM1 hd3) (Nat.lt_of_le_of_lt (Nat.zero_le _) ((L3.memY hM1 hd3).below_len (show ([cJ hi] : List (List Value))[0]? = some (cJ hi) from rfl))) rfl) rfl (wq (eJ (o := 1) (.int _ _) aU (L3.memY hM1 hd3) (show ([cJ hi] : List (List Value))[0]? = some (cJ hi) from rfl) rfl rfl) rfl ?_))
  refine dA rfl rfl rfl rfl (wq (bQ true (.bool (decide _)) rfl rfl) rfl (aB (aC ?_)))
  refine aZ rfl (fun h15 => ?_) (fun h15 => ?_)
  ·refine aK (aC (aD (aS (aD (aA (wq (bJ 0 zG (L1.memY hM1 hd1) (Nat.lt_of_le_of_lt (Nat.zero_le _) ((L1.memY hM1 hd1).below_len (show ([cJ lo] : List (List Value))[0]? = some (cJ lo) from rfl))) rfl) rfl (wq (eJ (o := 0) (.int _ _) aU (L1.memY hM1 hd1) (show ([cJ lo] : List (List Value))[0]? = some (cJ lo) from rfl) rfl rfl) rfl ?_)))))))
   refine bP rfl rfl (aB (aC (aS (dK (σ := Nat × Row) [0, 1, 2, 3, 5] (fun (i, q0) => [(6, .int .i32 (lo.1 + (i : Int)))]) (fun (i, q0) w' => (i ≤ nX lo hi ∧ aW 283 2 q0.A q0.n q0.c ((mP lo hi j ++ yG lo i j).map cJ) q0.e) ∧ Mem w (bH [(some lp, .loop rec), (some ob, bc [.slice r0.A r0.n r0.c] 281), r0.e]) [(some lp, .loop rec), (some ob, bc [.slice q0.A q0.n q0.c] 281), q0.e] w') (fun (i, q0) => nX lo hi - i) (0, r) (bR (iv rfl (by simp)) eZ) (⟨⟨by omega, by simpa [yG] using hr⟩, hM1⟩) ?_))))
   rintro ⟨i, q0⟩ ρ2 w2 ⟨⟨hi2, hq0⟩, hM2⟩
   have hql : (mP lo hi j).length + i = q0.n := by simpa [aIk] using hq0.1
   refine aD (aD (aA (aY rfl rfl (wq (bJ 0 zG (L3.memY hM2 hd3) (Nat.lt_of_le_of_lt (Nat.zero_le _) ((L3.memY hM2 hd3).below_len (show ([cJ hi] : List (List Value))[0]? = some (cJ hi) from rfl))) rfl) rfl (wq (eJ (o := 0) (.int _ _) aU (L3.memY hM2 hd3) (show ([cJ hi] : List (List Value))[0]? = some (cJ hi) from rfl) rfl rfl) rfl ?_)))))
   refine dA rfl rfl rfl rfl (aB (aC ?_))
   refine aZ rfl (fun h23 => ?_) (fun h23 => ?_)
   ·have hlt6 := aVa (lo := lo) (hi := hi) (i := i) (j := j) hnx (by omega) (by omega)
    refine aK (aC (aD (aS (aD (aBw (aCd (aG (.func _ _ _) rfl) rfl rfl (aCd (aG (.int _ _) rfl) rfl rfl (aCd (aG (.int _ _) rfl) rfl rfl (aCd (cH [(0, .int _ _), (1, .int _ _)] _ aBv rfl rfl) rfl rfl ?_)))))))))
    obtain ⟨fy, ty, ay, by1, hy1, hy2⟩ := hY _ q0 ((mP lo hi j ++ yG lo i j).map cJ) (cJ (lo.1 + (i : Int), lo.2 + (j : Int))) ⟨_, _, rfl⟩ (by omega) hq0 (hM2.ownSeg 0 3)
    refine aDm rfl rfl rfl rfl hy1 (hy2.mono ?_)
    rintro _ w3 ⟨rfl, q3, hqn3, hq3, hM3⟩
    have M3 : Mem _ _ [_, _, _] _ := hM2.seg 0 3 hM3
    refine ⟨_, rfl, ?_⟩
    refine aXs rfl (fun _ _ h => h) (wq (fO false rfl rfl) rfl (aB (aC (cB rfl (aK (dE ?_))))))
    refine aC (aA (aY rfl rfl (wq (iS rfl rfl (lV _ (by omega) (by omega))) rfl (bP rfl rfl (aB ?_)))))
    refine cS (i + 1, q3) (bR (iv rfl (by omega)) eZ) (cV rfl (cV rfl (cV rfl (cV rfl (cV rfl jQ))))) ?_ ?_
    ·exact ⟨⟨by omega, by rw [aRx, ← List.append_assoc, List.map_append]; exact hq3⟩, M3⟩
    ·(show nX lo hi - (i + 1) < nX lo hi - i; omega)
   ·have hix : i = nX lo hi := by omega
    refine cR (cZ (cX (eQ (dE (aC (aA ?_))))))
    refine aY rfl rfl (wq (iS rfl rfl (lV _ (by omega) (by omega))) rfl (bP rfl rfl (aB ?_)))
    refine cS (j + 1, q0) (bR (iv rfl (by omega)) eZ) (cV rfl (cV rfl (cV rfl (cV rfl jQ)))) ?_ ?_
    ·exact ⟨⟨by omega, fun h => (by rw [g10] at h; cases h), by rw [yK, ← hix]; exact hq0⟩, hM2⟩
    ·(show nY lo hi - (j + 1) < nY lo hi - j; omega)
  ·refine cR (cZ (cX (eQ (iV ?_))))
   exact ⟨rfl, r, by unfold vH; first | (rw [if_pos g10, show nY lo hi = j by omega]; exact hr) | (rw [if_neg (by rw [g10]; decide)]; rw [hjz g10] at hr; exact hr), hM1⟩
 ·refine aN rfl rfl (aN rfl rfl (aN rfl rfl (aN rfl rfl (wq (bQ false (.bool false) rfl rfl) rfl (aB (aC ?_))))))
  refine cB rfl (cR (cZ (cX (eQ (iV ?_)))))
  exact ⟨rfl, r, by unfold vH; first | (rw [if_pos g10, show nY lo hi = j by omega]; exact hr) | (rw [if_neg (by rw [g10]; decide)]; rw [hjz g10] at hr; exact hr), hM1⟩
set_option maxHeartbeats 4000000 in
theorem aWl (w : World) (a : Bx) (ha : Okx a) :
  Calls Tryz.prog 204 #[(.agg (cY a).toArray)] w (fun ex w' => ∃ v, ex = .returned v ∧ (fun v w' => ∃ r : Row, v = .slice r.A r.n r.c ∧ aW 283 2 r.A r.n r.c ((gB a).map cJ) r.e ∧ Mem w [] [r.e] w') v w') := by
 refine vZ #[.tmp 2] 13 Tryz.func204 rfl Tryz.results204 Tryz.ntmps204 rfl ?_
 have M0 := Mem.refl w
 refine oI (lR (bG (.agg (List.toArray _)) M0 rfl rfl rfl (fun b1 w1 M1 => (fP rfl rfl (aB (oP ?_))))))
 refine oI (lR (aQ bAu M1 rfl rfl (fun b2 w2 M2 => (aB (oP (oI ?_))))))
 refine oI (lR (wq (bC 0 iT M2 rfl rfl rfl) rfl (bX bDi rfl rfl (aKq _ a) ?_)))
 rintro v3 w3 ⟨bl, bk, bh, rfl, hM3⟩
 have M3 : Mem _ _ [_, _, _, _, _] _ := M2.call0 hM3
 refine aB (oP (aHq ?_))
 have M4 : Mem _ _ [_, _, _, _, _] _ := ((M3.keep [false, true, true, true, true]).dummy default).perm (List.Perm.cons _ (List.perm_append_comm (l₁ := [_, _, _]) (l₂ := [_])))
 refine aHd bGk M4 rfl (fun fnn B lp tmps w1 hρ hn M1 => ?_)
 refine xT (P := Tryz.prog) (ob := b2) (Tsl := 281) (Te := 283) (sz := 2) (N := 1048576) (ok := (fun x => ∃ a b, x = [.int .i32 a, .int .i32 b])) M1 ?_ (fun hY => ?_)
 ·intro wr r ls x hok hlt hrow hO
  obtain ⟨xa, xb, rfl⟩ := hok
  refine ⟨_, _, _, _, aGy hO rfl rfl rfl hn (by decide) hρ ?_⟩
  have MR0 := hO.mem
  refine qU rfl (fun _ _ h => nomatch h.1) (aQ oQ MR0 rfl rfl (fun b5 w5 M5 => (bB 3 _ gT M5 rfl rfl rfl rfl rfl (aR rfl) rfl (fun w6 M6 => (aB ?_)))))
  refine ⟨rfl, _, M6, rfl, fun w7 M7 => ?_⟩
  refine aIp (qU rfl (fun _ _ h => nomatch h.1) (wq (aL 1 (.slice _ _ _) aMl M7 rfl rfl rfl) rfl (wq (bC 3 gT M7 rfl rfl rfl) rfl (dB [.agg (List.toArray _)] [[.int .i32 xa, .int .i32 xb]] rfl aTw M7 rfl rfl rfl rfl (dI rfl) (by decide) (fun b8 w8 M8 => (eC 2 [[.int .i32 xa, .int .i32 xb]] aTw M8 rfl rfl rfl rfl rfl hrow rfl (by simp [Go.Bil.one]) (dD.ofMem 4 M8 rfl) (by omega) (fun A9 c9 e9 w9 M9 hR9 => ?_)))))))
  refine dX 1 (.slice _ _ _) aMl M9 rfl rfl rfl rfl rfl rfl (fun w10 M10 => (aB (dE ?_)))
  refine ⟨rfl, _, M10, rfl, fun w11 M11 => ?_⟩
  exact ⟨⟨A9, r.n + 1, c9, e9⟩, rfl, hR9, M11.keep [true, true, true, false, false]⟩
 ·refine (aFw _ (loC a) (hiC a) _ bl bk bh (mI 3 M1 rfl rfl) (mI 5 M1 rfl rfl) (mI 4 M1 rfl rfl) (aKr ha) (aJx ha) lp b2 _ hY ⟨none, 0, 0, (none, default)⟩ (aW.nil _ _ _) (M1.ownSeg 0 3) (M1.apartTake 3 3 rfl rfl) (M1.apartTake 3 5 rfl rfl) (M1.apartTake 3 4 rfl rfl)).mono ?_
  rintro _ w5 ⟨v5, rfl, rfl, r, hr, hM⟩
  have M5 : Mem _ _ (_ :: [_, _, _, _, _, _]) _ := M1.seg 0 3 hM
  refine ⟨_, rfl, _, M5, fun w6 M6 => ?_⟩
  refine bCc (oP (oI (aDc (aMu (aL 1 (.slice _ _ _) aMl M6 rfl rfl rfl) rfl rfl (aMu (aI (.slice _ _ _) rfl) rfl rfl ?_)))))
  refine aNn (oP (aWs (bBz (i := 6) (.slice _ _ _) rfl M6 rfl (fun w9 M9 => ?_))))
  exact ⟨r, rfl, hr, M9.keep [false, false, true, false, false, false, false]⟩
set_option maxHeartbeats 4000000 in
theorem aGg (w : World) (F : Rd w 2 (some ⟨0, 0, none⟩) 1 [[.int .u32 73856093, .int .u32 19349663]]) (c : Int × Int) :
  Calls Tryz.prog 205 #[(.agg (cJ c).toArray)] w (fun ex w' => ∃ v, ex = .returned v ∧ (fun v w' => v = .int .i64 (dP c : Int) ∧ Below w.heap.size w w') v w') := by
 refine aH #[.tmp 2] 20 Tryz.func205 rfl Tryz.results205 Tryz.ntmps205 rfl ?_
 have M0 := Mem.refl w
 refine aD (aA (bG (.agg (List.toArray _)) M0 rfl rfl rfl (fun b1 w1 M1 => (bP rfl rfl (aB (aC (aD (aA (wq (aE 0 zG rfl) rfl (wq (aL 0 (.int _ _) aU M1 rfl rfl rfl) rfl ?_))))))))))
 refine wq (dU fW Tryz.underlying35 rfl) rfl (wq (fF (0) aUg rfl rfl rfl (by decide)) rfl (wq (eJ (k := 0) (o := 0) (.int _ _) cC (F.mem M1) (show ([[.int .u32 73856093, .int .u32 19349663]] : List (List Value))[0]? = some [.int .u32 73856093, .int .u32 19349663] from rfl) rfl rfl) rfl (wq (dO (.int _ _) rfl rfl rfl) rfl ?_)))
 refine wq (aE 1 yF rfl) rfl (wq (aL 0 (.int _ _) aU M1 rfl rfl rfl) rfl (wq (dU fW Tryz.underlying35 rfl) rfl (wq (fF (1) aUg rfl rfl rfl (by decide)) rfl (wq (eJ (k := 0) (o := 1) (.int _ _) cC (F.mem M1) (show ([[.int .u32 73856093, .int .u32 19349663]] : List (List Value))[0]? = some [.int .u32 73856093, .int .u32 19349663] from rfl) rfl rfl) rfl ?_))))
 refine wq (dO (.int _ _) rfl rfl rfl) rfl (wq (dO (.int _ _) rfl rfl rfl) rfl (bP rfl rfl (aB (aC (aD (aA (aY rfl rfl (wq (dO (.int _ _) rfl rfl rfl) rfl ?_))))))))
 refine aT 18 (.int .u32 (rB c)) rfl (wq (bZ sJ Tryz.underlying3 rfl (kQ _ (by have := kH c; omega) (by have := kH c; omega))) rfl (bP rfl rfl (aB (aC (aM (bW (.int _ _) rfl ?_))))))
 exact ⟨iE (aRg c), M1.below⟩
set_option maxHeartbeats 16000000 in
theorem aIj (w : World) (F : Rd w 2 (some ⟨0, 0, none⟩) 1 [[.int .u32 73856093, .int .u32 19349663]]) (b : Nat) (rs : List Row) (cnt : Int) (g : Nat → List Int) (hG : GridRows 35 rs g) (hcnt : 0 ≤ cnt ∧ cnt ≤ 1048576) (hgl : ∀ j, j < 1024 → (g j).length ≤ 1048576) (key : Int) (a : Bx) (ha : Okx a) (hO : Own ((some b, bc (dL rs cnt) 250) :: rs.map Row.e) w) (hdF : 0 < 1 → ∀ q off, (some ⟨0, 0, none⟩ : Option Addr) = some ⟨q, off, none⟩ → q ∉ bH ((some b, bc (dL rs cnt) 250) :: rs.map Row.e)) :
  Calls Tryz.prog 181 #[.pointer (some ⟨b, 0, none⟩), .int .u32 key, (.agg (cY a).toArray)] w (fun ex w' => ∃ v, ex = .returned v ∧ (fun v w' => v = .tuple #[] ∧ ∃ rs' : List Row, GridRows 35 rs' (rF g key ((gB a).map dP)) ∧ Mem w (bH ((some b, bc (dL rs cnt) 250) :: rs.map Row.e)) ((some b, bc (dL rs' (cnt + 1)) 250) :: rs'.map Row.e) w') v w') := by
 refine aH #[] 49 Tryz.func181 rfl Tryz.results181 Tryz.ntmps181 rfl ?_
 have M0 := hO.mem
 refine aD (aA (bG (.agg (List.toArray _)) M0 rfl rfl rfl (fun b1 w1 M1 => ?_)))
 have M2 : Mem _ _ ([_, _] ++ _) _ := Mem.front (L := [_]) M1
 refine aB (aC (aD (aD (aA (wq (aG (.pointer _) rfl) rfl (wq (eN false Tryz.underlying279 rfl rfl) rfl (aB (aC (cB rfl (aK (aC (aD (aA ?_)))))))))))))
 refine wq (aG (.pointer _) rfl) rfl (wq (aO rfl) rfl (wq (aE 1024 aIt rfl) rfl (wq (aL 0 (.int .i64 cnt) jC M2 rfl rfl (aAk hG.len)) rfl (wq (bU rfl rfl (by omega) (by omega)) rfl (wq (aO rfl) rfl ?_)))))
 refine wq (aE 1024 aIt rfl) rfl (dX 0 (.int _ _) jC M2 rfl rfl rfl rfl rfl (by rw [aAk hG.len]; rfl) (fun w3 M3 => ?_))
 have M3b : Mem _ _ ([(some b, bc (dL rs (cnt + 1)) 250), _] ++ rs.map Row.e) _ := Mem.cells0 M3 (aAw hG.len)
 refine aB (aC (aD (aA (kC M3b rfl rfl (fun b4 w4 M4 => ?_)))))
 have M5 : Mem _ _ ([_, _, _] ++ _) _ := Mem.front (L := [_, _]) M4
 refine wq (aI (.map _) rfl) rfl (aB (aC (aD (aA (wq (bC 1 iT M5 rfl rfl rfl) rfl (bX bGa rfl rfl (aWl _ a ha) ?_))))))
 rintro v6 w6 ⟨r0, rfl, hR0, hM6⟩
 have M6 : Mem _ _ ([_, _, _, _] ++ _) _ := Mem.front (L := [_, _, _]) (M5.call0 hM6)
 have hcl : (gB a).length = r0.n := by simpa using hR0.1
 have hcb := aLq ha
 refine wq (cP Tryz.underlying281 rfl) rfl (aY rfl rfl (aB (aC (aS (dK (σ := Nat × List Row × dN) [0, 1, 6, 21, 22] (fun (i, rs1, em) => [(23, .int .i64 (i : Int))]) (fun (i, rs1, em) w' => (i ≤ r0.n ∧ GridRows 35 rs1 (rF g key (((gB a).map dP).take i)) ∧ iC .i64 Value.bool (pK (((gB a).map dP).take i)) (some b4) em) ∧ Mem w (bH ((some b, bc (dL rs cnt) 250) :: rs.map Row.e)) ([(some b, bc (dL rs1 (cnt + 1)) 250), (some b1, bc (cY a) 253), em, r0.e] ++ rs1.map Row.e) w') (fun (i, rs1, em) => r0.n - i) (0, rs, (some b4, .map #[] 0)) (bR rfl eZ) (⟨⟨by omega, by rw [List.take_zero, aSz]; exact hG, (iC.empty _ _ b4).congr (fun q => by rw [List.take_zero]; exact aQx q)⟩, M6⟩) ?_)))))
 rintro ⟨i, rs1, em⟩ ρ7 w7 ⟨⟨hi, hrs, hme⟩, hM7⟩
 refine aD (aA (dA rfl rfl rfl rfl (aB (aC (aD ?_)))))
 refine aZ rfl (fun h24 => ?_) (fun h24 => ?_)
 ·obtain ⟨xc, hxc⟩ := cI (xs := gB a) (k := i) hcl (by omega)
  have hbb : ((gB a).map dP)[i]? = some (dP xc) := by rw [List.getElem?_map, hxc]; rfl
  refine aK (aC (aD (aS (aD (aA (wq (bN (i) aTw rfl rfl rfl ((hR0.rd hM7 (aX (i := 3) rfl)).below_len (aJ cJ hxc)) ((hR0.rd hM7 (aX (i := 3) rfl)).someK (aJ cJ hxc))) rfl (wq (dC _ gT (hR0.rd hM7 (aX (i := 3) rfl)) (aJ cJ hxc) rfl) rfl ?_)))))))
  refine aQ oQ hM7 rfl rfl (fun b8 w8 M8 => ?_)
  have M9 : Mem _ _ ([_, _, _, _, _] ++ _) _ := Mem.front (L := [_, _, _, _]) M8
  refine bB 4 _ gT M9 rfl rfl rfl rfl rfl (aR rfl) rfl (fun w10 M10 => (aB (aC (aD (aA (wq (bC 4 gT M10 rfl rfl rfl) rfl (bX bGv rfl rfl (aGg _ (F.memY M10 hdF) xc) ?_)))))))
  rintro v11 w11 ⟨rfl, hb11⟩
  have M11 := M10.callB hb11
  refine bP rfl rfl (aB (aC (aD (aD (aA (wq (aG (.map _) rfl) rfl (aY rfl rfl (wq (jH (enc := Value.bool) false 2 aXn zv4 M11 rfl hme rfl rfl) rfl (aB (aC ?_))))))))))
  refine gR _ rfl (fun h31 => ?_) (fun h31 => ?_)
  ·refine cR (cZ (eQ (aC (aA (wq (bU rfl rfl (by omega) (by omega)) rfl (aY rfl rfl ?_))))))
   refine aB ?_
   refine cS (i + 1, rs1, em) (bR rfl eZ) (cV rfl (cV rfl (cV rfl (cV rfl (cV rfl jQ))))) ?_ ?_
   ·exact ⟨⟨by omega, by rw [aSt hbb (uM.1 h31)]; exact hrs, by rw [aRs hbb (uM.1 h31)]; exact hme⟩, Mem.keepL (L := [_, _, _, _, _]) [true, true, true, true, false] M11⟩
   ·(show r0.n - (i + 1) < r0.n - i; omega)
  ·have hnb : dP xc ∉ ((gB a).map dP).take i := fun h => by have h2 := uM.2 h; rw [h2] at h31; cases h31
   refine aK (aC (aD (aA (wq (aG (.map _) rfl) rfl (aY rfl rfl (iM (enc := Value.bool) 2 aXn M11 rfl rfl hme rfl rfl rfl rfl (fun e12 w12 hm12 M12 => (aB (aC (bO [(0, 0), (1, 0), (2, 0), (3, 0), (4, 0), (5, 0), (6, 0), (7, 1), (8, 0), (11, 0), (12, 0), (9, 2), (10, 2), (13, 0), (14, 2)] mixed rfl (by kernel_rfl) (fun w13 hb13 hh13 => ?_)))))))))))
   have M13 := M12.drew hb13 hh13
   refine aV rfl rfl rfl (fun _ => aG (.pointer _) rfl) (fV rfl rfl rfl (aV rfl rfl rfl (fun _ => aG (.pointer _) rfl) (fV rfl rfl rfl (aV rfl rfl rfl (fun _ => aO rfl) (aV rfl rfl rfl (fun _ => aE 0 yE rfl) ?_)))))
   refine aV rfl rfl rfl (fun _ => fF (dP xc) aKf rfl rfl rfl (jE xc)) ?_
   obtain ⟨rb, hrb⟩ := hrs.get (jE xc)
   have hrowb := hrs.row _ _ hrb
   have hgb : rF g key (((gB a).map dP).take i) (dP xc) = g (dP xc) := by unfold rF; rw [if_neg hnb]
   have hrn : (rF g key (((gB a).map dP).take i) (dP xc)).length = rb.n := by simpa using hrowb.1
   have hgl := hgl (dP xc) (jE xc)
   rw [hgb] at hrn
   have M14 : Mem _ _ ([_, _, _, _, _, _] ++ (rs1.eraseIdx (dP xc)).map Row.e) _ := Mem.pull (L := [_, _, _, _, _]) (rs := rs1) M13 hrb
   refine bV rfl rfl rfl (aL 0 (.slice _ _ _) aFd M14 rfl rfl (sI hrb)) (fV rfl rfl rfl (aV rfl rfl rfl (fun _ => aO rfl) (aV rfl rfl rfl (fun _ => aE 0 yE rfl) (dG [false] rfl (by kernel_rfl) (dB [.int _ _] [fG key] rfl aGq M14 rfl rfl rfl rfl (dI rfl) (by decide) (fun b15 w15 M15 => ?_))))))
   have M16 : Mem _ _ ([_, _, _, _, _, _, _] ++ _) _ := Mem.front (L := [_, _, _, _, _, _]) M15
   refine aB (aC ⟨(eF (bK rfl (aL 0 (.slice _ _ _) aFd M16 rfl rfl (sI hrb))) dH), ?_⟩)
   refine dG [true] rfl (by kernel_rfl) (eC 5 [fG key] aGq M16 rfl rfl rfl rfl rfl hrowb rfl (aJh _) (dD.ofMem 6 M16 rfl) (by omega) (fun A17 c17 e17 w17 M17 hR17 => ?_))
   refine aB (aC ⟨dH, ?_⟩)
   refine aV rfl rfl rfl (fun _ => fF (dP xc) aKf rfl rfl rfl (jE xc)) (dG [] rfl (by kernel_rfl) (dX 0 (.slice _ _ _) aFd M17 rfl rfl rfl rfl rfl (by rw [sI hrb]; rfl) (fun w18 M18 => ?_)))
   have M18b : Mem _ _ ([(some b, bc (dL (rs1.set (dP xc) (⟨A17, rb.n + 1, c17, e17⟩ : Row)) (cnt + 1)) 250), _, _, _, _, _, _] ++ (rs1.eraseIdx (dP xc)).map Row.e) _ := Mem.cells0 M18 (aBb (⟨A17, rb.n + 1, c17, e17⟩ : Row) (by rw [hrs.len]; exact jE xc))
   refine aB (aC ⟨dH, ?_⟩)
   refine cD (dE (aC (aA (wq (bU rfl rfl (by omega) (by omega)) rfl (aY rfl rfl (aB ?_))))))
   refine cS (i + 1, rs1.set (dP xc) (⟨A17, rb.n + 1, c17, e17⟩ : Row), e12) (bR rfl eZ) (cV rfl (cV rfl (cV rfl (cV rfl (cV rfl jQ))))) ?_ ?_
   ·exact ⟨⟨by omega, by rw [aXu hbb hnb]; exact hrs.put (r := (⟨A17, rb.n + 1, c17, e17⟩ : Row)) (jE xc) (by simpa using hR17), hm12.congr (fun q => aBr hbb q)⟩, Mem.push (L := [_, _, _, _]) (rs := rs1) (⟨A17, rb.n + 1, c17, e17⟩ : Row) (Mem.keepL (L := [_, _, _, _, _, _, _]) [true, true, true, true, false, true, false] M18b) (by rw [hrs.len]; exact jE xc)⟩
   ·(show r0.n - (i + 1) < r0.n - i; omega)
 ·have hin : i = r0.n := by omega
  rw [List.take_of_length_le (by simp; omega)] at hrs
  refine cR (cZ (cX (eQ (iV ?_))))
  exact ⟨rfl, rs1, hrs, Mem.keepL (L := [_, _, _, _]) [true, false, false, false] hM7⟩
end Go.Proofs.YtaoaknafiegfoaaGreatDoor
