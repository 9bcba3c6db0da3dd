/- Part of the proof of the laws of this seat: B8, C9, G10. No conditions. -/
import Derived.Test.YtlmcphcgiclanaaGreatDoorK2
import Derived.Test.YtlmcphcgiclanaaGreatDoorK5
import Derived.Test.YtlmcphcgiclanaaGreatDoorK6
import Derived.Test.YtlmcphcgiclanaaGreatDoorK11
import Derived.Test.YtlmcphcgiclanaaGreatDoorK15
set_option linter.unusedVariables false
set_option linter.unusedSimpArgs false
set_option linter.unnecessarySimpa false
namespace Go.Proofs.YtlmcphcgiclanaaGreatDoor
open Go.Bil
open Go.RowKit (Below)
open Go.Proofs
set_option maxHeartbeats 4000000 in
theorem aKi (w : World) (x : Int) (h0 : -2147483647 ≤ x) (h1 : x ≤ 2147483647) :
  Calls Tryz.prog 215 #[.int .i32 x] w (fun ex w' => ∃ v, ex = .returned v ∧ (fun v w' => v = .int .i32 (max x (-x)) ∧ Below w.heap.size w w') v w') := by
 refine aI #[.tmp 2] 7 Tryz.func215 rfl Tryz.results215 Tryz.ntmps215 rfl ?_
 have M0 := Mem.refl w
 refine aE (aA (bC rfl rfl (aB (aC (aE (aA (aO rfl rfl (aO rfl rfl (wq (pG rfl (iP _ (by omega) (by omega))) rfl ?_)))))))))
 refine wq (pE rfl rfl ) rfl (bC rfl rfl (aB (aC (aP (cE (.int _ _) rfl ?_)))))
 exact ⟨iE (by omega), M0.below⟩
set_option maxHeartbeats 4000000 in
theorem aKv (w : World) (b : Body) (hb : Okb b) :
  Calls Tryz.prog 190 #[(.agg (aF b).toArray)] w (fun ex w' => ∃ v, ex = .returned v ∧ (fun v w' => v = .tuple #[.int .i32 (aMz b), .int .i32 (aNv b)] ∧ Below w.heap.size w w') v w') := by
 have hr := hb.r
 have ha := hb.a
 have hp := hb.p
 refine aI #[.tmp 2, .tmp 3] 18 Tryz.func190 rfl Tryz.results190 Tryz.ntmps190 rfl ?_
 have M0 := Mem.refl w
 refine aE (aA (bP (.agg (List.toArray _)) M0 rfl rfl rfl (fun b1 w1 M1 => (bC rfl rfl (bC rfl rfl (aB (aC (aE (bR [(0, 0), (1, 0), (2, 1), (4, 0), (5, 1), (7, 0), (8, 0), (9, 1), (11, 0), (12, 1), (3, 2), (6, 0), (10, 2), (13, 0), (14, 0), (15, 0)] mixed rfl (by kernel_rfl) (fun w2 hb2 hh2 => ?_))))))))))
 have M2 := M1.drew hb2 hh2
 refine aX rfl rfl rfl (fun _ => aD 2 iH rfl) (aX rfl rfl rfl (fun _ => aD 0 cQ rfl) (bV rfl rfl rfl (aM 0 (.int _ _) aR M2 rfl rfl rfl) (aX rfl rfl rfl (fun _ => aD 1 kT rfl) (bV rfl rfl rfl (aM 0 (.int _ _) aR M2 rfl rfl rfl) (aX rfl rfl rfl (fun _ => aD 2 iH rfl) ?_)))))
 refine aX rfl rfl rfl (fun _ => aD 1 cK rfl) (bV rfl rfl rfl (aM 0 (.int _ _) aR M2 rfl rfl rfl) (aX rfl rfl rfl (fun _ => aD 1 kT rfl) (bV rfl rfl rfl (aM 0 (.int _ _) aR M2 rfl rfl rfl) (dS [false, false, false, true] rfl (by kernel_rfl) (bZ aVs rfl rfl (aKi _ _ (by omega) (by omega)) ?_)))))
 rintro v3 w3 ⟨rfl, hb3⟩
 have M3 := M2.callB hb3
 refine aB (aC ⟨(eD (bL rfl (aM 0 (.int _ _) aR M3 rfl rfl rfl)) (eD (bL rfl (aM 0 (.int _ _) aR M3 rfl rfl rfl)) (eD (bL rfl (aM 0 (.int _ _) aR M3 rfl rfl rfl)) dT))), ?_⟩)
 refine aX rfl rfl rfl (fun _ => iO rfl rfl (iP _ (by omega) (by omega))) (dS [false, true, false] rfl (by kernel_rfl) (bZ aVs rfl rfl (aKi _ _ (by omega) (by omega)) ?_))
 rintro v4 w4 ⟨rfl, hb4⟩
 have M4 := M3.callB hb4
 refine aB (aC ⟨(eD (bL rfl (aM 0 (.int _ _) aR M4 rfl rfl rfl)) (eD (bL rfl (aM 0 (.int _ _) aR M4 rfl rfl rfl)) dT)), ?_⟩)
 refine aX rfl rfl rfl (fun _ => iO rfl rfl (iP _ (by omega) (by omega))) (lM rfl rfl rfl (lM rfl rfl rfl (bY (aC (aP (gA (.int _ _) (.int _ _) rfl rfl ?_))))))
 exact ⟨rfl, M4.below⟩
set_option maxHeartbeats 4000000 in
theorem bIe (w : World) (b : Body) (hb : Okb b) :
  Calls Tryz.prog 160 #[(.agg (aF b).toArray)] w (fun ex w' => ∃ v, ex = .returned v ∧ (fun v w' => v = (.agg (eQ (gG b)).toArray) ∧ Below w.heap.size w w') v w') := by
 have hr := hb.r
 have ha := hb.a
 have hp := hb.p
 have he := aXt hb
 refine aI #[.cell 2 193] 31 Tryz.func160 rfl Tryz.results160 Tryz.ntmps160 rfl ?_
 have M0 := Mem.refl w
 refine aE (aA (bP (.agg (List.toArray _)) M0 rfl rfl rfl (fun b1 w1 M1 => (aV aHn M1 rfl rfl (fun b2 w2 M2 => (aB (aC (aE (aA (wq (aU 0 bK M2 rfl rfl rfl) rfl (bZ bHp rfl rfl (aKv _ b hb) ?_)))))))))))
 rintro v3 w3 ⟨rfl, hb3⟩
 have M3 := M2.callB hb3
 refine wq (aH (.tuple (List.toArray _)) rfl) rfl (wq (bO (.int _ _) rfl rfl) rfl (wq (bO (.int _ _) rfl rfl) rfl (bC rfl rfl (bC rfl rfl (aB (aC (aE (aA ?_))))))))
 refine wq (aD 6 fD rfl) rfl (wq (aD 0 cQ rfl) rfl (wq (aM 0 (.int _ _) aR M3 rfl rfl rfl) rfl (aO rfl rfl (wq (mB rfl rfl (iP _ (by omega) (by omega))) rfl (wq (aD 6 fD rfl) rfl ?_)))))
 refine wq (aD 1 cK rfl) rfl (wq (aM 0 (.int _ _) aR M3 rfl rfl rfl) rfl (aO rfl rfl (wq (mB rfl rfl (iP _ (by omega) (by omega))) rfl (wq (aD 6 fD rfl) rfl (wq (aD 0 cQ rfl) rfl ?_)))))
 refine wq (aM 0 (.int _ _) aR M3 rfl rfl rfl) rfl (aO rfl rfl (wq (iO rfl rfl (iP _ (by omega) (by omega))) rfl (wq (aD 6 fD rfl) rfl (wq (aD 1 cK rfl) rfl (wq (aM 0 (.int _ _) aR M3 rfl rfl rfl) rfl ?_)))))
 refine aO rfl rfl (wq (iO rfl rfl (iP _ (by omega) (by omega))) rfl (wq (cP [(0, .int _ _), (1, .int _ _), (2, .int _ _), (3, .int _ _)] _ aGx rfl rfl) rfl (bG 1 _ kJ M3 rfl rfl rfl rfl rfl (aT rfl) rfl (fun w4 M4 => (aB (aC (aP (eX 1 kJ M4 rfl rfl rfl ?_))))))))
 exact ⟨rfl, M4.below⟩
set_option maxHeartbeats 4000000 in
theorem xM (w : World) (a : Bx) :
  Calls Tryz.prog 192 #[(.agg (eQ a).toArray)] w (fun ex w' => ∃ v, ex = .returned v ∧ (fun v w' => v = .bool (decide (jC a)) ∧ Below w.heap.size w w') v w') := by
 refine aI #[.tmp 2] 15 Tryz.func192 rfl Tryz.results192 Tryz.ntmps192 rfl ?_
 have M0 := Mem.refl w
 refine aE (aA (bP (.agg (List.toArray _)) M0 rfl rfl rfl (fun b1 w1 M1 => (wq (aJ (.bool false) rfl) rfl (aB (aC (aE (aA (wq (aD 0 vG rfl) rfl (wq (aM 0 (.int _ _) aR M1 rfl rfl rfl) rfl ?_))))))))))
 refine wq (aD 2 wP rfl) rfl (wq (aM 0 (.int _ _) aR M1 rfl rfl rfl) rfl (cX rfl rfl rfl rfl (wq (aH (.bool (decide _)) rfl) rfl ?_)))
 refine dI 8 rfl (fun g8 => ?_) (fun g8 => ?_)
 ·refine aN rfl rfl (aN rfl rfl (aN rfl rfl (aN rfl rfl (aN rfl rfl (wq (bM true (.bool true) rfl rfl) rfl ?_)))))
  refine wq (aJ (.bool true) rfl) rfl (aB (aC (aP (cE (.bool true) rfl ?_))))
  exact ⟨by unfold jC; first | exact bT (by omega) | exact bD (by omega), M1.below⟩
 ·refine wq (aD 1 vW rfl) rfl (wq (aM 0 (.int _ _) aR M1 rfl rfl rfl) rfl (wq (aD 3 wU rfl) rfl (wq (aM 0 (.int _ _) aR M1 rfl rfl rfl) rfl (cX rfl rfl rfl rfl (wq (bM false (.bool (decide _)) rfl rfl) rfl ?_)))))
  refine wq (aJ (.bool (decide _)) rfl) rfl (aB (aC (aP (cE (.bool (decide _)) rfl ?_))))
  exact ⟨by unfold jC; first | exact bT (by omega) | exact bD (by omega), M1.below⟩
set_option maxHeartbeats 4000000 in
theorem bAx (w : World) (N : Rd w 4 (some ⟨3, 0, none⟩) 1 [eQ lG]) (a b : Bx) :
  Calls Tryz.prog 193 #[(.agg (eQ a).toArray), (.agg (eQ b).toArray)] w (fun ex w' => ∃ v, ex = .returned v ∧ (fun v w' => v = (.agg (eQ (aGt a b)).toArray) ∧ Below w.heap.size w w') v w') := by
 refine aI #[.cell 4 193] 31 Tryz.func193 rfl Tryz.results193 Tryz.ntmps193 rfl ?_
 have M0 := Mem.refl w
 refine aE (aA (bP (.agg (List.toArray _)) M0 rfl rfl rfl (fun b1 w1 M1 => (bP (.agg (List.toArray _)) M1 rfl rfl rfl (fun b2 w2 M2 => (aV aHn M2 rfl rfl (fun b3 w3 M3 => (aB (aC (aE (aA (wq (aD 0 vG rfl) rfl ?_))))))))))))
 refine wq (aM 0 (.int _ _) aR M3 rfl rfl rfl) rfl (wq (aD 0 vG rfl) rfl (wq (aM 1 (.int _ _) aR M3 rfl rfl rfl) rfl (wq (pE rfl rfl ) rfl (wq (aD 1 vW rfl) rfl (wq (aM 0 (.int _ _) aR M3 rfl rfl rfl) rfl ?_)))))
 refine wq (aD 1 vW rfl) rfl (wq (aM 1 (.int _ _) aR M3 rfl rfl rfl) rfl (wq (pE rfl rfl ) rfl (wq (aD 2 wP rfl) rfl (wq (aM 0 (.int _ _) aR M3 rfl rfl rfl) rfl (wq (aD 2 wP rfl) rfl ?_)))))
 refine wq (aM 1 (.int _ _) aR M3 rfl rfl rfl) rfl (wq (aBx rfl rfl ) rfl (wq (aD 3 wU rfl) rfl (wq (aM 0 (.int _ _) aR M3 rfl rfl rfl) rfl (wq (aD 3 wU rfl) rfl (wq (aM 1 (.int _ _) aR M3 rfl rfl rfl) rfl ?_)))))
 refine wq (aBx rfl rfl ) rfl (wq (cP [(0, .int _ _), (1, .int _ _), (2, .int _ _), (3, .int _ _)] _ aGx rfl rfl) rfl (aV aHn M3 rfl rfl (fun b4 w4 M4 => (bG 3 _ kJ M4 rfl rfl rfl rfl rfl (aT rfl) rfl (fun w5 M5 => (aB (aC (aE (aE (aA (wq (aU 3 kJ M5 rfl rfl rfl) rfl ?_)))))))))))
 refine bZ aOn rfl rfl (xM _ ⟨max a.x0 b.x0, max a.y0 b.y0, min a.x1 b.x1, min a.y1 b.y1⟩) ?_
 rintro v6 w6 ⟨rfl, hb6⟩
 have M6 := M5.callB hb6
 refine aB (aC ?_)
 refine aS rfl (fun h28 => ?_) (fun h28 => ?_)
 ·refine aE (aA (wq (aBe (k := 0) (o := 0) _ kJ (N.mem M6) (show ([eQ lG] : List (List Value))[0]? = some (eQ lG) from rfl) rfl rfl rfl) rfl (bG 2 _ kJ M6 rfl rfl rfl rfl rfl (aT rfl) rfl (fun w7 M7 => (aB (aC (aP (cH (eX 2 kJ M7 rfl rfl rfl ?_)))))))))
  exact ⟨by unfold aGt; rw [if_pos h28]; rfl, M7.below⟩
 ·refine aL (aC (aE (aA (wq (aU 3 kJ M6 rfl rfl rfl) rfl (bG 2 _ kJ M6 rfl rfl rfl rfl rfl (aT rfl) rfl (fun w8 M8 => (aB (aC (aP (eX 2 kJ M8 rfl rfl rfl ?_))))))))))
  exact ⟨by unfold aGt; rw [if_neg h28]; rfl, M8.below⟩
set_option maxHeartbeats 4000000 in
theorem aKo (w : World) (N : Rd w 4 (some ⟨3, 0, none⟩) 1 [eQ lG]) (a b : Bx) :
  Calls Tryz.prog 164 #[(.agg (eQ a).toArray), (.agg (eQ b).toArray)] w (fun ex w' => ∃ v, ex = .returned v ∧ (fun v w' => v = .bool (decide (ovl a b)) ∧ Below w.heap.size w w') v w') := by
 refine aI #[.tmp 4] 10 Tryz.func164 rfl Tryz.results164 Tryz.ntmps164 rfl ?_
 have M0 := Mem.refl w
 refine aE (aA (bP (.agg (List.toArray _)) M0 rfl rfl rfl (fun b1 w1 M1 => (bP (.agg (List.toArray _)) M1 rfl rfl rfl (fun b2 w2 M2 => (wq (aJ (.bool false) rfl) rfl (aB (aC (aE (aA (wq (aU 0 kJ M2 rfl rfl rfl) rfl ?_)))))))))))
 refine wq (aU 1 kJ M2 rfl rfl rfl) rfl (bZ bGg rfl rfl (bAx _ (N.mem M2) a b) ?_)
 rintro v3 w3 ⟨rfl, hb3⟩
 have M3 := M2.callB hb3
 refine bZ aOn rfl rfl (xM _ (aGt a b)) ?_
 rintro v4 w4 ⟨rfl, hb4⟩
 have M4 := M3.callB hb4
 refine wq (nK rfl) rfl (wq (aJ (.bool (decide _)) rfl) rfl (aB (aC (aP (cE (.bool (decide _)) rfl ?_)))))
 exact ⟨bD (aZj a b), M4.below⟩
set_option maxHeartbeats 4000000 in
theorem aQt (w : World) (x y : Int) :
  Calls Tryz.prog 229 #[.agg [.int .i32 x, .int .i32 y].toArray] w (fun ex w' => ∃ v, ex = .returned v ∧ (fun v w' => v = (.agg (dM (oA x, oA y)).toArray) ∧ Below w.heap.size w w') v w') := by
 refine aI #[.cell 2 226] 10 Tryz.func229 rfl Tryz.results229 Tryz.ntmps229 rfl ?_
 have M0 := Mem.refl w
 refine aE (aA (bP (.agg (List.toArray _)) M0 rfl rfl rfl (fun b1 w1 M1 => (aV qG M1 rfl rfl (fun b2 w2 M2 => (aB (aC (aE (aA (wq (aD 0 cQ rfl) rfl (wq (aM 0 (.int _ _) aR M2 rfl rfl rfl) rfl ?_)))))))))))
 refine wq (jH rfl rfl (by decide)) rfl (aK 5 (.int .i32 (oA x)) (iE (bEn x)) (wq (aD 1 cK rfl) rfl (wq (aM 0 (.int _ _) aR M2 rfl rfl rfl) rfl (wq (jH rfl rfl (by decide)) rfl (aK 8 (.int .i32 (oA y)) (iE (bEn y)) ?_)))))
 refine wq (cP [(0, .int _ _), (1, .int _ _)] _ aGn rfl rfl) rfl (bG 1 _ jN M2 rfl rfl rfl rfl rfl (aT rfl) rfl (fun w3 M3 => (aB (aC (aP (eX 1 jN M3 rfl rfl rfl ?_))))))
 exact ⟨rfl, M3.below⟩
set_option maxHeartbeats 4000000 in
theorem aTx (w : World) (a : Bx) :
  Calls Tryz.prog 216 #[(.agg (eQ a).toArray)] w (fun ex w' => ∃ v, ex = .returned v ∧ (fun v w' => v = .tuple #[(.agg (dM (loC a)).toArray), (.agg (dM (hiC a)).toArray), .bool (decide (¬ jC a))] ∧ Below w.heap.size w w') v w') := by
 refine aI #[.cell 2 226, .cell 3 226, .tmp 4] 21 Tryz.func216 rfl Tryz.results216 Tryz.ntmps216 rfl ?_
 have M0 := Mem.refl w
 refine aE (aA (bP (.agg (List.toArray _)) M0 rfl rfl rfl (fun b1 w1 M1 => (aV qG M1 rfl rfl (fun b2 w2 M2 => (aV qG M2 rfl rfl (fun b3 w3 M3 => (wq (aJ (.bool false) rfl) rfl (aB (aC (aE (aE (aA ?_)))))))))))))
 refine wq (aU 0 kJ M3 rfl rfl rfl) rfl (bZ aOn rfl rfl (xM _ a) ?_)
 rintro v4 w4 ⟨rfl, hb4⟩
 have M4 := M3.callB hb4
 refine aB (aC ?_)
 refine aS rfl (fun h6 => ?_) (fun h6 => ?_)
 ·refine aE (bR [(0, 1), (1, 1), (2, 2), (3, 2), (4, 0)] mixed rfl (by kernel_rfl) (fun w5 hb5 hh5 => ?_))
  have M5 := M4.drew hb5 hh5
  refine bV rfl rfl rfl (aU 1 jN M5 rfl rfl rfl) (bV rfl rfl rfl (aU 2 jN M5 rfl rfl rfl) (dS [false, true] rfl (by kernel_rfl) (bG 1 _ jN M5 rfl rfl rfl rfl rfl (aT rfl) rfl (fun w6 M6 => ?_))))
  refine aB (aC ⟨(eD (bL rfl (aU 2 jN M6 rfl rfl rfl)) dT), ?_⟩)
  refine dS [true] rfl (by kernel_rfl) (bG 2 _ jN M6 rfl rfl rfl rfl rfl (aT rfl) rfl (fun w7 M7 => ?_))
  refine aB (aC ⟨dT, ?_⟩)
  refine aX rfl rfl rfl (fun _ => aJ (.bool false) rfl) (bY (aC (aP (cH (bFm (v3 := .bool false) 1 2 jN M7 rfl rfl rfl rfl rfl rfl rfl ?_)))))
  exact ⟨by unfold loC hiC; rw [if_pos h6, if_pos h6, decide_eq_false (fun h => h h6)]; rfl, M7.below⟩
 ·refine aL (aC (aE (bR [(0, 0), (1, 1), (2, 0), (3, 1), (4, 0), (6, 0), (7, 1), (8, 0), (9, 1), (10, 0), (5, 2), (11, 2), (12, 2), (13, 2), (14, 0)] mixed rfl (by kernel_rfl) (fun w8 hb8 hh8 => ?_))))
  have M8 := M4.drew hb8 hh8
  refine aX rfl rfl rfl (fun _ => aD 0 vG rfl) (bV rfl rfl rfl (aM 0 (.int _ _) aR M8 rfl rfl rfl) (aX rfl rfl rfl (fun _ => aD 1 vW rfl) (bV rfl rfl rfl (aM 0 (.int _ _) aR M8 rfl rfl rfl) (aX rfl rfl rfl (fun _ => cP [(0, .int _ _), (1, .int _ _)] _ eG rfl rfl) ?_))))
  refine aX rfl rfl rfl (fun _ => aD 2 wP rfl) (bV rfl rfl rfl (aM 0 (.int _ _) aR M8 rfl rfl rfl) (aX rfl rfl rfl (fun _ => aD 3 wU rfl) (bV rfl rfl rfl (aM 0 (.int _ _) aR M8 rfl rfl rfl) (aX rfl rfl rfl (fun _ => cP [(0, .int _ _), (1, .int _ _)] _ eG rfl rfl) ?_))))
  refine dS [false, false, true, true] rfl (by kernel_rfl) (bZ bAc rfl rfl (aQt _ a.x0 a.y0) ?_)
  rintro v9 w9 ⟨rfl, hb9⟩
  have M9 := M8.callB hb9
  refine aB (aC ⟨(eD (bL rfl (aM 0 (.int _ _) aR M9 rfl rfl rfl)) (eD (bL rfl (aM 0 (.int _ _) aR M9 rfl rfl rfl)) dT)), ?_⟩)
  refine dS [true, true] rfl (by kernel_rfl) (bZ bAc rfl rfl (aQt _ a.x1 a.y1) ?_)
  rintro v10 w10 ⟨rfl, hb10⟩
  have M10 := M9.callB hb10
  refine aB (aC ⟨dT, ?_⟩)
  refine dS [] rfl (by kernel_rfl) (bG 1 _ jN M10 rfl rfl rfl rfl rfl (aT rfl) rfl (fun w11 M11 => ?_))
  refine aB (aC ⟨dT, ?_⟩)
  refine dS [] rfl (by kernel_rfl) (bG 2 _ jN M11 rfl rfl rfl rfl rfl (aT rfl) rfl (fun w12 M12 => ?_))
  refine aB (aC ⟨dT, ?_⟩)
  refine aX rfl rfl rfl (fun _ => aJ (.bool true) rfl) (bY (aC (aP (bFm (v3 := .bool true) 1 2 jN M12 rfl rfl rfl rfl rfl rfl rfl ?_))))
  exact ⟨by unfold loC hiC; rw [if_neg h6, if_neg h6, decide_eq_true h6], M12.below⟩
set_option maxHeartbeats 4000000 in
theorem aOk (w : World) (a : Bx) :
  Calls Tryz.prog 191 #[(.agg (eQ a).toArray)] w (fun ex w' => ∃ v, ex = .returned v ∧ (fun v w' => ∃ b1 b2 b3, v = .func (.func 217) #[] #[.pointer (some ⟨b1, 0, none⟩), .pointer (some ⟨b2, 0, none⟩), .pointer (some ⟨b3, 0, none⟩)] ∧ Mem w [] [(some b1, bc (dM (loC a)) 226), (some b3, bc (dM (hiC a)) 226), (some b2, bc [.bool (decide (¬ jC a))] 4)] w') v w') := by
 refine aI #[.tmp 2] 13 Tryz.func191 rfl Tryz.results191 Tryz.ntmps191 rfl ?_
 have M0 := Mem.refl w
 refine aE (aA (bP (.agg (List.toArray _)) M0 rfl rfl rfl (fun b1 w1 M1 => (wq (aJ (_) rfl) rfl (aB (aC (aE (aA (wq (aU 0 kJ M1 rfl rfl rfl) rfl (bZ bHz rfl rfl (aTx _ a) ?_))))))))))
 rintro v2 w2 ⟨rfl, hb2⟩
 have M2 := M1.callB hb2
 refine wq (aH (.tuple (List.toArray _)) rfl) rfl (wq (bO (.agg (List.toArray _)) rfl rfl) rfl (wq (bO (.agg (List.toArray _)) rfl rfl) rfl (wq (bO (.bool (decide _)) rfl rfl) rfl (aV qG M2 rfl rfl (fun b3 w3 M3 => (aV qG M3 rfl rfl (fun b4 w4 M4 => ?_)))))))
 refine aV aRy M4 rfl rfl (fun b5 w5 M5 => (bG 1 _ jN M5 rfl rfl rfl rfl rfl (aT rfl) rfl (fun w6 M6 => (bG 2 _ jN M6 rfl rfl rfl rfl rfl (aT rfl) rfl (fun w7 M7 => (cZ 3 (.bool (decide _)) oL M7 rfl rfl rfl rfl rfl rfl (fun w8 M8 => (aB (aC (aE (aA (wq (dU [] [.pointer _, .pointer _, .pointer _] rfl rfl) rfl ?_))))))))))))
 refine wq (aJ (.func _ _ _) rfl) rfl (aB (aC (aP (cE (.func _ _ _) rfl ?_))))
 exact ⟨b3, b5, b4, rfl, M8.keep [false, true, true, true]⟩
set_option maxHeartbeats 4000000 in
theorem aKt (w : World) (lo hi : Int × Int) (ok : Bool) (b1 b2 b3 : Nat) (L1 : Rd w 2 (some ⟨b1, 0, none⟩) 1 [dM lo]) (L2 : Rd w 1 (some ⟨b2, 0, none⟩) 1 [[.bool ok]]) (L3 : Rd w 2 (some ⟨b3, 0, none⟩) 1 [dM hi]) (hlo : Okc lo) (hhi : Okc hi) (lp ob : Nat) (rec : Loop) (hY : wR Tryz.prog lp ob rec 224 226 2 1048576 (fun x => ∃ a b, x = [.int .i32 a, .int .i32 b])) (r0 : Row) (hr0 : bH 226 2 r0.A r0.n r0.c [] r0.e) (hO : Own [(some lp, .loop rec), (some ob, bc [.slice r0.A r0.n r0.c] 224), r0.e] w) (hd1 : 0 < 1 → ∀ q off, (some ⟨b1, 0, none⟩ : Option Addr) = some ⟨q, off, none⟩ → q ∉ cY [(some lp, .loop rec), (some ob, bc [.slice r0.A r0.n r0.c] 224), r0.e]) (hd2 : 0 < 1 → ∀ q off, (some ⟨b2, 0, none⟩ : Option Addr) = some ⟨q, off, none⟩ → q ∉ cY [(some lp, .loop rec), (some ob, bc [.slice r0.A r0.n r0.c] 224), r0.e]) (hd3 : 0 < 1 → ∀ q off, (some ⟨b3, 0, none⟩ : Option Addr) = some ⟨q, off, none⟩ → q ∉ cY [(some lp, .loop rec), (some ob, bc [.slice r0.A r0.n r0.c] 224), r0.e]) :
  Calls Tryz.prog 217 #[.func (.yield lp) #[] #[], .pointer (some ⟨b1, 0, none⟩), .pointer (some ⟨b2, 0, none⟩), .pointer (some ⟨b3, 0, none⟩)] w (fun ex w' => ∃ v, ex = .returned v ∧ (fun v w' => v = .tuple #[] ∧ ∃ r : Row, bH 226 2 r.A r.n r.c ((xX ok lo hi).map dM) r.e ∧ Mem w (cY [(some lp, .loop rec), (some ob, bc [.slice r0.A r0.n r0.c] 224), r0.e]) [(some lp, .loop rec), (some ob, bc [.slice r.A r.n r.c] 224), r.e] w') v w') := by
 rw [← gJ b1, ← gJ b2, ← gJ b3]
 have hxd : nX lo hi = (hi.1 - lo.1 + 1).toNat := rfl
 have hyd : nY lo hi = (hi.2 - lo.2 + 1).toNat := rfl
 have hlx := hlo.x
 have hly := hlo.y
 have hhx := hhi.x
 have hhy := hhi.y
 have hnx := bFt hlo hhi
 have hny := bEv hlo hhi
 refine aI #[] 32 Tryz.func217 rfl Tryz.results217 Tryz.ntmps217 rfl ?_
 have M0 := hO.mem
 refine aE (aA (wq (bE 1 aBp (L1.memY M0 hd1) (Nat.lt_of_le_of_lt (Nat.zero_le _) ((L1.memY M0 hd1).below_len (show ([dM lo] : List (List Value))[0]? = some (dM lo) from rfl))) rfl) rfl (wq (dV (o := 1) (.int _ _) aR (L1.memY M0 hd1) (show ([dM lo] : List (List Value))[0]? = some (dM lo) from rfl) rfl rfl) rfl ?_)))
 refine bC rfl rfl (aB (aC (aQ (dQ (σ := Nat × Row) [0, 1, 2, 3] (fun (j, r) => [(5, .int .i32 (lo.2 + (j : Int)))]) (fun (j, r) w' => (j ≤ nY lo hi ∧ (ok = false → j = 0) ∧ bH 226 2 r.A r.n r.c ((oU lo hi j).map dM) r.e) ∧ Mem w (cY [(some lp, .loop rec), (some ob, bc [.slice r0.A r0.n r0.c] 224), r0.e]) [(some lp, .loop rec), (some ob, bc [.slice r.A r.n r.c] 224), r.e] w') (fun (j, r) => nY lo hi - j) (0, r0) (bA (iv rfl (by simp)) dX) (⟨⟨by omega, fun _ => rfl, hr0⟩, M0⟩) ?_))))
 rintro ⟨j, r⟩ ρ1 w1 ⟨⟨hj, hjz, hr⟩, hM1⟩
 refine aE (aE (aA (wq (dV (o := 0) (.bool _) oL (L2.memY hM1 hd2) (show ([[.bool ok]] : List (List Value))[0]? = some ([.bool ok]) from rfl) rfl rfl) rfl (wq (aH (.bool _) rfl) rfl ?_))))
 refine jI 10 _ rfl (fun g10 => ?_) (fun g10 => ?_)
 ·refine aO rfl rfl (wq (bE 1 aBp (L3.memY hM1 hd3) (Nat.lt_of_le_of_lt (Nat.zero_le _) ((L3.memY hM1 hd3).below_len (show ([dM hi] : List (List Value))[0]? = some (dM hi) from rfl))) rfl) rfl (wq (dV (o := 1) (.int _ _) aR (L3.memY hM1 hd3) (show ([dM hi] : List (List Value))[0]? = some (dM hi) from rfl) rfl rfl) rfl ?_))
  refine cX rfl rfl rfl rfl (wq (bM true (.bool (decide _)) rfl rfl) rfl (aB (aC ?_)))
  refine aS rfl (fun h15 => ?_) (fun h15 => ?_)
  ·refine aL (aC (aE (aQ (aE (aA (wq (bE 0 aDc (L1.memY hM1 hd1) (Nat.lt_of_le_of_lt (Nat.zero_le _) ((L1.memY hM1 hd1).below_len (show ([dM lo] : List (List Value))[0]? = some (dM lo) from rfl))) rfl) rfl (wq (dV (o := 0) (.int _ _) aR (L1.memY hM1 hd1) (show ([dM lo] : List (List Value))[0]? = some (dM lo) from rfl) rfl rfl) rfl ?_)))))))
   refine bC rfl rfl (aB (aC (aQ (dQ (σ := Nat × Row) [0, 1, 2, 3, 5] (fun (i, q0) => [(6, .int .i32 (lo.1 + (i : Int)))]) (fun (i, q0) w' => (i ≤ nX lo hi ∧ bH 226 2 q0.A q0.n q0.c ((oU lo hi j ++ aBh lo i j).map dM) q0.e) ∧ Mem w (cY [(some lp, .loop rec), (some ob, bc [.slice r0.A r0.n r0.c] 224), r0.e]) [(some lp, .loop rec), (some ob, bc [.slice q0.A q0.n q0.c] 224), q0.e] w') (fun (i, q0) => nX lo hi - i) (0, r) (bA (iv rfl (by simp)) dX) (⟨⟨by omega, by simpa [aBh] using hr⟩, hM1⟩) ?_))))
   rintro ⟨i, q0⟩ ρ2 w2 ⟨⟨hi2, hq0⟩, hM2⟩
   have hql : (oU lo hi j).length + i = q0.n := by simpa [aLr] using hq0.1
   refine aE (aE (aA (aO rfl rfl (wq (bE 0 aDc (L3.memY hM2 hd3) (Nat.lt_of_le_of_lt (Nat.zero_le _) ((L3.memY hM2 hd3).below_len (show ([dM hi] : List (List Value))[0]? = some (dM hi) from rfl))) rfl) rfl (wq (dV (o := 0) (.int _ _) aR (L3.memY hM2 hd3) (show ([dM hi] : List (List Value))[0]? = some (dM hi) from rfl) rfl rfl) rfl ?_)))))
   refine cX rfl rfl rfl rfl (aB (aC ?_))
   refine aS rfl (fun h23 => ?_) (fun h23 => ?_)
   ·have hlt6 := aZo (lo := lo) (hi := hi) (i := i) (j := j) hnx (by omega) (by omega)
    refine aL (aC (aE (aQ (aE (aFm (aGy (aH (.func _ _ _) rfl) rfl rfl (aGy (aH (.int _ _) rfl) rfl rfl (aGy (aH (.int _ _) rfl) rfl rfl (aGy (cP [(0, .int _ _), (1, .int _ _)] _ aGn rfl rfl) rfl rfl ?_)))))))))
    obtain ⟨fy, ty, ay, by1, hy1, hy2⟩ := hY _ q0 ((oU lo hi j ++ aBh lo i j).map dM) (dM (lo.1 + (i : Int), lo.2 + (j : Int))) ⟨_, _, rfl⟩ (by omega) hq0 (hM2.ownSeg 0 3)
    refine aFq rfl rfl rfl rfl hy1 (hy2.mono ?_)
    rintro _ w3 ⟨rfl, q3, hqn3, hq3, hM3⟩
    have M3 : Mem _ _ [_, _, _] _ := hM2.seg 0 3 hM3
    refine ⟨_, rfl, ?_⟩
    refine aYx rfl (fun _ _ h => h) (wq (iD false rfl rfl) rfl (aB (aC (cM rfl (aL (cO ?_))))))
    refine aC (aA (aO rfl rfl (wq (iO rfl rfl (iP _ (by omega) (by omega))) rfl (bC rfl rfl (aB ?_)))))
    refine cD (i + 1, q3) (bA (iv rfl (by omega)) dX) (cL rfl (cL rfl (cL rfl (cL rfl (cL rfl gO))))) ?_ ?_
    ·exact ⟨⟨by omega, by rw [aUk, ← List.append_assoc, List.map_append]; exact hq3⟩, M3⟩
    ·(show nX lo hi - (i + 1) < nX lo hi - i; omega)
   ·have hix : i = nX lo hi := by omega
    refine cV (dD (dK (eO (cO (aC (aA ?_))))))
    refine aO rfl rfl (wq (iO rfl rfl (iP _ (by omega) (by omega))) rfl (bC rfl rfl (aB ?_)))
    refine cD (j + 1, q0) (bA (iv rfl (by omega)) dX) (cL rfl (cL rfl (cL rfl (cL rfl gO)))) ?_ ?_
    ·exact ⟨⟨by omega, fun h => (by rw [g10] at h; cases h), by rw [aBn, ← hix]; exact hq0⟩, hM2⟩
    ·(show nY lo hi - (j + 1) < nY lo hi - j; omega)
  ·refine cV (dD (dK (eO (kR ?_))))
   exact ⟨rfl, r, by unfold xX; first | (rw [if_pos g10, show nY lo hi = j by omega]; exact hr) | (rw [if_neg (by rw [g10]; decide)]; rw [hjz g10] at hr; exact hr), hM1⟩
 ·refine aN rfl rfl (aN rfl rfl (aN rfl rfl (aN rfl rfl (wq (bM false (.bool false) rfl rfl) rfl (aB (aC ?_))))))
  refine cM rfl (cV (dD (dK (eO (kR ?_)))))
  exact ⟨rfl, r, by unfold xX; first | (rw [if_pos g10, show nY lo hi = j by omega]; exact hr) | (rw [if_neg (by rw [g10]; decide)]; rw [hjz g10] at hr; exact hr), hM1⟩
set_option maxHeartbeats 4000000 in
theorem bAj (w : World) (a : Bx) (ha : Okx a) :
  Calls Tryz.prog 161 #[(.agg (eQ a).toArray)] w (fun ex w' => ∃ v, ex = .returned v ∧ (fun v w' => ∃ r : Row, v = .slice r.A r.n r.c ∧ bH 226 2 r.A r.n r.c ((iY a).map dM) r.e ∧ Mem w [] [r.e] w') v w') := by
 refine yQ #[.tmp 2] 13 Tryz.func161 rfl Tryz.results161 Tryz.ntmps161 rfl ?_
 have M0 := Mem.refl w
 refine qH (nU (bP (.agg (List.toArray _)) M0 rfl rfl rfl (fun b1 w1 M1 => (eN rfl rfl (aB (qO ?_))))))
 refine qH (nU (aV bCa M1 rfl rfl (fun b2 w2 M2 => (aB (qO (qH ?_))))))
 refine qH (nU (wq (aU 0 kJ M2 rfl rfl rfl) rfl (bZ bGv rfl rfl (aOk _ a) ?_)))
 rintro v3 w3 ⟨bl, bk, bh, rfl, hM3⟩
 have M3 : Mem _ _ [_, _, _, _, _] _ := M2.call0 hM3
 refine aB (qO (aJx ?_))
 have M4 : Mem _ _ [_, _, _, _, _] _ := ((M3.keep [false, true, true, true, true]).dummy default).perm (List.Perm.cons _ (List.perm_append_comm (l₁ := [_, _, _]) (l₂ := [_])))
 refine aMl bIt M4 rfl (fun fnn B lp tmps w1 hρ hn M1 => ?_)
 refine aEb (P := Tryz.prog) (ob := b2) (Tsl := 224) (Te := 226) (sz := 2) (N := 1048576) (ok := (fun x => ∃ a b, x = [.int .i32 a, .int .i32 b])) M1 ?_ (fun hY => ?_)
 ·intro wr r ls x hok hlt hrow hO
  obtain ⟨xa, xb, rfl⟩ := hok
  refine ⟨_, _, _, _, aMh hO rfl rfl rfl hn (by decide) hρ ?_⟩
  have MR0 := hO.mem
  refine tH rfl (fun _ _ h => nomatch h.1) (aV qG MR0 rfl rfl (fun b5 w5 M5 => (bG 3 _ jN M5 rfl rfl rfl rfl rfl (aT rfl) rfl (fun w6 M6 => (aB ?_)))))
  refine ⟨rfl, _, M6, rfl, fun w7 M7 => ?_⟩
  refine aJj (tH rfl (fun _ _ h => nomatch h.1) (wq (aM 1 (.slice _ _ _) aOv M7 rfl rfl rfl) rfl (wq (aU 3 jN M7 rfl rfl rfl) rfl (cU [.agg (List.toArray _)] [[.int .i32 xa, .int .i32 xb]] rfl aWi M7 rfl rfl rfl rfl (dE rfl) (by decide) (fun b8 w8 M8 => (dL 2 [[.int .i32 xa, .int .i32 xb]] aWi M8 rfl rfl rfl rfl rfl hrow rfl (by simp [Go.Bil.one]) (dR.ofMem 4 M8 rfl) (by omega) (fun A9 c9 e9 w9 M9 hR9 => ?_)))))))
  refine cZ 1 (.slice _ _ _) aOv M9 rfl rfl rfl rfl rfl rfl (fun w10 M10 => (aB (cO ?_)))
  refine ⟨rfl, _, M10, rfl, fun w11 M11 => ?_⟩
  exact ⟨⟨A9, r.n + 1, c9, e9⟩, rfl, hR9, M11.keep [true, true, true, false, false]⟩
 ·refine (aKt _ (loC a) (hiC a) _ bl bk bh (oM 3 M1 rfl rfl) (oM 5 M1 rfl rfl) (oM 4 M1 rfl rfl) (aPp ha) (aPk ha) lp b2 _ hY ⟨none, 0, 0, (none, default)⟩ (bH.nil _ _ _) (M1.ownSeg 0 3) (M1.apartTake 3 3 rfl rfl) (M1.apartTake 3 5 rfl rfl) (M1.apartTake 3 4 rfl rfl)).mono ?_
  rintro _ w5 ⟨v5, rfl, rfl, r, hr, hM⟩
  have M5 : Mem _ _ (_ :: [_, _, _, _, _, _]) _ := M1.seg 0 3 hM
  refine ⟨_, rfl, _, M5, fun w6 M6 => ?_⟩
  refine bFn (qO (qH (aGf (aRa (aM 1 (.slice _ _ _) aOv M6 rfl rfl rfl) rfl rfl (aRa (aJ (.slice _ _ _) rfl) rfl rfl ?_)))))
  refine aRw (qO (aZr (bFi (i := 6) (.slice _ _ _) rfl M6 rfl (fun w9 M9 => ?_))))
  exact ⟨r, rfl, hr, M9.keep [false, false, true, false, false, false, false]⟩
set_option maxHeartbeats 4000000 in
theorem aLe (w : World) (F : Rd w 2 (some ⟨0, 0, none⟩) 1 [[.int .u32 73856093, .int .u32 19349663]]) (c : Int × Int) :
  Calls Tryz.prog 162 #[(.agg (dM c).toArray)] w (fun ex w' => ∃ v, ex = .returned v ∧ (fun v w' => v = .int .i64 (eZ c : Int) ∧ Below w.heap.size w w') v w') := by
 refine aI #[.tmp 2] 20 Tryz.func162 rfl Tryz.results162 Tryz.ntmps162 rfl ?_
 have M0 := Mem.refl w
 refine aE (aA (bP (.agg (List.toArray _)) M0 rfl rfl rfl (fun b1 w1 M1 => (bC rfl rfl (aB (aC (aE (aA (wq (aD 0 aDc rfl) rfl (wq (aM 0 (.int _ _) aR M1 rfl rfl rfl) rfl ?_))))))))))
 refine wq (dA dO Tryz.underlying36 rfl) rfl (wq (bX (0) bAm rfl rfl rfl (by decide)) rfl (wq (dV (k := 0) (o := 0) (.int _ _) bU (F.mem M1) (show ([[.int .u32 73856093, .int .u32 19349663]] : List (List Value))[0]? = some [.int .u32 73856093, .int .u32 19349663] from rfl) rfl rfl) rfl (wq (cA (.int _ _) rfl rfl rfl) rfl ?_)))
 refine wq (aD 1 aBp rfl) rfl (wq (aM 0 (.int _ _) aR M1 rfl rfl rfl) rfl (wq (dA dO Tryz.underlying36 rfl) rfl (wq (bX (1) bAm rfl rfl rfl (by decide)) rfl (wq (dV (k := 0) (o := 1) (.int _ _) bU (F.mem M1) (show ([[.int .u32 73856093, .int .u32 19349663]] : List (List Value))[0]? = some [.int .u32 73856093, .int .u32 19349663] from rfl) rfl rfl) rfl ?_))))
 refine wq (cA (.int _ _) rfl rfl rfl) rfl (wq (cA (.int _ _) rfl rfl rfl) rfl (bC rfl rfl (aB (aC (aE (aA (aO rfl rfl (wq (cA (.int _ _) rfl rfl rfl) rfl ?_))))))))
 refine aK 18 (.int .u32 (sY c)) rfl (wq (aZ tP Tryz.underlying3 rfl (fC _ (by have := mL c; omega) (by have := mL c; omega))) rfl (bC rfl rfl (aB (aC (aP (cE (.int _ _) rfl ?_))))))
 exact ⟨iE (aVe c), M1.below⟩
set_option maxHeartbeats 16000000 in
theorem aKk (w : World) (F : Rd w 2 (some ⟨0, 0, none⟩) 1 [[.int .u32 73856093, .int .u32 19349663]]) (b : Nat) (rs : List Row) (cnt : Int) (g : Nat → List Int) (hG : GridRows 36 rs g) (hcnt : 0 ≤ cnt ∧ cnt ≤ 1048576) (hgl : ∀ j, j < 1024 → (g j).length ≤ 1048576) (key : Int) (a : Bx) (ha : Okx a) (hO : Own ((some b, bc (eP rs cnt) 191) :: rs.map Row.e) w) (hdF : 0 < 1 → ∀ q off, (some ⟨0, 0, none⟩ : Option Addr) = some ⟨q, off, none⟩ → q ∉ cY ((some b, bc (eP rs cnt) 191) :: rs.map Row.e)) :
  Calls Tryz.prog 133 #[.pointer (some ⟨b, 0, none⟩), .int .u32 key, (.agg (eQ a).toArray)] w (fun ex w' => ∃ v, ex = .returned v ∧ (fun v w' => v = .tuple #[] ∧ ∃ rs' : List Row, GridRows 36 rs' (tS g key ((iY a).map eZ)) ∧ Mem w (cY ((some b, bc (eP rs cnt) 191) :: rs.map Row.e)) ((some b, bc (eP rs' (cnt + 1)) 191) :: rs'.map Row.e) w') v w') := by
 refine aI #[] 49 Tryz.func133 rfl Tryz.results133 Tryz.ntmps133 rfl ?_
 have M0 := hO.mem
 refine aE (aA (bP (.agg (List.toArray _)) M0 rfl rfl rfl (fun b1 w1 M1 => ?_)))
 have M2 : Mem _ _ ([_, _] ++ _) _ := Mem.front (L := [_]) M1
 refine aB (aC (aE (aE (aA (wq (aH (.pointer _) rfl) rfl (wq (fP false Tryz.underlying222 rfl rfl) rfl (aB (aC (cM rfl (aL (aC (aE (aA ?_)))))))))))))
 refine wq (aH (.pointer _) rfl) rfl (wq (bB rfl) rfl (wq (aD 1024 aKa rfl) rfl (wq (aM 0 (.int .i64 cnt) kK M2 rfl rfl (aBb hG.len)) rfl (wq (aY rfl rfl (by omega) (by omega)) rfl (wq (bB rfl) rfl ?_)))))
 refine wq (aD 1024 aKa rfl) rfl (cZ 0 (.int _ _) kK M2 rfl rfl rfl rfl rfl (by rw [aBb hG.len]; rfl) (fun w3 M3 => ?_))
 have M3b : Mem _ _ ([(some b, bc (eP rs (cnt + 1)) 191), _] ++ rs.map Row.e) _ := Mem.cells0 M3 (aEx hG.len)
 refine aB (aC (aE (aA (oE M3b rfl rfl (fun b4 w4 M4 => ?_)))))
 have M5 : Mem _ _ ([_, _, _] ++ _) _ := Mem.front (L := [_, _]) M4
 refine wq (aJ (.map _) rfl) rfl (aB (aC (aE (aA (wq (aU 1 kJ M5 rfl rfl rfl) rfl (bZ bIm rfl rfl (bAj _ a ha) ?_))))))
 rintro v6 w6 ⟨r0, rfl, hR0, hM6⟩
 have M6 : Mem _ _ ([_, _, _, _] ++ _) _ := Mem.front (L := [_, _, _]) (M5.call0 hM6)
 have hcl : (iY a).length = r0.n := by simpa using hR0.1
 have hcb := aOq ha
 refine wq (dB Tryz.underlying224 rfl) rfl (aO rfl rfl (aB (aC (aQ (dQ (σ := Nat × List Row × fF) [0, 1, 6, 21, 22] (fun (i, rs1, em) => [(23, .int .i64 (i : Int))]) (fun (i, rs1, em) w' => (i ≤ r0.n ∧ GridRows 36 rs1 (tS g key (((iY a).map eZ).take i)) ∧ kY .i64 Value.bool (rT (((iY a).map eZ).take i)) (some b4) em) ∧ Mem w (cY ((some b, bc (eP rs cnt) 191) :: rs.map Row.e)) ([(some b, bc (eP rs1 (cnt + 1)) 191), (some b1, bc (eQ a) 193), em, r0.e] ++ rs1.map Row.e) w') (fun (i, rs1, em) => r0.n - i) (0, rs, (some b4, .map #[] 0)) (bA rfl dX) (⟨⟨by omega, by rw [List.take_zero, aXl]; exact hG, (kY.empty _ _ b4).congr (fun q => by rw [List.take_zero]; exact aUg q)⟩, M6⟩) ?_)))))
 rintro ⟨i, rs1, em⟩ ρ7 w7 ⟨⟨hi, hrs, hme⟩, hM7⟩
 refine aE (aA (cX rfl rfl rfl rfl (aB (aC (aE ?_)))))
 refine aS rfl (fun h24 => ?_) (fun h24 => ?_)
 ·obtain ⟨xc, hxc⟩ := cT (xs := iY a) (k := i) hcl (by omega)
  have hbb : ((iY a).map eZ)[i]? = some (eZ xc) := by rw [List.getElem?_map, hxc]; rfl
  refine aL (aC (aE (aQ (aE (aA (wq (bN (i) aWi rfl rfl rfl ((hR0.rd hM7 (bJ (i := 3) rfl)).below_len (aG dM hxc)) ((hR0.rd hM7 (bJ (i := 3) rfl)).someK (aG dM hxc))) rfl (wq (dJ _ jN (hR0.rd hM7 (bJ (i := 3) rfl)) (aG dM hxc) rfl) rfl ?_)))))))
  refine aV qG hM7 rfl rfl (fun b8 w8 M8 => ?_)
  have M9 : Mem _ _ ([_, _, _, _, _] ++ _) _ := Mem.front (L := [_, _, _, _]) M8
  refine bG 4 _ jN M9 rfl rfl rfl rfl rfl (aT rfl) rfl (fun w10 M10 => (aB (aC (aE (aA (wq (aU 4 jN M10 rfl rfl rfl) rfl (bZ bJh rfl rfl (aLe _ (F.memY M10 hdF) xc) ?_)))))))
  rintro v11 w11 ⟨rfl, hb11⟩
  have M11 := M10.callB hb11
  refine bC rfl rfl (aB (aC (aE (aE (aA (wq (aH (.map _) rfl) rfl (aO rfl rfl (wq (lI (enc := Value.bool) false 2 aVr zv4 M11 rfl hme rfl rfl) rfl (aB (aC ?_))))))))))
  refine iB _ rfl (fun h31 => ?_) (fun h31 => ?_)
  ·refine cV (dD (eO (aC (aA (wq (aY rfl rfl (by omega) (by omega)) rfl (aO rfl rfl ?_))))))
   refine aB ?_
   refine cD (i + 1, rs1, em) (bA rfl dX) (cL rfl (cL rfl (cL rfl (cL rfl (cL rfl gO))))) ?_ ?_
   ·exact ⟨⟨by omega, by rw [aXf hbb (yH.1 h31)]; exact hrs, by rw [aUp hbb (yH.1 h31)]; exact hme⟩, Mem.keepL (L := [_, _, _, _, _]) [true, true, true, true, false] M11⟩
   ·(show r0.n - (i + 1) < r0.n - i; omega)
  ·have hnb : eZ xc ∉ ((iY a).map eZ).take i := fun h => by have h2 := yH.2 h; rw [h2] at h31; cases h31
   refine aL (aC (aE (aA (wq (aH (.map _) rfl) rfl (aO rfl rfl (kD (enc := Value.bool) 2 aVr M11 rfl rfl hme rfl rfl rfl rfl (fun e12 w12 hm12 M12 => (aB (aC (bR [(0, 0), (1, 0), (2, 0), (3, 0), (4, 0), (5, 0), (6, 0), (7, 1), (8, 0), (11, 0), (12, 0), (9, 2), (10, 2), (13, 0), (14, 2)] mixed rfl (by kernel_rfl) (fun w13 hb13 hh13 => ?_)))))))))))
   have M13 := M12.drew hb13 hh13
   refine aX rfl rfl rfl (fun _ => aH (.pointer _) rfl) (eF rfl rfl rfl (aX rfl rfl rfl (fun _ => aH (.pointer _) rfl) (eF rfl rfl rfl (aX rfl rfl rfl (fun _ => bB rfl) (aX rfl rfl rfl (fun _ => aD 0 aDg rfl) ?_)))))
   refine aX rfl rfl rfl (fun _ => bX (eZ xc) aMv rfl rfl rfl (lD xc)) ?_
   obtain ⟨rb, hrb⟩ := hrs.get (lD xc)
   have hrowb := hrs.row _ _ hrb
   have hgb : tS g key (((iY a).map eZ).take i) (eZ xc) = g (eZ xc) := by unfold tS; rw [if_neg hnb]
   have hrn : (tS g key (((iY a).map eZ).take i) (eZ xc)).length = rb.n := by simpa using hrowb.1
   have hgl := hgl (eZ xc) (lD xc)
   rw [hgb] at hrn
   have M14 : Mem _ _ ([_, _, _, _, _, _] ++ (rs1.eraseIdx (eZ xc)).map Row.e) _ := Mem.pull (L := [_, _, _, _, _]) (rs := rs1) M13 hrb
   refine bV rfl rfl rfl (aM 0 (.slice _ _ _) aIm M14 rfl rfl (vA hrb)) (eF rfl rfl rfl (aX rfl rfl rfl (fun _ => bB rfl) (aX rfl rfl rfl (fun _ => aD 0 aDg rfl) (dS [false] rfl (by kernel_rfl) (cU [.int _ _] [gS key] rfl aKx M14 rfl rfl rfl rfl (dE rfl) (by decide) (fun b15 w15 M15 => ?_))))))
   have M16 : Mem _ _ ([_, _, _, _, _, _, _] ++ _) _ := Mem.front (L := [_, _, _, _, _, _]) M15
   refine aB (aC ⟨(eD (bL rfl (aM 0 (.slice _ _ _) aIm M16 rfl rfl (vA hrb))) dT), ?_⟩)
   refine dS [true] rfl (by kernel_rfl) (dL 5 [gS key] aKx M16 rfl rfl rfl rfl rfl hrowb rfl (aNo _) (dR.ofMem 6 M16 rfl) (by omega) (fun A17 c17 e17 w17 M17 hR17 => ?_))
   refine aB (aC ⟨dT, ?_⟩)
   refine aX rfl rfl rfl (fun _ => bX (eZ xc) aMv rfl rfl rfl (lD xc)) (dS [] rfl (by kernel_rfl) (cZ 0 (.slice _ _ _) aIm M17 rfl rfl rfl rfl rfl (by rw [vA hrb]; rfl) (fun w18 M18 => ?_)))
   have M18b : Mem _ _ ([(some b, bc (eP (rs1.set (eZ xc) (⟨A17, rb.n + 1, c17, e17⟩ : Row)) (cnt + 1)) 191), _, _, _, _, _, _] ++ (rs1.eraseIdx (eZ xc)).map Row.e) _ := Mem.cells0 M18 (aFe (⟨A17, rb.n + 1, c17, e17⟩ : Row) (by rw [hrs.len]; exact lD xc))
   refine aB (aC ⟨dT, ?_⟩)
   refine bY (cO (aC (aA (wq (aY rfl rfl (by omega) (by omega)) rfl (aO rfl rfl (aB ?_))))))
   refine cD (i + 1, rs1.set (eZ xc) (⟨A17, rb.n + 1, c17, e17⟩ : Row), e12) (bA rfl dX) (cL rfl (cL rfl (cL rfl (cL rfl (cL rfl gO))))) ?_ ?_
   ·exact ⟨⟨by omega, by rw [aWm hbb hnb]; exact hrs.put (r := (⟨A17, rb.n + 1, c17, e17⟩ : Row)) (lD xc) (by simpa using hR17), hm12.congr (fun q => aGu hbb q)⟩, Mem.push (L := [_, _, _, _]) (rs := rs1) (⟨A17, rb.n + 1, c17, e17⟩ : Row) (Mem.keepL (L := [_, _, _, _, _, _, _]) [true, true, true, true, false, true, false] M18b) (by rw [hrs.len]; exact lD xc)⟩
   ·(show r0.n - (i + 1) < r0.n - i; omega)
 ·have hin : i = r0.n := by omega
  rw [List.take_of_length_le (by simp; omega)] at hrs
  refine cV (dD (dK (eO (kR ?_))))
  exact ⟨rfl, rs1, hrs, Mem.keepL (L := [_, _, _, _]) [true, false, false, false] hM7⟩
end Go.Proofs.YtlmcphcgiclanaaGreatDoor
