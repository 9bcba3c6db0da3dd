/- Part of the proof of the laws of this seat: B8, C9, G10. No conditions. -/
import Derived.Test.YtaoaknafiegfoaaGreatDoorK2
import Derived.Test.YtaoaknafiegfoaaGreatDoorK5
import Derived.Test.YtaoaknafiegfoaaGreatDoorK6
import Derived.Test.YtaoaknafiegfoaaGreatDoorK11
import Derived.Test.YtaoaknafiegfoaaGreatDoorK15
set_option linter.unusedVariables false
set_option linter.unusedSimpArgs false
set_option linter.unnecessarySimpa false
namespace Go.Proofs.YtaoaknafiegfoaaGreatDoor
open Go.Bil
open Go.RowKit (Below)
open Go.Proofs
set_option maxHeartbeats 4000000 in
theorem aMv (w : World) (x : Int) (h0 : -2147483647 ≤ x) (h1 : x ≤ 2147483647) :
  Calls Tryz.prog 253 #[.int .i32 x] w (fun ex w' => ∃ v, ex = .returned v ∧ (fun v w' => v = .int .i32 (max x (-x)) ∧ Below w.heap.size w w') v w') := by
 refine aI #[.tmp 2] 7 Tryz.func253 rfl Tryz.results253 Tryz.ntmps253 rfl ?_
 have M0 := Mem.refl w
 refine aE (aA (bI rfl rfl (aB (aC (aE (aA (aP rfl rfl (aP rfl rfl (wq (pX rfl (iW _ (by omega) (by omega))) rfl ?_)))))))))
 refine wq (qB rfl rfl ) rfl (bI rfl rfl (aB (aC (aO (cD (.int _ _) rfl ?_)))))
 exact ⟨iE (by omega), M0.below⟩
set_option maxHeartbeats 4000000 in
theorem aNw (w : World) (b : Body) (hb : Okb b) :
  Calls Tryz.prog 229 #[(.agg (aF b).toArray)] w (fun ex w' => ∃ v, ex = .returned v ∧ (fun v w' => v = .tuple #[.int .i32 (aQt b), .int .i32 (aPa b)] ∧ Below w.heap.size w w') v w') := by
 have hr := hb.r
 have ha := hb.a
 have hp := hb.p
 refine aI #[.tmp 2, .tmp 3] 18 Tryz.func229 rfl Tryz.results229 Tryz.ntmps229 rfl ?_
 have M0 := Mem.refl w
 refine aE (aA (bK (.agg (List.toArray _)) M0 rfl rfl rfl (fun b1 w1 M1 => (bI rfl rfl (bI rfl rfl (aB (aC (aE (bQ [(0, 0), (1, 0), (2, 1), (4, 0), (5, 1), (7, 0), (8, 0), (9, 1), (11, 0), (12, 1), (3, 2), (6, 0), (10, 2), (13, 0), (14, 0), (15, 0)] mixed rfl (by kernel_rfl) (fun w2 hb2 hh2 => ?_))))))))))
 have M2 := M1.drew hb2 hh2
 refine aV rfl rfl rfl (fun _ => aD 2 iP rfl) (aV rfl rfl rfl (fun _ => aD 0 cR rfl) (bS rfl rfl rfl (aM 0 (.int _ _) aT M2 rfl rfl rfl) (aV rfl rfl rfl (fun _ => aD 1 lH rfl) (bS rfl rfl rfl (aM 0 (.int _ _) aT M2 rfl rfl rfl) (aV rfl rfl rfl (fun _ => aD 2 iP rfl) ?_)))))
 refine aV rfl rfl rfl (fun _ => aD 1 cO rfl) (bS rfl rfl rfl (aM 0 (.int _ _) aT M2 rfl rfl rfl) (aV rfl rfl rfl (fun _ => aD 1 lH rfl) (bS rfl rfl rfl (aM 0 (.int _ _) aT M2 rfl rfl rfl) (dT [false, false, false, true] rfl (by kernel_rfl) (bY bCt rfl rfl (aMv _ _ (by omega) (by omega)) ?_)))))
 rintro v3 w3 ⟨rfl, hb3⟩
 have M3 := M2.callB hb3
 refine aB (aC ⟨(dZ (bM rfl (aM 0 (.int _ _) aT M3 rfl rfl rfl)) (dZ (bM rfl (aM 0 (.int _ _) aT M3 rfl rfl rfl)) (dZ (bM rfl (aM 0 (.int _ _) aT M3 rfl rfl rfl)) dU))), ?_⟩)
 refine aV rfl rfl rfl (fun _ => iU rfl rfl (iW _ (by omega) (by omega))) (dT [false, true, false] rfl (by kernel_rfl) (bY bCt rfl rfl (aMv _ _ (by omega) (by omega)) ?_))
 rintro v4 w4 ⟨rfl, hb4⟩
 have M4 := M3.callB hb4
 refine aB (aC ⟨(dZ (bM rfl (aM 0 (.int _ _) aT M4 rfl rfl rfl)) (dZ (bM rfl (aM 0 (.int _ _) aT M4 rfl rfl rfl)) dU)), ?_⟩)
 refine aV rfl rfl rfl (fun _ => iU rfl rfl (iW _ (by omega) (by omega))) (mA rfl rfl rfl (mA rfl rfl rfl (bX (aC (aO (gA (.int _ _) (.int _ _) rfl rfl ?_))))))
 exact ⟨rfl, M4.below⟩
set_option maxHeartbeats 4000000 in
theorem bMc (w : World) (b : Body) (hb : Okb b) :
  Calls Tryz.prog 203 #[(.agg (aF b).toArray)] w (fun ex w' => ∃ v, ex = .returned v ∧ (fun v w' => v = (.agg (eI (gJ b)).toArray) ∧ Below w.heap.size w w') v w') := by
 have hr := hb.r
 have ha := hb.a
 have hp := hb.p
 have he := bAc hb
 refine aI #[.cell 2 253] 31 Tryz.func203 rfl Tryz.results203 Tryz.ntmps203 rfl ?_
 have M0 := Mem.refl w
 refine aE (aA (bK (.agg (List.toArray _)) M0 rfl rfl rfl (fun b1 w1 M1 => (aS aKu M1 rfl rfl (fun b2 w2 M2 => (aB (aC (aE (aA (wq (aX 0 bO M2 rfl rfl rfl) rfl (bY bOg rfl rfl (aNw _ b hb) ?_)))))))))))
 rintro v3 w3 ⟨rfl, hb3⟩
 have M3 := M2.callB hb3
 refine wq (aH (.tuple (List.toArray _)) rfl) rfl (wq (bN (.int _ _) rfl rfl) rfl (wq (bN (.int _ _) rfl rfl) rfl (bI rfl rfl (bI rfl rfl (aB (aC (aE (aA ?_))))))))
 refine wq (aD 6 fI rfl) rfl (wq (aD 0 cR rfl) rfl (wq (aM 0 (.int _ _) aT M3 rfl rfl rfl) rfl (aP rfl rfl (wq (mV rfl rfl (iW _ (by omega) (by omega))) rfl (wq (aD 6 fI rfl) rfl ?_)))))
 refine wq (aD 1 cO rfl) rfl (wq (aM 0 (.int _ _) aT M3 rfl rfl rfl) rfl (aP rfl rfl (wq (mV rfl rfl (iW _ (by omega) (by omega))) rfl (wq (aD 6 fI rfl) rfl (wq (aD 0 cR rfl) rfl ?_)))))
 refine wq (aM 0 (.int _ _) aT M3 rfl rfl rfl) rfl (aP rfl rfl (wq (iU rfl rfl (iW _ (by omega) (by omega))) rfl (wq (aD 6 fI rfl) rfl (wq (aD 1 cO rfl) rfl (wq (aM 0 (.int _ _) aT M3 rfl rfl rfl) rfl ?_)))))
 refine aP rfl rfl (wq (iU rfl rfl (iW _ (by omega) (by omega))) rfl (wq (cC [(0, .int _ _), (1, .int _ _), (2, .int _ _), (3, .int _ _)] _ aId rfl rfl) rfl (bG 1 _ kV M3 rfl rfl rfl rfl rfl (aR rfl) rfl (fun w4 M4 => (aB (aC (aO (eL 1 kV M4 rfl rfl rfl ?_))))))))
 exact ⟨rfl, M4.below⟩
set_option maxHeartbeats 4000000 in
theorem zQ (w : World) (a : Bx) :
  Calls Tryz.prog 231 #[(.agg (eI a).toArray)] w (fun ex w' => ∃ v, ex = .returned v ∧ (fun v w' => v = .bool (decide (jL a)) ∧ Below w.heap.size w w') v w') := by
 refine aI #[.tmp 2] 15 Tryz.func231 rfl Tryz.results231 Tryz.ntmps231 rfl ?_
 have M0 := Mem.refl w
 refine aE (aA (bK (.agg (List.toArray _)) M0 rfl rfl rfl (fun b1 w1 M1 => (wq (aJ (.bool false) rfl) rfl (aB (aC (aE (aA (wq (aD 0 xO rfl) rfl (wq (aM 0 (.int _ _) aT M1 rfl rfl rfl) rfl ?_))))))))))
 refine wq (aD 2 xV rfl) rfl (wq (aM 0 (.int _ _) aT M1 rfl rfl rfl) rfl (cZ rfl rfl rfl rfl (wq (aH (.bool (decide _)) rfl) rfl ?_)))
 refine dM 8 rfl (fun g8 => ?_) (fun g8 => ?_)
 ·refine aN rfl rfl (aN rfl rfl (aN rfl rfl (aN rfl rfl (aN rfl rfl (wq (bR true (.bool true) rfl rfl) rfl ?_)))))
  refine wq (aJ (.bool true) rfl) rfl (aB (aC (aO (cD (.bool true) rfl ?_))))
  exact ⟨by unfold jL; first | exact bT (by omega) | exact bD (by omega), M1.below⟩
 ·refine wq (aD 1 yA rfl) rfl (wq (aM 0 (.int _ _) aT M1 rfl rfl rfl) rfl (wq (aD 3 wO rfl) rfl (wq (aM 0 (.int _ _) aT M1 rfl rfl rfl) rfl (cZ rfl rfl rfl rfl (wq (bR false (.bool (decide _)) rfl rfl) rfl ?_)))))
  refine wq (aJ (.bool (decide _)) rfl) rfl (aB (aC (aO (cD (.bool (decide _)) rfl ?_))))
  exact ⟨by unfold jL; first | exact bT (by omega) | exact bD (by omega), M1.below⟩
set_option maxHeartbeats 4000000 in
theorem bDv (w : World) (N : Rd w 4 (some ⟨3, 0, none⟩) 1 [eI jO]) (a b : Bx) :
  Calls Tryz.prog 232 #[(.agg (eI a).toArray), (.agg (eI b).toArray)] w (fun ex w' => ∃ v, ex = .returned v ∧ (fun v w' => v = (.agg (eI (aHq a b)).toArray) ∧ Below w.heap.size w w') v w') := by
 refine aI #[.cell 4 253] 31 Tryz.func232 rfl Tryz.results232 Tryz.ntmps232 rfl ?_
 have M0 := Mem.refl w
 refine aE (aA (bK (.agg (List.toArray _)) M0 rfl rfl rfl (fun b1 w1 M1 => (bK (.agg (List.toArray _)) M1 rfl rfl rfl (fun b2 w2 M2 => (aS aKu M2 rfl rfl (fun b3 w3 M3 => (aB (aC (aE (aA (wq (aD 0 xO rfl) rfl ?_))))))))))))
 refine wq (aM 0 (.int _ _) aT M3 rfl rfl rfl) rfl (wq (aD 0 xO rfl) rfl (wq (aM 1 (.int _ _) aT M3 rfl rfl rfl) rfl (wq (qB rfl rfl ) rfl (wq (aD 1 yA rfl) rfl (wq (aM 0 (.int _ _) aT M3 rfl rfl rfl) rfl ?_)))))
 refine wq (aD 1 yA rfl) rfl (wq (aM 1 (.int _ _) aT M3 rfl rfl rfl) rfl (wq (qB rfl rfl ) rfl (wq (aD 2 xV rfl) rfl (wq (aM 0 (.int _ _) aT M3 rfl rfl rfl) rfl (wq (aD 2 xV rfl) rfl ?_)))))
 refine wq (aM 1 (.int _ _) aT M3 rfl rfl rfl) rfl (wq (aDv rfl rfl ) rfl (wq (aD 3 wO rfl) rfl (wq (aM 0 (.int _ _) aT M3 rfl rfl rfl) rfl (wq (aD 3 wO rfl) rfl (wq (aM 1 (.int _ _) aT M3 rfl rfl rfl) rfl ?_)))))
 refine wq (aDv rfl rfl ) rfl (wq (cC [(0, .int _ _), (1, .int _ _), (2, .int _ _), (3, .int _ _)] _ aId rfl rfl) rfl (aS aKu M3 rfl rfl (fun b4 w4 M4 => (bG 3 _ kV M4 rfl rfl rfl rfl rfl (aR rfl) rfl (fun w5 M5 => (aB (aC (aE (aE (aA (wq (aX 3 kV M5 rfl rfl rfl) rfl ?_)))))))))))
 refine bY aRz rfl rfl (zQ _ ⟨max a.x0 b.x0, max a.y0 b.y0, min a.x1 b.x1, min a.y1 b.y1⟩) ?_
 rintro v6 w6 ⟨rfl, hb6⟩
 have M6 := M5.callB hb6
 refine aB (aC ?_)
 refine aW rfl (fun h28 => ?_) (fun h28 => ?_)
 ·refine aE (aA (wq (rW (k := 0) (o := 0) _ kV (N.mem M6) (show ([eI jO] : List (List Value))[0]? = some (eI jO) from rfl) rfl rfl rfl) rfl (bG 2 _ kV M6 rfl rfl rfl rfl rfl (aR rfl) rfl (fun w7 M7 => (aB (aC (aO (cM (eL 2 kV M7 rfl rfl rfl ?_)))))))))
  exact ⟨by unfold aHq; rw [if_pos h28]; rfl, M7.below⟩
 ·refine aL (aC (aE (aA (wq (aX 3 kV M6 rfl rfl rfl) rfl (bG 2 _ kV M6 rfl rfl rfl rfl rfl (aR rfl) rfl (fun w8 M8 => (aB (aC (aO (eL 2 kV M8 rfl rfl rfl ?_))))))))))
  exact ⟨by unfold aHq; rw [if_neg h28]; rfl, M8.below⟩
set_option maxHeartbeats 4000000 in
theorem aNr (w : World) (N : Rd w 4 (some ⟨3, 0, none⟩) 1 [eI jO]) (a b : Bx) :
  Calls Tryz.prog 207 #[(.agg (eI a).toArray), (.agg (eI b).toArray)] w (fun ex w' => ∃ v, ex = .returned v ∧ (fun v w' => v = .bool (decide (ovl a b)) ∧ Below w.heap.size w w') v w') := by
 refine aI #[.tmp 4] 10 Tryz.func207 rfl Tryz.results207 Tryz.ntmps207 rfl ?_
 have M0 := Mem.refl w
 refine aE (aA (bK (.agg (List.toArray _)) M0 rfl rfl rfl (fun b1 w1 M1 => (bK (.agg (List.toArray _)) M1 rfl rfl rfl (fun b2 w2 M2 => (wq (aJ (.bool false) rfl) rfl (aB (aC (aE (aA (wq (aX 0 kV M2 rfl rfl rfl) rfl ?_)))))))))))
 refine wq (aX 1 kV M2 rfl rfl rfl) rfl (bY bOq rfl rfl (bDv _ (N.mem M2) a b) ?_)
 rintro v3 w3 ⟨rfl, hb3⟩
 have M3 := M2.callB hb3
 refine bY aRz rfl rfl (zQ _ (aHq a b)) ?_
 rintro v4 w4 ⟨rfl, hb4⟩
 have M4 := M3.callB hb4
 refine wq (oO rfl) rfl (wq (aJ (.bool (decide _)) rfl) rfl (aB (aC (aO (cD (.bool (decide _)) rfl ?_)))))
 exact ⟨bD (bDl a b), M4.below⟩
set_option maxHeartbeats 4000000 in
theorem aTk (w : World) (x y : Int) :
  Calls Tryz.prog 267 #[.agg [.int .i32 x, .int .i32 y].toArray] w (fun ex w' => ∃ v, ex = .returned v ∧ (fun v w' => v = (.agg (dP (oR x, oR y)).toArray) ∧ Below w.heap.size w w') v w') := by
 refine aI #[.cell 2 283] 10 Tryz.func267 rfl Tryz.results267 Tryz.ntmps267 rfl ?_
 have M0 := Mem.refl w
 refine aE (aA (bK (.agg (List.toArray _)) M0 rfl rfl rfl (fun b1 w1 M1 => (aS rI M1 rfl rfl (fun b2 w2 M2 => (aB (aC (aE (aA (wq (aD 0 cR rfl) rfl (wq (aM 0 (.int _ _) aT M2 rfl rfl rfl) rfl ?_)))))))))))
 refine wq (jQ rfl rfl (by decide)) rfl (aK 5 (.int .i32 (oR x)) (iE (bJl x)) (wq (aD 1 cO rfl) rfl (wq (aM 0 (.int _ _) aT M2 rfl rfl rfl) rfl (wq (jQ rfl rfl (by decide)) rfl (aK 8 (.int .i32 (oR y)) (iE (bJl y)) ?_)))))
 refine wq (cC [(0, .int _ _), (1, .int _ _)] _ aHn rfl rfl) rfl (bG 1 _ jX M2 rfl rfl rfl rfl rfl (aR rfl) rfl (fun w3 M3 => (aB (aC (aO (eL 1 jX M3 rfl rfl rfl ?_))))))
 exact ⟨rfl, M3.below⟩
set_option maxHeartbeats 4000000 in
theorem aVg (w : World) (a : Bx) :
  Calls Tryz.prog 254 #[(.agg (eI a).toArray)] w (fun ex w' => ∃ v, ex = .returned v ∧ (fun v w' => v = .tuple #[(.agg (dP (loC a)).toArray), (.agg (dP (hiC a)).toArray), .bool (decide (¬ jL a))] ∧ Below w.heap.size w w') v w') := by
 refine aI #[.cell 2 283, .cell 3 283, .tmp 4] 21 Tryz.func254 rfl Tryz.results254 Tryz.ntmps254 rfl ?_
 have M0 := Mem.refl w
 refine aE (aA (bK (.agg (List.toArray _)) M0 rfl rfl rfl (fun b1 w1 M1 => (aS rI M1 rfl rfl (fun b2 w2 M2 => (aS rI M2 rfl rfl (fun b3 w3 M3 => (wq (aJ (.bool false) rfl) rfl (aB (aC (aE (aE (aA ?_)))))))))))))
 refine wq (aX 0 kV M3 rfl rfl rfl) rfl (bY aRz rfl rfl (zQ _ a) ?_)
 rintro v4 w4 ⟨rfl, hb4⟩
 have M4 := M3.callB hb4
 refine aB (aC ?_)
 refine aW rfl (fun h6 => ?_) (fun h6 => ?_)
 ·refine aE (bQ [(0, 1), (1, 1), (2, 2), (3, 2), (4, 0)] mixed rfl (by kernel_rfl) (fun w5 hb5 hh5 => ?_))
  have M5 := M4.drew hb5 hh5
  refine bS rfl rfl rfl (aX 1 jX M5 rfl rfl rfl) (bS rfl rfl rfl (aX 2 jX M5 rfl rfl rfl) (dT [false, true] rfl (by kernel_rfl) (bG 1 _ jX M5 rfl rfl rfl rfl rfl (aR rfl) rfl (fun w6 M6 => ?_))))
  refine aB (aC ⟨(dZ (bM rfl (aX 2 jX M6 rfl rfl rfl)) dU), ?_⟩)
  refine dT [true] rfl (by kernel_rfl) (bG 2 _ jX M6 rfl rfl rfl rfl rfl (aR rfl) rfl (fun w7 M7 => ?_))
  refine aB (aC ⟨dU, ?_⟩)
  refine aV rfl rfl rfl (fun _ => aJ (.bool false) rfl) (bX (aC (aO (cM (bJz (v3 := .bool false) 1 2 jX M7 rfl rfl rfl rfl rfl rfl rfl ?_)))))
  exact ⟨by unfold loC hiC; rw [if_pos h6, if_pos h6, decide_eq_false (fun h => h h6)]; rfl, M7.below⟩
 ·refine aL (aC (aE (bQ [(0, 0), (1, 1), (2, 0), (3, 1), (4, 0), (6, 0), (7, 1), (8, 0), (9, 1), (10, 0), (5, 2), (11, 2), (12, 2), (13, 2), (14, 0)] mixed rfl (by kernel_rfl) (fun w8 hb8 hh8 => ?_))))
  have M8 := M4.drew hb8 hh8
  refine aV rfl rfl rfl (fun _ => aD 0 xO rfl) (bS rfl rfl rfl (aM 0 (.int _ _) aT M8 rfl rfl rfl) (aV rfl rfl rfl (fun _ => aD 1 yA rfl) (bS rfl rfl rfl (aM 0 (.int _ _) aT M8 rfl rfl rfl) (aV rfl rfl rfl (fun _ => cC [(0, .int _ _), (1, .int _ _)] _ eK rfl rfl) ?_))))
  refine aV rfl rfl rfl (fun _ => aD 2 xV rfl) (bS rfl rfl rfl (aM 0 (.int _ _) aT M8 rfl rfl rfl) (aV rfl rfl rfl (fun _ => aD 3 wO rfl) (bS rfl rfl rfl (aM 0 (.int _ _) aT M8 rfl rfl rfl) (aV rfl rfl rfl (fun _ => cC [(0, .int _ _), (1, .int _ _)] _ eK rfl rfl) ?_))))
  refine dT [false, false, true, true] rfl (by kernel_rfl) (bY bEh rfl rfl (aTk _ a.x0 a.y0) ?_)
  rintro v9 w9 ⟨rfl, hb9⟩
  have M9 := M8.callB hb9
  refine aB (aC ⟨(dZ (bM rfl (aM 0 (.int _ _) aT M9 rfl rfl rfl)) (dZ (bM rfl (aM 0 (.int _ _) aT M9 rfl rfl rfl)) dU)), ?_⟩)
  refine dT [true, true] rfl (by kernel_rfl) (bY bEh rfl rfl (aTk _ a.x1 a.y1) ?_)
  rintro v10 w10 ⟨rfl, hb10⟩
  have M10 := M9.callB hb10
  refine aB (aC ⟨dU, ?_⟩)
  refine dT [] rfl (by kernel_rfl) (bG 1 _ jX M10 rfl rfl rfl rfl rfl (aR rfl) rfl (fun w11 M11 => ?_))
  refine aB (aC ⟨dU, ?_⟩)
  refine dT [] rfl (by kernel_rfl) (bG 2 _ jX M11 rfl rfl rfl rfl rfl (aR rfl) rfl (fun w12 M12 => ?_))
  refine aB (aC ⟨dU, ?_⟩)
  refine aV rfl rfl rfl (fun _ => aJ (.bool true) rfl) (bX (aC (aO (bJz (v3 := .bool true) 1 2 jX M12 rfl rfl rfl rfl rfl rfl rfl ?_))))
  exact ⟨by unfold loC hiC; rw [if_neg h6, if_neg h6, decide_eq_true h6], M12.below⟩
set_option maxHeartbeats 4000000 in
theorem aRa (w : World) (a : Bx) :
  Calls Tryz.prog 230 #[(.agg (eI a).toArray)] w (fun ex w' => ∃ v, ex = .returned v ∧ (fun v w' => ∃ b1 b2 b3, v = .func (.func 255) #[] #[.pointer (some ⟨b1, 0, none⟩), .pointer (some ⟨b2, 0, none⟩), .pointer (some ⟨b3, 0, none⟩)] ∧ Mem w [] [(some b1, bc (dP (loC a)) 283), (some b3, bc (dP (hiC a)) 283), (some b2, bc [.bool (decide (¬ jL a))] 4)] w') v w') := by
 refine aI #[.tmp 2] 13 Tryz.func230 rfl Tryz.results230 Tryz.ntmps230 rfl ?_
 have M0 := Mem.refl w
 refine aE (aA (bK (.agg (List.toArray _)) M0 rfl rfl rfl (fun b1 w1 M1 => (wq (aJ (_) rfl) rfl (aB (aC (aE (aA (wq (aX 0 kV M1 rfl rfl rfl) rfl (bY bNu rfl rfl (aVg _ a) ?_))))))))))
 rintro v2 w2 ⟨rfl, hb2⟩
 have M2 := M1.callB hb2
 refine wq (aH (.tuple (List.toArray _)) rfl) rfl (wq (bN (.agg (List.toArray _)) rfl rfl) rfl (wq (bN (.agg (List.toArray _)) rfl rfl) rfl (wq (bN (.bool (decide _)) rfl rfl) rfl (aS rI M2 rfl rfl (fun b3 w3 M3 => (aS rI M3 rfl rfl (fun b4 w4 M4 => ?_)))))))
 refine aS aUj M4 rfl rfl (fun b5 w5 M5 => (bG 1 _ jX M5 rfl rfl rfl rfl rfl (aR rfl) rfl (fun w6 M6 => (bG 2 _ jX M6 rfl rfl rfl rfl rfl (aR rfl) rfl (fun w7 M7 => (dD 3 (.bool (decide _)) pC M7 rfl rfl rfl rfl rfl rfl (fun w8 M8 => (aB (aC (aE (aA (wq (dR [] [.pointer _, .pointer _, .pointer _] rfl rfl) rfl ?_))))))))))))
 refine wq (aJ (.func _ _ _) rfl) rfl (aB (aC (aO (cD (.func _ _ _) rfl ?_))))
 exact ⟨b3, b5, b4, rfl, M8.keep [false, true, true, true]⟩
set_option maxHeartbeats 4000000 in
theorem aMu (w : World) (lo hi : Int × Int) (ok : Bool) (b1 b2 b3 : Nat) (L1 : Rd w 2 (some ⟨b1, 0, none⟩) 1 [dP lo]) (L2 : Rd w 1 (some ⟨b2, 0, none⟩) 1 [[.bool ok]]) (L3 : Rd w 2 (some ⟨b3, 0, none⟩) 1 [dP hi]) (hlo : Okc lo) (hhi : Okc hi) (lp ob : Nat) (rec : Loop) (hY : xU Tryz.prog lp ob rec 281 283 2 1048576 (fun x => ∃ a b, x = [.int .i32 a, .int .i32 b])) (r0 : Row) (hr0 : bC 283 2 r0.A r0.n r0.c [] r0.e) (hO : Own [(some lp, .loop rec), (some ob, bc [.slice r0.A r0.n r0.c] 281), r0.e] w) (hd1 : 0 < 1 → ∀ q off, (some ⟨b1, 0, none⟩ : Option Addr) = some ⟨q, off, none⟩ → q ∉ cE [(some lp, .loop rec), (some ob, bc [.slice r0.A r0.n r0.c] 281), r0.e]) (hd2 : 0 < 1 → ∀ q off, (some ⟨b2, 0, none⟩ : Option Addr) = some ⟨q, off, none⟩ → q ∉ cE [(some lp, .loop rec), (some ob, bc [.slice r0.A r0.n r0.c] 281), r0.e]) (hd3 : 0 < 1 → ∀ q off, (some ⟨b3, 0, none⟩ : Option Addr) = some ⟨q, off, none⟩ → q ∉ cE [(some lp, .loop rec), (some ob, bc [.slice r0.A r0.n r0.c] 281), r0.e]) :
  Calls Tryz.prog 255 #[.func (.yield lp) #[] #[], .pointer (some ⟨b1, 0, none⟩), .pointer (some ⟨b2, 0, none⟩), .pointer (some ⟨b3, 0, none⟩)] w (fun ex w' => ∃ v, ex = .returned v ∧ (fun v w' => v = .tuple #[] ∧ ∃ r : Row, bC 283 2 r.A r.n r.c ((zP ok lo hi).map dP) r.e ∧ Mem w (cE [(some lp, .loop rec), (some ob, bc [.slice r0.A r0.n r0.c] 281), r0.e]) [(some lp, .loop rec), (some ob, bc [.slice r.A r.n r.c] 281), r.e] w') v w') := by
 rw [← gM b1, ← gM b2, ← gM b3]
 have hxd : nX lo hi = (hi.1 - lo.1 + 1).toNat := rfl
 have hyd : nY lo hi = (hi.2 - lo.2 + 1).toNat := rfl
 have hlx := hlo.x
 have hly := hlo.y
 have hhx := hhi.x
 have hhy := hhi.y
 have hnx := bKb hlo hhi
 have hny := bIz hlo hhi
 refine aI #[] 32 Tryz.func255 rfl Tryz.results255 Tryz.ntmps255 rfl ?_
 have M0 := hO.mem
 refine aE (aA (wq (bB 1 aEo (L1.memY M0 hd1) (Nat.lt_of_le_of_lt (Nat.zero_le _) ((L1.memY M0 hd1).below_len (show ([dP lo] : List (List Value))[0]? = some (dP lo) from rfl))) rfl) rfl (wq (dY (o := 1) (.int _ _) aT (L1.memY M0 hd1) (show ([dP lo] : List (List Value))[0]? = some (dP lo) from rfl) rfl rfl) rfl ?_)))
 refine bI rfl rfl (aB (aC (aQ (dS (σ := Nat × Row) [0, 1, 2, 3] (fun (j, r) => [(5, .int .i32 (lo.2 + (j : Int)))]) (fun (j, r) w' => (j ≤ nY lo hi ∧ (ok = false → j = 0) ∧ bC 283 2 r.A r.n r.c ((pH lo hi j).map dP) r.e) ∧ Mem w (cE [(some lp, .loop rec), (some ob, bc [.slice r0.A r0.n r0.c] 281), r0.e]) [(some lp, .loop rec), (some ob, bc [.slice r.A r.n r.c] 281), r.e] w') (fun (j, r) => nY lo hi - j) (0, r0) (bA (iv rfl (by simp)) eB) (⟨⟨by omega, fun _ => rfl, hr0⟩, M0⟩) ?_))))
 rintro ⟨j, r⟩ ρ1 w1 ⟨⟨hj, hjz, hr⟩, hM1⟩
 refine aE (aE (aA (wq (dY (o := 0) (.bool _) pC (L2.memY hM1 hd2) (show ([[.bool ok]] : List (List Value))[0]? = some ([.bool ok]) from rfl) rfl rfl) rfl (wq (aH (.bool _) rfl) rfl ?_))))
 refine jR 10 _ rfl (fun g10 => ?_) (fun g10 => ?_)
 ·refine aP rfl rfl (wq (bB 1 aEo (L3.memY hM1 hd3) (Nat.lt_of_le_of_lt (Nat.zero_le _) ((L3.memY hM1 hd3).below_len (show ([dP hi] : List (List Value))[0]? = some (dP hi) from rfl))) rfl) rfl (wq (dY (o := 1) (.int _ _) aT (L3.memY hM1 hd3) (show ([dP hi] : List (List Value))[0]? = some (dP hi) from rfl) rfl rfl) rfl ?_))
  refine cZ rfl rfl rfl rfl (wq (bR true (.bool (decide _)) rfl rfl) rfl (aB (aC ?_)))
  refine aW rfl (fun h15 => ?_) (fun h15 => ?_)
  ·refine aL (aC (aE (aQ (aE (aA (wq (bB 0 aDx (L1.memY hM1 hd1) (Nat.lt_of_le_of_lt (Nat.zero_le _) ((L1.memY hM1 hd1).below_len (show ([dP lo] : List (List Value))[0]? = some (dP lo) from rfl))) rfl) rfl (wq (dY (o := 0) (.int _ _) aT (L1.memY hM1 hd1) (show ([dP lo] : List (List Value))[0]? = some (dP lo) from rfl) rfl rfl) rfl ?_)))))))
   refine bI rfl rfl (aB (aC (aQ (dS (σ := Nat × Row) [0, 1, 2, 3, 5] (fun (i, q0) => [(6, .int .i32 (lo.1 + (i : Int)))]) (fun (i, q0) w' => (i ≤ nX lo hi ∧ bC 283 2 q0.A q0.n q0.c ((pH lo hi j ++ aCz lo i j).map dP) q0.e) ∧ Mem w (cE [(some lp, .loop rec), (some ob, bc [.slice r0.A r0.n r0.c] 281), r0.e]) [(some lp, .loop rec), (some ob, bc [.slice q0.A q0.n q0.c] 281), q0.e] w') (fun (i, q0) => nX lo hi - i) (0, r) (bA (iv rfl (by simp)) eB) (⟨⟨by omega, by simpa [aCz] using hr⟩, hM1⟩) ?_))))
   rintro ⟨i, q0⟩ ρ2 w2 ⟨⟨hi2, hq0⟩, hM2⟩
   have hql : (pH lo hi j).length + i = q0.n := by simpa [aOc] using hq0.1
   refine aE (aE (aA (aP rfl rfl (wq (bB 0 aDx (L3.memY hM2 hd3) (Nat.lt_of_le_of_lt (Nat.zero_le _) ((L3.memY hM2 hd3).below_len (show ([dP hi] : List (List Value))[0]? = some (dP hi) from rfl))) rfl) rfl (wq (dY (o := 0) (.int _ _) aT (L3.memY hM2 hd3) (show ([dP hi] : List (List Value))[0]? = some (dP hi) from rfl) rfl rfl) rfl ?_)))))
   refine cZ rfl rfl rfl rfl (aB (aC ?_))
   refine aW rfl (fun h23 => ?_) (fun h23 => ?_)
   ·have hlt6 := bAh (lo := lo) (hi := hi) (i := i) (j := j) hnx (by omega) (by omega)
    refine aL (aC (aE (aQ (aE (aGv (aGy (aH (.func _ _ _) rfl) rfl rfl (aGy (aH (.int _ _) rfl) rfl rfl (aGy (aH (.int _ _) rfl) rfl rfl (aGy (cC [(0, .int _ _), (1, .int _ _)] _ aHn rfl rfl) rfl rfl ?_)))))))))
    obtain ⟨fy, ty, ay, by1, hy1, hy2⟩ := hY _ q0 ((pH lo hi j ++ aCz lo i j).map dP) (dP (lo.1 + (i : Int), lo.2 + (j : Int))) ⟨_, _, rfl⟩ (by omega) hq0 (hM2.ownSeg 0 3)
    refine aIj rfl rfl rfl rfl hy1 (hy2.mono ?_)
    rintro _ w3 ⟨rfl, q3, hqn3, hq3, hM3⟩
    have M3 : Mem _ _ [_, _, _] _ := hM2.seg 0 3 hM3
    refine ⟨_, rfl, ?_⟩
    refine bDq rfl (fun _ _ h => h) (wq (gG false rfl rfl) rfl (aB (aC (cJ rfl (aL (cV ?_))))))
    refine aC (aA (aP rfl rfl (wq (iU rfl rfl (iW _ (by omega) (by omega))) rfl (bI rfl rfl (aB ?_)))))
    refine cG (i + 1, q3) (bA (iv rfl (by omega)) eB) (cN rfl (cN rfl (cN rfl (cN rfl (cN rfl gV))))) ?_ ?_
    ·exact ⟨⟨by omega, by rw [aWm, ← List.append_assoc, List.map_append]; exact hq3⟩, M3⟩
    ·(show nX lo hi - (i + 1) < nX lo hi - i; omega)
   ·have hix : i = nX lo hi := by omega
    refine cX (dF (dK (eS (cV (aC (aA ?_))))))
    refine aP rfl rfl (wq (iU rfl rfl (iW _ (by omega) (by omega))) rfl (bI rfl rfl (aB ?_)))
    refine cG (j + 1, q0) (bA (iv rfl (by omega)) eB) (cN rfl (cN rfl (cN rfl (cN rfl gV)))) ?_ ?_
    ·exact ⟨⟨by omega, fun h => (by rw [g10] at h; cases h), by rw [aDa, ← hix]; exact hq0⟩, hM2⟩
    ·(show nY lo hi - (j + 1) < nY lo hi - j; omega)
  ·refine cX (dF (dK (eS (lD ?_))))
   exact ⟨rfl, r, by unfold zP; first | (rw [if_pos g10, show nY lo hi = j by omega]; exact hr) | (rw [if_neg (by rw [g10]; decide)]; rw [hjz g10] at hr; exact hr), hM1⟩
 ·refine aN rfl rfl (aN rfl rfl (aN rfl rfl (aN rfl rfl (wq (bR false (.bool false) rfl rfl) rfl (aB (aC ?_))))))
  refine cJ rfl (cX (dF (dK (eS (lD ?_)))))
  exact ⟨rfl, r, by unfold zP; first | (rw [if_pos g10, show nY lo hi = j by omega]; exact hr) | (rw [if_neg (by rw [g10]; decide)]; rw [hjz g10] at hr; exact hr), hM1⟩
set_option maxHeartbeats 4000000 in
theorem bDc (w : World) (a : Bx) (ha : Okx a) :
  Calls Tryz.prog 204 #[(.agg (eI a).toArray)] w (fun ex w' => ∃ v, ex = .returned v ∧ (fun v w' => ∃ r : Row, v = .slice r.A r.n r.c ∧ bC 283 2 r.A r.n r.c ((jE a).map dP) r.e ∧ Mem w [] [r.e] w') v w') := by
 refine aAn #[.tmp 2] 13 Tryz.func204 rfl Tryz.results204 Tryz.ntmps204 rfl ?_
 have M0 := Mem.refl w
 refine rU (oT (bK (.agg (List.toArray _)) M0 rfl rfl rfl (fun b1 w1 M1 => (eM rfl rfl (aB (rM ?_))))))
 refine rU (oT (aS bHu M1 rfl rfl (fun b2 w2 M2 => (aB (rM (rU ?_))))))
 refine rU (oT (wq (aX 0 kV M2 rfl rfl rfl) rfl (bY bOh rfl rfl (aRa _ a) ?_)))
 rintro v3 w3 ⟨bl, bk, bh, rfl, hM3⟩
 have M3 : Mem _ _ [_, _, _, _, _] _ := M2.call0 hM3
 refine aB (rM (aOk ?_))
 have M4 : Mem _ _ [_, _, _, _, _] _ := ((M3.keep [false, true, true, true, true]).dummy default).perm (List.Perm.cons _ (List.perm_append_comm (l₁ := [_, _, _]) (l₂ := [_])))
 refine aMx bNc M4 rfl (fun fnn B lp tmps w1 hρ hn M1 => ?_)
 refine aCy (P := Tryz.prog) (ob := b2) (Tsl := 281) (Te := 283) (sz := 2) (N := 1048576) (ok := (fun x => ∃ a b, x = [.int .i32 a, .int .i32 b])) M1 ?_ (fun hY => ?_)
 ·intro wr r ls x hok hlt hrow hO
  obtain ⟨xa, xb, rfl⟩ := hok
  refine ⟨_, _, _, _, aOd hO rfl rfl rfl hn (by decide) hρ ?_⟩
  have MR0 := hO.mem
  refine uD rfl (fun _ _ h => nomatch h.1) (aS rI MR0 rfl rfl (fun b5 w5 M5 => (bG 3 _ jX M5 rfl rfl rfl rfl rfl (aR rfl) rfl (fun w6 M6 => (aB ?_)))))
  refine ⟨rfl, _, M6, rfl, fun w7 M7 => ?_⟩
  refine aOa (uD rfl (fun _ _ h => nomatch h.1) (wq (aM 1 (.slice _ _ _) aQm M7 rfl rfl rfl) rfl (wq (aX 3 jX M7 rfl rfl rfl) rfl (cT [.agg (List.toArray _)] [[.int .i32 xa, .int .i32 xb]] rfl aZm M7 rfl rfl rfl rfl (dG rfl) (by decide) (fun b8 w8 M8 => (dJ 2 [[.int .i32 xa, .int .i32 xb]] aZm M8 rfl rfl rfl rfl rfl hrow rfl (by simp [Go.Bil.one]) (dW.ofMem 4 M8 rfl) (by omega) (fun A9 c9 e9 w9 M9 hR9 => ?_)))))))
  refine dD 1 (.slice _ _ _) aQm M9 rfl rfl rfl rfl rfl rfl (fun w10 M10 => (aB (cV ?_)))
  refine ⟨rfl, _, M10, rfl, fun w11 M11 => ?_⟩
  exact ⟨⟨A9, r.n + 1, c9, e9⟩, rfl, hR9, M11.keep [true, true, true, false, false]⟩
 ·refine (aMu _ (loC a) (hiC a) _ bl bk bh (pF 3 M1 rfl rfl) (pF 5 M1 rfl rfl) (pF 4 M1 rfl rfl) (aRr ha) (aQh ha) lp b2 _ hY ⟨none, 0, 0, (none, default)⟩ (bC.nil _ _ _) (M1.ownSeg 0 3) (M1.apartTake 3 3 rfl rfl) (M1.apartTake 3 5 rfl rfl) (M1.apartTake 3 4 rfl rfl)).mono ?_
  rintro _ w5 ⟨v5, rfl, rfl, r, hr, hM⟩
  have M5 : Mem _ _ (_ :: [_, _, _, _, _, _]) _ := M1.seg 0 3 hM
  refine ⟨_, rfl, _, M5, fun w6 M6 => ?_⟩
  refine bJh (rM (rU (aIc (aTc (aM 1 (.slice _ _ _) aQm M6 rfl rfl rfl) rfl rfl (aTc (aJ (.slice _ _ _) rfl) rfl rfl ?_)))))
  refine aTb (rM (bCb (bKc (i := 6) (.slice _ _ _) rfl M6 rfl (fun w9 M9 => ?_))))
  exact ⟨r, rfl, hr, M9.keep [false, false, true, false, false, false, false]⟩
set_option maxHeartbeats 4000000 in
theorem aMp (w : World) (F : Rd w 2 (some ⟨0, 0, none⟩) 1 [[.int .u32 73856093, .int .u32 19349663]]) (c : Int × Int) :
  Calls Tryz.prog 205 #[(.agg (dP c).toArray)] w (fun ex w' => ∃ v, ex = .returned v ∧ (fun v w' => v = .int .i64 (fC c : Int) ∧ Below w.heap.size w w') v w') := by
 refine aI #[.tmp 2] 20 Tryz.func205 rfl Tryz.results205 Tryz.ntmps205 rfl ?_
 have M0 := Mem.refl w
 refine aE (aA (bK (.agg (List.toArray _)) M0 rfl rfl rfl (fun b1 w1 M1 => (bI rfl rfl (aB (aC (aE (aA (wq (aD 0 aDx rfl) rfl (wq (aM 0 (.int _ _) aT M1 rfl rfl rfl) rfl ?_))))))))))
 refine wq (dA dQ Tryz.underlying35 rfl) rfl (wq (cA (0) bAy rfl rfl rfl (by decide)) rfl (wq (dY (k := 0) (o := 0) (.int _ _) bW (F.mem M1) (show ([[.int .u32 73856093, .int .u32 19349663]] : List (List Value))[0]? = some [.int .u32 73856093, .int .u32 19349663] from rfl) rfl rfl) rfl (wq (bZ (.int _ _) rfl rfl rfl) rfl ?_)))
 refine wq (aD 1 aEo rfl) rfl (wq (aM 0 (.int _ _) aT M1 rfl rfl rfl) rfl (wq (dA dQ Tryz.underlying35 rfl) rfl (wq (cA (1) bAy rfl rfl rfl (by decide)) rfl (wq (dY (k := 0) (o := 1) (.int _ _) bW (F.mem M1) (show ([[.int .u32 73856093, .int .u32 19349663]] : List (List Value))[0]? = some [.int .u32 73856093, .int .u32 19349663] from rfl) rfl rfl) rfl ?_))))
 refine wq (bZ (.int _ _) rfl rfl rfl) rfl (wq (bZ (.int _ _) rfl rfl rfl) rfl (bI rfl rfl (aB (aC (aE (aA (aP rfl rfl (wq (bZ (.int _ _) rfl rfl rfl) rfl ?_))))))))
 refine aK 18 (.int .u32 (uH c)) rfl (wq (aZ uV Tryz.underlying3 rfl (fH _ (by have := nA c; omega) (by have := nA c; omega))) rfl (bI rfl rfl (aB (aC (aO (cD (.int _ _) rfl ?_))))))
 exact ⟨iE (aYi c), M1.below⟩
set_option maxHeartbeats 16000000 in
theorem aNc (w : World) (F : Rd w 2 (some ⟨0, 0, none⟩) 1 [[.int .u32 73856093, .int .u32 19349663]]) (b : Nat) (rs : List Row) (cnt : Int) (g : Nat → List Int) (hG : GridRows 35 rs g) (hcnt : 0 ≤ cnt ∧ cnt ≤ 1048576) (hgl : ∀ j, j < 1024 → (g j).length ≤ 1048576) (key : Int) (a : Bx) (ha : Okx a) (hO : Own ((some b, bc (eX rs cnt) 250) :: rs.map Row.e) w) (hdF : 0 < 1 → ∀ q off, (some ⟨0, 0, none⟩ : Option Addr) = some ⟨q, off, none⟩ → q ∉ cE ((some b, bc (eX rs cnt) 250) :: rs.map Row.e)) :
  Calls Tryz.prog 181 #[.pointer (some ⟨b, 0, none⟩), .int .u32 key, (.agg (eI a).toArray)] w (fun ex w' => ∃ v, ex = .returned v ∧ (fun v w' => v = .tuple #[] ∧ ∃ rs' : List Row, GridRows 35 rs' (vB g key ((jE a).map fC)) ∧ Mem w (cE ((some b, bc (eX rs cnt) 250) :: rs.map Row.e)) ((some b, bc (eX rs' (cnt + 1)) 250) :: rs'.map Row.e) w') v w') := by
 refine aI #[] 49 Tryz.func181 rfl Tryz.results181 Tryz.ntmps181 rfl ?_
 have M0 := hO.mem
 refine aE (aA (bK (.agg (List.toArray _)) M0 rfl rfl rfl (fun b1 w1 M1 => ?_)))
 have M2 : Mem _ _ ([_, _] ++ _) _ := Mem.front (L := [_]) M1
 refine aB (aC (aE (aE (aA (wq (aH (.pointer _) rfl) rfl (wq (gD false Tryz.underlying279 rfl rfl) rfl (aB (aC (cJ rfl (aL (aC (aE (aA ?_)))))))))))))
 refine wq (aH (.pointer _) rfl) rfl (wq (bE rfl) rfl (wq (aD 1024 aLq rfl) rfl (wq (aM 0 (.int .i64 cnt) iJ M2 rfl rfl (aCh hG.len)) rfl (wq (aY rfl rfl (by omega) (by omega)) rfl (wq (bE rfl) rfl ?_)))))
 refine wq (aD 1024 aLq rfl) rfl (dD 0 (.int _ _) iJ M2 rfl rfl rfl rfl rfl (by rw [aCh hG.len]; rfl) (fun w3 M3 => ?_))
 have M3b : Mem _ _ ([(some b, bc (eX rs (cnt + 1)) 250), _] ++ rs.map Row.e) _ := Mem.cells0 M3 (aFz hG.len)
 refine aB (aC (aE (aA (mT M3b rfl rfl (fun b4 w4 M4 => ?_)))))
 have M5 : Mem _ _ ([_, _, _] ++ _) _ := Mem.front (L := [_, _]) M4
 refine wq (aJ (.map _) rfl) rfl (aB (aC (aE (aA (wq (aX 1 kV M5 rfl rfl rfl) rfl (bY bPo rfl rfl (bDc _ a ha) ?_))))))
 rintro v6 w6 ⟨r0, rfl, hR0, hM6⟩
 have M6 : Mem _ _ ([_, _, _, _] ++ _) _ := Mem.front (L := [_, _, _]) (M5.call0 hM6)
 have hcl : (jE a).length = r0.n := by simpa using hR0.1
 have hcb := aQy ha
 refine wq (dC Tryz.underlying281 rfl) rfl (aP rfl rfl (aB (aC (aQ (dS (σ := Nat × List Row × eZ) [0, 1, 6, 21, 22] (fun (i, rs1, em) => [(23, .int .i64 (i : Int))]) (fun (i, rs1, em) w' => (i ≤ r0.n ∧ GridRows 35 rs1 (vB g key (((jE a).map fC).take i)) ∧ kG .i64 Value.bool (tO (((jE a).map fC).take i)) (some b4) em) ∧ Mem w (cE ((some b, bc (eX rs cnt) 250) :: rs.map Row.e)) ([(some b, bc (eX rs1 (cnt + 1)) 250), (some b1, bc (eI a) 253), em, r0.e] ++ rs1.map Row.e) w') (fun (i, rs1, em) => r0.n - i) (0, rs, (some b4, .map #[] 0)) (bA rfl eB) (⟨⟨by omega, by rw [List.take_zero, bDp]; exact hG, (kG.empty _ _ b4).congr (fun q => by rw [List.take_zero]; exact aWn q)⟩, M6⟩) ?_)))))
 rintro ⟨i, rs1, em⟩ ρ7 w7 ⟨⟨hi, hrs, hme⟩, hM7⟩
 refine aE (aA (cZ rfl rfl rfl rfl (aB (aC (aE ?_)))))
 refine aW rfl (fun h24 => ?_) (fun h24 => ?_)
 ·obtain ⟨xc, hxc⟩ := cS (xs := jE a) (k := i) hcl (by omega)
  have hbb : ((jE a).map fC)[i]? = some (fC xc) := by rw [List.getElem?_map, hxc]; rfl
  refine aL (aC (aE (aQ (aE (aA (wq (bP (i) aZm rfl rfl rfl ((hR0.rd hM7 (bH (i := 3) rfl)).below_len (aG dP hxc)) ((hR0.rd hM7 (bH (i := 3) rfl)).someK (aG dP hxc))) rfl (wq (dN _ jX (hR0.rd hM7 (bH (i := 3) rfl)) (aG dP hxc) rfl) rfl ?_)))))))
  refine aS rI hM7 rfl rfl (fun b8 w8 M8 => ?_)
  have M9 : Mem _ _ ([_, _, _, _, _] ++ _) _ := Mem.front (L := [_, _, _, _]) M8
  refine bG 4 _ jX M9 rfl rfl rfl rfl rfl (aR rfl) rfl (fun w10 M10 => (aB (aC (aE (aA (wq (aX 4 jX M10 rfl rfl rfl) rfl (bY bOu rfl rfl (aMp _ (F.memY M10 hdF) xc) ?_)))))))
  rintro v11 w11 ⟨rfl, hb11⟩
  have M11 := M10.callB hb11
  refine bI rfl rfl (aB (aC (aE (aE (aA (wq (aH (.map _) rfl) rfl (aP rfl rfl (wq (lP (enc := Value.bool) false 2 bCc zv4 M11 rfl hme rfl rfl) rfl (aB (aC ?_))))))))))
  refine iG _ rfl (fun h31 => ?_) (fun h31 => ?_)
  ·refine cX (dF (eS (aC (aA (wq (aY rfl rfl (by omega) (by omega)) rfl (aP rfl rfl ?_))))))
   refine aB ?_
   refine cG (i + 1, rs1, em) (bA rfl eB) (cN rfl (cN rfl (cN rfl (cN rfl (cN rfl gV))))) ?_ ?_
   ·exact ⟨⟨by omega, by rw [bEl hbb (yZ.1 h31)]; exact hrs, by rw [aXd hbb (yZ.1 h31)]; exact hme⟩, Mem.keepL (L := [_, _, _, _, _]) [true, true, true, true, false] M11⟩
   ·(show r0.n - (i + 1) < r0.n - i; omega)
  ·have hnb : fC xc ∉ ((jE a).map fC).take i := fun h => by have h2 := yZ.2 h; rw [h2] at h31; cases h31
   refine aL (aC (aE (aA (wq (aH (.map _) rfl) rfl (aP rfl rfl (kN (enc := Value.bool) 2 bCc M11 rfl rfl hme rfl rfl rfl rfl (fun e12 w12 hm12 M12 => (aB (aC (bQ [(0, 0), (1, 0), (2, 0), (3, 0), (4, 0), (5, 0), (6, 0), (7, 1), (8, 0), (11, 0), (12, 0), (9, 2), (10, 2), (13, 0), (14, 2)] mixed rfl (by kernel_rfl) (fun w13 hb13 hh13 => ?_)))))))))))
   have M13 := M12.drew hb13 hh13
   refine aV rfl rfl rfl (fun _ => aH (.pointer _) rfl) (eF rfl rfl rfl (aV rfl rfl rfl (fun _ => aH (.pointer _) rfl) (eF rfl rfl rfl (aV rfl rfl rfl (fun _ => bE rfl) (aV rfl rfl rfl (fun _ => aD 0 aEz rfl) ?_)))))
   refine aV rfl rfl rfl (fun _ => cA (fC xc) aQz rfl rfl rfl (lO xc)) ?_
   obtain ⟨rb, hrb⟩ := hrs.get (lO xc)
   have hrowb := hrs.row _ _ hrb
   have hgb : vB g key (((jE a).map fC).take i) (fC xc) = g (fC xc) := by unfold vB; rw [if_neg hnb]
   have hrn : (vB g key (((jE a).map fC).take i) (fC xc)).length = rb.n := by simpa using hrowb.1
   have hgl := hgl (fC xc) (lO xc)
   rw [hgb] at hrn
   have M14 : Mem _ _ ([_, _, _, _, _, _] ++ (rs1.eraseIdx (fC xc)).map Row.e) _ := Mem.pull (L := [_, _, _, _, _]) (rs := rs1) M13 hrb
   refine bS rfl rfl rfl (aM 0 (.slice _ _ _) aIt M14 rfl rfl (vW hrb)) (eF rfl rfl rfl (aV rfl rfl rfl (fun _ => bE rfl) (aV rfl rfl rfl (fun _ => aD 0 aEz rfl) (dT [false] rfl (by kernel_rfl) (cT [.int _ _] [hJ key] rfl aMd M14 rfl rfl rfl rfl (dG rfl) (by decide) (fun b15 w15 M15 => ?_))))))
   have M16 : Mem _ _ ([_, _, _, _, _, _, _] ++ _) _ := Mem.front (L := [_, _, _, _, _, _]) M15
   refine aB (aC ⟨(dZ (bM rfl (aM 0 (.slice _ _ _) aIt M16 rfl rfl (vW hrb))) dU), ?_⟩)
   refine dT [true] rfl (by kernel_rfl) (dJ 5 [hJ key] aMd M16 rfl rfl rfl rfl rfl hrowb rfl (aPj _) (dW.ofMem 6 M16 rfl) (by omega) (fun A17 c17 e17 w17 M17 hR17 => ?_))
   refine aB (aC ⟨dU, ?_⟩)
   refine aV rfl rfl rfl (fun _ => cA (fC xc) aQz rfl rfl rfl (lO xc)) (dT [] rfl (by kernel_rfl) (dD 0 (.slice _ _ _) aIt M17 rfl rfl rfl rfl rfl (by rw [vW hrb]; rfl) (fun w18 M18 => ?_)))
   have M18b : Mem _ _ ([(some b, bc (eX (rs1.set (fC xc) (⟨A17, rb.n + 1, c17, e17⟩ : Row)) (cnt + 1)) 250), _, _, _, _, _, _] ++ (rs1.eraseIdx (fC xc)).map Row.e) _ := Mem.cells0 M18 (aFq (⟨A17, rb.n + 1, c17, e17⟩ : Row) (by rw [hrs.len]; exact lO xc))
   refine aB (aC ⟨dU, ?_⟩)
   refine bX (cV (aC (aA (wq (aY rfl rfl (by omega) (by omega)) rfl (aP rfl rfl (aB ?_))))))
   refine cG (i + 1, rs1.set (fC xc) (⟨A17, rb.n + 1, c17, e17⟩ : Row), e12) (bA rfl eB) (cN rfl (cN rfl (cN rfl (cN rfl (cN rfl gV))))) ?_ ?_
   ·exact ⟨⟨by omega, by rw [bCl hbb hnb]; exact hrs.put (r := (⟨A17, rb.n + 1, c17, e17⟩ : Row)) (lO xc) (by simpa using hR17), hm12.congr (fun q => aHx hbb q)⟩, Mem.push (L := [_, _, _, _]) (rs := rs1) (⟨A17, rb.n + 1, c17, e17⟩ : Row) (Mem.keepL (L := [_, _, _, _, _, _, _]) [true, true, true, true, false, true, false] M18b) (by rw [hrs.len]; exact lO xc)⟩
   ·(show r0.n - (i + 1) < r0.n - i; omega)
 ·have hin : i = r0.n := by omega
  rw [List.take_of_length_le (by simp; omega)] at hrs
  refine cX (dF (dK (eS (lD ?_))))
  exact ⟨rfl, rs1, hrs, Mem.keepL (L := [_, _, _, _]) [true, false, false, false] hM7⟩
end Go.Proofs.YtaoaknafiegfoaaGreatDoor
