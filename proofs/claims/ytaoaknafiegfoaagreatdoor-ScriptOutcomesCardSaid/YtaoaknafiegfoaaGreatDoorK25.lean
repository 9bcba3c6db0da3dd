/- Part of the proof of the laws of this seat: B8, C9, G10. No conditions. -/
import Derived.Test.YtaoaknafiegfoaaGreatDoorK2
import Derived.Test.YtaoaknafiegfoaaGreatDoorK5
import Derived.Test.YtaoaknafiegfoaaGreatDoorK6
import Derived.Test.YtaoaknafiegfoaaGreatDoorK11
import Derived.Test.YtaoaknafiegfoaaGreatDoorK15
set_option linter.unusedVariables false
set_option linter.unusedSimpArgs false
set_option linter.unnecessarySimpa false
namespace Go.Proofs.YtaoaknafiegfoaaGreatDoor
open Go.Bil
open Go.RowKit (Below)
open Go.Proofs
set_option maxHeartbeats 4000000 in
theorem aNo (w : World) (x : Int) (h0 : -2147483647 ≤ x) (h1 : x ≤ 2147483647) :
  Calls Tryz.prog 253 #[.int .i32 x] w (fun ex w' => ∃ v, ex = .returned v ∧ (fun v w' => v = .int .i32 (max x (-x)) ∧ Below w.heap.size w w') v w') := by
 refine aH #[.tmp 2] 7 Tryz.func253 rfl Tryz.results253 Tryz.ntmps253 rfl ?_
 have M0 := Mem.refl w
 refine aE (aA (bH rfl rfl (aB (aC (aE (aA (aP rfl rfl (aP rfl rfl (wq (pU rfl (iY _ (by omega) (by omega))) rfl ?_)))))))))
 refine wq (pX rfl rfl ) rfl (bH rfl rfl (aB (aC (aO (cD (.int _ _) rfl ?_)))))
 exact ⟨iE (by omega), M0.below⟩
set_option maxHeartbeats 4000000 in
theorem aMl (w : World) (b : Body) (hb : Okb b) :
  Calls Tryz.prog 229 #[(.agg (aF b).toArray)] w (fun ex w' => ∃ v, ex = .returned v ∧ (fun v w' => v = .tuple #[.int .i32 (aPs b), .int .i32 (aPu b)] ∧ Below w.heap.size w w') v w') := by
 have hr := hb.r
 have ha := hb.a
 have hp := hb.p
 refine aH #[.tmp 2, .tmp 3] 18 Tryz.func229 rfl Tryz.results229 Tryz.ntmps229 rfl ?_
 have M0 := Mem.refl w
 refine aE (aA (bJ (.agg (List.toArray _)) M0 rfl rfl rfl (fun b1 w1 M1 => (bH rfl rfl (bH rfl rfl (aB (aC (aE (bQ [(0, 0), (1, 0), (2, 1), (4, 0), (5, 1), (7, 0), (8, 0), (9, 1), (11, 0), (12, 1), (3, 2), (6, 0), (10, 2), (13, 0), (14, 0), (15, 0)] mixed rfl (by kernel_rfl) (fun w2 hb2 hh2 => ?_))))))))))
 have M2 := M1.drew hb2 hh2
 refine aW rfl rfl rfl (fun _ => aD 2 iS rfl) (aW rfl rfl rfl (fun _ => aD 0 cT rfl) (bS rfl rfl rfl (aM 0 (.int _ _) aS M2 rfl rfl rfl) (aW rfl rfl rfl (fun _ => aD 1 lH rfl) (bS rfl rfl rfl (aM 0 (.int _ _) aS M2 rfl rfl rfl) (aW rfl rfl rfl (fun _ => aD 2 iS rfl) ?_)))))
 refine aW rfl rfl rfl (fun _ => aD 1 cO rfl) (bS rfl rfl rfl (aM 0 (.int _ _) aS M2 rfl rfl rfl) (aW rfl rfl rfl (fun _ => aD 1 lH rfl) (bS rfl rfl rfl (aM 0 (.int _ _) aS M2 rfl rfl rfl) (dU [false, false, false, true] rfl (by kernel_rfl) (bY aZj rfl rfl (aNo _ _ (by omega) (by omega)) ?_)))))
 rintro v3 w3 ⟨rfl, hb3⟩
 have M3 := M2.callB hb3
 refine aB (aC ⟨(eB (bM rfl (aM 0 (.int _ _) aS M3 rfl rfl rfl)) (eB (bM rfl (aM 0 (.int _ _) aS M3 rfl rfl rfl)) (eB (bM rfl (aM 0 (.int _ _) aS M3 rfl rfl rfl)) dT))), ?_⟩)
 refine aW rfl rfl rfl (fun _ => iX rfl rfl (iY _ (by omega) (by omega))) (dU [false, true, false] rfl (by kernel_rfl) (bY aZj rfl rfl (aNo _ _ (by omega) (by omega)) ?_))
 rintro v4 w4 ⟨rfl, hb4⟩
 have M4 := M3.callB hb4
 refine aB (aC ⟨(eB (bM rfl (aM 0 (.int _ _) aS M4 rfl rfl rfl)) (eB (bM rfl (aM 0 (.int _ _) aS M4 rfl rfl rfl)) dT)), ?_⟩)
 refine aW rfl rfl rfl (fun _ => iX rfl rfl (iY _ (by omega) (by omega))) (mG rfl rfl rfl (mG rfl rfl rfl (bX (aC (aO (fY (.int _ _) (.int _ _) rfl rfl ?_))))))
 exact ⟨rfl, M4.below⟩
set_option maxHeartbeats 4000000 in
theorem bOh (w : World) (b : Body) (hb : Okb b) :
  Calls Tryz.prog 203 #[(.agg (aF b).toArray)] w (fun ex w' => ∃ v, ex = .returned v ∧ (fun v w' => v = (.agg (eK (gK b)).toArray) ∧ Below w.heap.size w w') v w') := by
 have hr := hb.r
 have ha := hb.a
 have hp := hb.p
 have he := bAl hb
 refine aH #[.cell 2 253] 31 Tryz.func203 rfl Tryz.results203 Tryz.ntmps203 rfl ?_
 have M0 := Mem.refl w
 refine aE (aA (bJ (.agg (List.toArray _)) M0 rfl rfl rfl (fun b1 w1 M1 => (aU aJy M1 rfl rfl (fun b2 w2 M2 => (aB (aC (aE (aA (wq (aX 0 bO M2 rfl rfl rfl) rfl (bY bLi rfl rfl (aMl _ b hb) ?_)))))))))))
 rintro v3 w3 ⟨rfl, hb3⟩
 have M3 := M2.callB hb3
 refine wq (aI (.tuple (List.toArray _)) rfl) rfl (wq (bN (.int _ _) rfl rfl) rfl (wq (bN (.int _ _) rfl rfl) rfl (bH rfl rfl (bH rfl rfl (aB (aC (aE (aA ?_))))))))
 refine wq (aD 6 fK rfl) rfl (wq (aD 0 cT rfl) rfl (wq (aM 0 (.int _ _) aS M3 rfl rfl rfl) rfl (aP rfl rfl (wq (mT rfl rfl (iY _ (by omega) (by omega))) rfl (wq (aD 6 fK rfl) rfl ?_)))))
 refine wq (aD 1 cO rfl) rfl (wq (aM 0 (.int _ _) aS M3 rfl rfl rfl) rfl (aP rfl rfl (wq (mT rfl rfl (iY _ (by omega) (by omega))) rfl (wq (aD 6 fK rfl) rfl (wq (aD 0 cT rfl) rfl ?_)))))
 refine wq (aM 0 (.int _ _) aS M3 rfl rfl rfl) rfl (aP rfl rfl (wq (iX rfl rfl (iY _ (by omega) (by omega))) rfl (wq (aD 6 fK rfl) rfl (wq (aD 1 cO rfl) rfl (wq (aM 0 (.int _ _) aS M3 rfl rfl rfl) rfl ?_)))))
 refine aP rfl rfl (wq (iX rfl rfl (iY _ (by omega) (by omega))) rfl (wq (cG [(0, .int _ _), (1, .int _ _), (2, .int _ _), (3, .int _ _)] _ aHm rfl rfl) rfl (bI 1 _ kX M3 rfl rfl rfl rfl rfl (aR rfl) rfl (fun w4 M4 => (aB (aC (aO (eL 1 kX M4 rfl rfl rfl ?_))))))))
 exact ⟨rfl, M4.below⟩
set_option maxHeartbeats 4000000 in
theorem yU (w : World) (a : Bx) :
  Calls Tryz.prog 231 #[(.agg (eK a).toArray)] w (fun ex w' => ∃ v, ex = .returned v ∧ (fun v w' => v = .bool (decide (jN a)) ∧ Below w.heap.size w w') v w') := by
 refine aH #[.tmp 2] 15 Tryz.func231 rfl Tryz.results231 Tryz.ntmps231 rfl ?_
 have M0 := Mem.refl w
 refine aE (aA (bJ (.agg (List.toArray _)) M0 rfl rfl rfl (fun b1 w1 M1 => (wq (aJ (.bool false) rfl) rfl (aB (aC (aE (aA (wq (aD 0 xY rfl) rfl (wq (aM 0 (.int _ _) aS M1 rfl rfl rfl) rfl ?_))))))))))
 refine wq (aD 2 xZ rfl) rfl (wq (aM 0 (.int _ _) aS M1 rfl rfl rfl) rfl (cY rfl rfl rfl rfl (wq (aI (.bool (decide _)) rfl) rfl ?_)))
 refine dN 8 rfl (fun g8 => ?_) (fun g8 => ?_)
 ·refine aN rfl rfl (aN rfl rfl (aN rfl rfl (aN rfl rfl (aN rfl rfl (wq (bR true (.bool true) rfl rfl) rfl ?_)))))
  refine wq (aJ (.bool true) rfl) rfl (aB (aC (aO (cD (.bool true) rfl ?_))))
  exact ⟨by unfold jN; first | exact bT (by omega) | exact bD (by omega), M1.below⟩
 ·refine wq (aD 1 xA rfl) rfl (wq (aM 0 (.int _ _) aS M1 rfl rfl rfl) rfl (wq (aD 3 wP rfl) rfl (wq (aM 0 (.int _ _) aS M1 rfl rfl rfl) rfl (cY rfl rfl rfl rfl (wq (bR false (.bool (decide _)) rfl rfl) rfl ?_)))))
  refine wq (aJ (.bool (decide _)) rfl) rfl (aB (aC (aO (cD (.bool (decide _)) rfl ?_))))
  exact ⟨by unfold jN; first | exact bT (by omega) | exact bD (by omega), M1.below⟩
set_option maxHeartbeats 4000000 in
theorem bBm (w : World) (N : Rd w 4 (some ⟨3, 0, none⟩) 1 [eK jX]) (a b : Bx) :
  Calls Tryz.prog 232 #[(.agg (eK a).toArray), (.agg (eK b).toArray)] w (fun ex w' => ∃ v, ex = .returned v ∧ (fun v w' => v = (.agg (eK (aIk a b)).toArray) ∧ Below w.heap.size w w') v w') := by
 refine aH #[.cell 4 253] 31 Tryz.func232 rfl Tryz.results232 Tryz.ntmps232 rfl ?_
 have M0 := Mem.refl w
 refine aE (aA (bJ (.agg (List.toArray _)) M0 rfl rfl rfl (fun b1 w1 M1 => (bJ (.agg (List.toArray _)) M1 rfl rfl rfl (fun b2 w2 M2 => (aU aJy M2 rfl rfl (fun b3 w3 M3 => (aB (aC (aE (aA (wq (aD 0 xY rfl) rfl ?_))))))))))))
 refine wq (aM 0 (.int _ _) aS M3 rfl rfl rfl) rfl (wq (aD 0 xY rfl) rfl (wq (aM 1 (.int _ _) aS M3 rfl rfl rfl) rfl (wq (pX rfl rfl ) rfl (wq (aD 1 xA rfl) rfl (wq (aM 0 (.int _ _) aS M3 rfl rfl rfl) rfl ?_)))))
 refine wq (aD 1 xA rfl) rfl (wq (aM 1 (.int _ _) aS M3 rfl rfl rfl) rfl (wq (pX rfl rfl ) rfl (wq (aD 2 xZ rfl) rfl (wq (aM 0 (.int _ _) aS M3 rfl rfl rfl) rfl (wq (aD 2 xZ rfl) rfl ?_)))))
 refine wq (aM 1 (.int _ _) aS M3 rfl rfl rfl) rfl (wq (aDv rfl rfl ) rfl (wq (aD 3 wP rfl) rfl (wq (aM 0 (.int _ _) aS M3 rfl rfl rfl) rfl (wq (aD 3 wP rfl) rfl (wq (aM 1 (.int _ _) aS M3 rfl rfl rfl) rfl ?_)))))
 refine wq (aDv rfl rfl ) rfl (wq (cG [(0, .int _ _), (1, .int _ _), (2, .int _ _), (3, .int _ _)] _ aHm rfl rfl) rfl (aU aJy M3 rfl rfl (fun b4 w4 M4 => (bI 3 _ kX M4 rfl rfl rfl rfl rfl (aR rfl) rfl (fun w5 M5 => (aB (aC (aE (aE (aA (wq (aX 3 kX M5 rfl rfl rfl) rfl ?_)))))))))))
 refine bY aOr rfl rfl (yU _ ⟨max a.x0 b.x0, max a.y0 b.y0, min a.x1 b.x1, min a.y1 b.y1⟩) ?_
 rintro v6 w6 ⟨rfl, hb6⟩
 have M6 := M5.callB hb6
 refine aB (aC ?_)
 refine aV rfl (fun h28 => ?_) (fun h28 => ?_)
 ·refine aE (aA (wq (aCx (k := 0) (o := 0) _ kX (N.mem M6) (show ([eK jX] : List (List Value))[0]? = some (eK jX) from rfl) rfl rfl rfl) rfl (bI 2 _ kX M6 rfl rfl rfl rfl rfl (aR rfl) rfl (fun w7 M7 => (aB (aC (aO (cM (eL 2 kX M7 rfl rfl rfl ?_)))))))))
  exact ⟨by unfold aIk; rw [if_pos h28]; rfl, M7.below⟩
 ·refine aL (aC (aE (aA (wq (aX 3 kX M6 rfl rfl rfl) rfl (bI 2 _ kX M6 rfl rfl rfl rfl rfl (aR rfl) rfl (fun w8 M8 => (aB (aC (aO (eL 2 kX M8 rfl rfl rfl ?_))))))))))
  exact ⟨by unfold aIk; rw [if_neg h28]; rfl, M8.below⟩
set_option maxHeartbeats 4000000 in
theorem aMa (w : World) (N : Rd w 4 (some ⟨3, 0, none⟩) 1 [eK jX]) (a b : Bx) :
  Calls Tryz.prog 207 #[(.agg (eK a).toArray), (.agg (eK b).toArray)] w (fun ex w' => ∃ v, ex = .returned v ∧ (fun v w' => v = .bool (decide (ovl a b)) ∧ Below w.heap.size w w') v w') := by
 refine aH #[.tmp 4] 10 Tryz.func207 rfl Tryz.results207 Tryz.ntmps207 rfl ?_
 have M0 := Mem.refl w
 refine aE (aA (bJ (.agg (List.toArray _)) M0 rfl rfl rfl (fun b1 w1 M1 => (bJ (.agg (List.toArray _)) M1 rfl rfl rfl (fun b2 w2 M2 => (wq (aJ (.bool false) rfl) rfl (aB (aC (aE (aA (wq (aX 0 kX M2 rfl rfl rfl) rfl ?_)))))))))))
 refine wq (aX 1 kX M2 rfl rfl rfl) rfl (bY bKi rfl rfl (bBm _ (N.mem M2) a b) ?_)
 rintro v3 w3 ⟨rfl, hb3⟩
 have M3 := M2.callB hb3
 refine bY aOr rfl rfl (yU _ (aIk a b)) ?_
 rintro v4 w4 ⟨rfl, hb4⟩
 have M4 := M3.callB hb4
 refine wq (oJ rfl) rfl (wq (aJ (.bool (decide _)) rfl) rfl (aB (aC (aO (cD (.bool (decide _)) rfl ?_)))))
 exact ⟨bD (bCd a b), M4.below⟩
set_option maxHeartbeats 4000000 in
theorem aTp (w : World) (x y : Int) :
  Calls Tryz.prog 267 #[.agg [.int .i32 x, .int .i32 y].toArray] w (fun ex w' => ∃ v, ex = .returned v ∧ (fun v w' => v = (.agg (dO (oU x, oU y)).toArray) ∧ Below w.heap.size w w') v w') := by
 refine aH #[.cell 2 283] 10 Tryz.func267 rfl Tryz.results267 Tryz.ntmps267 rfl ?_
 have M0 := Mem.refl w
 refine aE (aA (bJ (.agg (List.toArray _)) M0 rfl rfl rfl (fun b1 w1 M1 => (aU rN M1 rfl rfl (fun b2 w2 M2 => (aB (aC (aE (aA (wq (aD 0 cT rfl) rfl (wq (aM 0 (.int _ _) aS M2 rfl rfl rfl) rfl ?_)))))))))))
 refine wq (jQ rfl rfl (by decide)) rfl (aK 5 (.int .i32 (oU x)) (iE (bJh x)) (wq (aD 1 cO rfl) rfl (wq (aM 0 (.int _ _) aS M2 rfl rfl rfl) rfl (wq (jQ rfl rfl (by decide)) rfl (aK 8 (.int .i32 (oU y)) (iE (bJh y)) ?_)))))
 refine wq (cG [(0, .int _ _), (1, .int _ _)] _ aHt rfl rfl) rfl (bI 1 _ jU M2 rfl rfl rfl rfl rfl (aR rfl) rfl (fun w3 M3 => (aB (aC (aO (eL 1 jU M3 rfl rfl rfl ?_))))))
 exact ⟨rfl, M3.below⟩
set_option maxHeartbeats 4000000 in
theorem aVf (w : World) (a : Bx) :
  Calls Tryz.prog 254 #[(.agg (eK a).toArray)] w (fun ex w' => ∃ v, ex = .returned v ∧ (fun v w' => v = .tuple #[(.agg (dO (loC a)).toArray), (.agg (dO (hiC a)).toArray), .bool (decide (¬ jN a))] ∧ Below w.heap.size w w') v w') := by
 refine aH #[.cell 2 283, .cell 3 283, .tmp 4] 21 Tryz.func254 rfl Tryz.results254 Tryz.ntmps254 rfl ?_
 have M0 := Mem.refl w
 refine aE (aA (bJ (.agg (List.toArray _)) M0 rfl rfl rfl (fun b1 w1 M1 => (aU rN M1 rfl rfl (fun b2 w2 M2 => (aU rN M2 rfl rfl (fun b3 w3 M3 => (wq (aJ (.bool false) rfl) rfl (aB (aC (aE (aE (aA ?_)))))))))))))
 refine wq (aX 0 kX M3 rfl rfl rfl) rfl (bY aOr rfl rfl (yU _ a) ?_)
 rintro v4 w4 ⟨rfl, hb4⟩
 have M4 := M3.callB hb4
 refine aB (aC ?_)
 refine aV rfl (fun h6 => ?_) (fun h6 => ?_)
 ·refine aE (bQ [(0, 1), (1, 1), (2, 2), (3, 2), (4, 0)] mixed rfl (by kernel_rfl) (fun w5 hb5 hh5 => ?_))
  have M5 := M4.drew hb5 hh5
  refine bS rfl rfl rfl (aX 1 jU M5 rfl rfl rfl) (bS rfl rfl rfl (aX 2 jU M5 rfl rfl rfl) (dU [false, true] rfl (by kernel_rfl) (bI 1 _ jU M5 rfl rfl rfl rfl rfl (aR rfl) rfl (fun w6 M6 => ?_))))
  refine aB (aC ⟨(eB (bM rfl (aX 2 jU M6 rfl rfl rfl)) dT), ?_⟩)
  refine dU [true] rfl (by kernel_rfl) (bI 2 _ jU M6 rfl rfl rfl rfl rfl (aR rfl) rfl (fun w7 M7 => ?_))
  refine aB (aC ⟨dT, ?_⟩)
  refine aW rfl rfl rfl (fun _ => aJ (.bool false) rfl) (bX (aC (aO (cM (bIp (v3 := .bool false) 1 2 jU M7 rfl rfl rfl rfl rfl rfl rfl ?_)))))
  exact ⟨by unfold loC hiC; rw [if_pos h6, if_pos h6, decide_eq_false (fun h => h h6)]; rfl, M7.below⟩
 ·refine aL (aC (aE (bQ [(0, 0), (1, 1), (2, 0), (3, 1), (4, 0), (6, 0), (7, 1), (8, 0), (9, 1), (10, 0), (5, 2), (11, 2), (12, 2), (13, 2), (14, 0)] mixed rfl (by kernel_rfl) (fun w8 hb8 hh8 => ?_))))
  have M8 := M4.drew hb8 hh8
  refine aW rfl rfl rfl (fun _ => aD 0 xY rfl) (bS rfl rfl rfl (aM 0 (.int _ _) aS M8 rfl rfl rfl) (aW rfl rfl rfl (fun _ => aD 1 xA rfl) (bS rfl rfl rfl (aM 0 (.int _ _) aS M8 rfl rfl rfl) (aW rfl rfl rfl (fun _ => cG [(0, .int _ _), (1, .int _ _)] _ eV rfl rfl) ?_))))
  refine aW rfl rfl rfl (fun _ => aD 2 xZ rfl) (bS rfl rfl rfl (aM 0 (.int _ _) aS M8 rfl rfl rfl) (aW rfl rfl rfl (fun _ => aD 3 wP rfl) (bS rfl rfl rfl (aM 0 (.int _ _) aS M8 rfl rfl rfl) (aW rfl rfl rfl (fun _ => cG [(0, .int _ _), (1, .int _ _)] _ eV rfl rfl) ?_))))
  refine dU [false, false, true, true] rfl (by kernel_rfl) (bY aZc rfl rfl (aTp _ a.x0 a.y0) ?_)
  rintro v9 w9 ⟨rfl, hb9⟩
  have M9 := M8.callB hb9
  refine aB (aC ⟨(eB (bM rfl (aM 0 (.int _ _) aS M9 rfl rfl rfl)) (eB (bM rfl (aM 0 (.int _ _) aS M9 rfl rfl rfl)) dT)), ?_⟩)
  refine dU [true, true] rfl (by kernel_rfl) (bY aZc rfl rfl (aTp _ a.x1 a.y1) ?_)
  rintro v10 w10 ⟨rfl, hb10⟩
  have M10 := M9.callB hb10
  refine aB (aC ⟨dT, ?_⟩)
  refine dU [] rfl (by kernel_rfl) (bI 1 _ jU M10 rfl rfl rfl rfl rfl (aR rfl) rfl (fun w11 M11 => ?_))
  refine aB (aC ⟨dT, ?_⟩)
  refine dU [] rfl (by kernel_rfl) (bI 2 _ jU M11 rfl rfl rfl rfl rfl (aR rfl) rfl (fun w12 M12 => ?_))
  refine aB (aC ⟨dT, ?_⟩)
  refine aW rfl rfl rfl (fun _ => aJ (.bool true) rfl) (bX (aC (aO (bIp (v3 := .bool true) 1 2 jU M12 rfl rfl rfl rfl rfl rfl rfl ?_))))
  exact ⟨by unfold loC hiC; rw [if_neg h6, if_neg h6, decide_eq_true h6], M12.below⟩
set_option maxHeartbeats 4000000 in
theorem aOv (w : World) (a : Bx) :
  Calls Tryz.prog 230 #[(.agg (eK a).toArray)] w (fun ex w' => ∃ v, ex = .returned v ∧ (fun v w' => ∃ b1 b2 b3, v = .func (.func 255) #[] #[.pointer (some ⟨b1, 0, none⟩), .pointer (some ⟨b2, 0, none⟩), .pointer (some ⟨b3, 0, none⟩)] ∧ Mem w [] [(some b1, bc (dO (loC a)) 283), (some b3, bc (dO (hiC a)) 283), (some b2, bc [.bool (decide (¬ jN a))] 4)] w') v w') := by
 refine aH #[.tmp 2] 13 Tryz.func230 rfl Tryz.results230 Tryz.ntmps230 rfl ?_
 have M0 := Mem.refl w
 refine aE (aA (bJ (.agg (List.toArray _)) M0 rfl rfl rfl (fun b1 w1 M1 => (wq (aJ (_) rfl) rfl (aB (aC (aE (aA (wq (aX 0 kX M1 rfl rfl rfl) rfl (bY bMq rfl rfl (aVf _ a) ?_))))))))))
 rintro v2 w2 ⟨rfl, hb2⟩
 have M2 := M1.callB hb2
 refine wq (aI (.tuple (List.toArray _)) rfl) rfl (wq (bN (.agg (List.toArray _)) rfl rfl) rfl (wq (bN (.agg (List.toArray _)) rfl rfl) rfl (wq (bN (.bool (decide _)) rfl rfl) rfl (aU rN M2 rfl rfl (fun b3 w3 M3 => (aU rN M3 rfl rfl (fun b4 w4 M4 => ?_)))))))
 refine aU aTa M4 rfl rfl (fun b5 w5 M5 => (bI 1 _ jU M5 rfl rfl rfl rfl rfl (aR rfl) rfl (fun w6 M6 => (bI 2 _ jU M6 rfl rfl rfl rfl rfl (aR rfl) rfl (fun w7 M7 => (dB 3 (.bool (decide _)) pD M7 rfl rfl rfl rfl rfl rfl (fun w8 M8 => (aB (aC (aE (aA (wq (dR [] [.pointer _, .pointer _, .pointer _] rfl rfl) rfl ?_))))))))))))
 refine wq (aJ (.func _ _ _) rfl) rfl (aB (aC (aO (cD (.func _ _ _) rfl ?_))))
 exact ⟨b3, b5, b4, rfl, M8.keep [false, true, true, true]⟩
set_option maxHeartbeats 4000000 in
theorem aNr (w : World) (lo hi : Int × Int) (ok : Bool) (b1 b2 b3 : Nat) (L1 : Rd w 2 (some ⟨b1, 0, none⟩) 1 [dO lo]) (L2 : Rd w 1 (some ⟨b2, 0, none⟩) 1 [[.bool ok]]) (L3 : Rd w 2 (some ⟨b3, 0, none⟩) 1 [dO hi]) (hlo : Okc lo) (hhi : Okc hi) (lp ob : Nat) (rec : Loop) (hY : xH Tryz.prog lp ob rec 281 283 2 1048576 (fun x => ∃ a b, x = [.int .i32 a, .int .i32 b])) (r0 : Row) (hr0 : bC 283 2 r0.A r0.n r0.c [] r0.e) (hO : Own [(some lp, .loop rec), (some ob, bc [.slice r0.A r0.n r0.c] 281), r0.e] w) (hd1 : 0 < 1 → ∀ q off, (some ⟨b1, 0, none⟩ : Option Addr) = some ⟨q, off, none⟩ → q ∉ cA [(some lp, .loop rec), (some ob, bc [.slice r0.A r0.n r0.c] 281), r0.e]) (hd2 : 0 < 1 → ∀ q off, (some ⟨b2, 0, none⟩ : Option Addr) = some ⟨q, off, none⟩ → q ∉ cA [(some lp, .loop rec), (some ob, bc [.slice r0.A r0.n r0.c] 281), r0.e]) (hd3 : 0 < 1 → ∀ q off, (some ⟨b3, 0, none⟩ : Option Addr) = some ⟨q, off, none⟩ → q ∉ cA [(some lp, .loop rec), (some ob, bc [.slice r0.A r0.n r0.c] 281), r0.e]) :
  Calls Tryz.prog 255 #[.func (.yield lp) #[] #[], .pointer (some ⟨b1, 0, none⟩), .pointer (some ⟨b2, 0, none⟩), .pointer (some ⟨b3, 0, none⟩)] w (fun ex w' => ∃ v, ex = .returned v ∧ (fun v w' => v = .tuple #[] ∧ ∃ r : Row, bC 283 2 r.A r.n r.c ((zL ok lo hi).map dO) r.e ∧ Mem w (cA [(some lp, .loop rec), (some ob, bc [.slice r0.A r0.n r0.c] 281), r0.e]) [(some lp, .loop rec), (some ob, bc [.slice r.A r.n r.c] 281), r.e] w') v w') := by
 rw [← gM b1, ← gM b2, ← gM b3]
 have hxd : nX lo hi = (hi.1 - lo.1 + 1).toNat := rfl
 have hyd : nY lo hi = (hi.2 - lo.2 + 1).toNat := rfl
 have hlx := hlo.x
 have hly := hlo.y
 have hhx := hhi.x
 have hhy := hhi.y
 have hnx := bJm hlo hhi
 have hny := bIs hlo hhi
 refine aH #[] 32 Tryz.func255 rfl Tryz.results255 Tryz.ntmps255 rfl ?_
 have M0 := hO.mem
 refine aE (aA (wq (bG 1 aEw (L1.memY M0 hd1) (Nat.lt_of_le_of_lt (Nat.zero_le _) ((L1.memY M0 hd1).below_len (show ([dO lo] : List (List Value))[0]? = some (dO lo) from rfl))) rfl) rfl (wq (dX (o := 1) (.int _ _) aS (L1.memY M0 hd1) (show ([dO lo] : List (List Value))[0]? = some (dO lo) from rfl) rfl rfl) rfl ?_)))
 refine bH rfl rfl (aB (aC (aQ (dQ (σ := Nat × Row) [0, 1, 2, 3] (fun (j, r) => [(5, .int .i32 (lo.2 + (j : Int)))]) (fun (j, r) w' => (j ≤ nY lo hi ∧ (ok = false → j = 0) ∧ bC 283 2 r.A r.n r.c ((pJ lo hi j).map dO) r.e) ∧ Mem w (cA [(some lp, .loop rec), (some ob, bc [.slice r0.A r0.n r0.c] 281), r0.e]) [(some lp, .loop rec), (some ob, bc [.slice r.A r.n r.c] 281), r.e] w') (fun (j, r) => nY lo hi - j) (0, r0) (bA (iv rfl (by simp)) dY) (⟨⟨by omega, fun _ => rfl, hr0⟩, M0⟩) ?_))))
 rintro ⟨j, r⟩ ρ1 w1 ⟨⟨hj, hjz, hr⟩, hM1⟩
 refine aE (aE (aA (wq (dX (o := 0) (.bool _) pD (L2.memY hM1 hd2) (show ([[.bool ok]] : List (List Value))[0]? = some ([.bool ok]) from rfl) rfl rfl) rfl (wq (aI (.bool _) rfl) rfl ?_))))
 refine jR 10 _ rfl (fun g10 => ?_) (fun g10 => ?_)
 ·refine aP rfl rfl (wq (bG 1 aEw (L3.memY hM1 hd3) (Nat.lt_of_le_of_lt (Nat.zero_le _) ((L3.memY hM1 hd3).below_len (show ([dO hi] : List (List Value))[0]? = some (dO hi) from rfl))) rfl) rfl (wq (dX (o := 1) (.int _ _) aS (L3.memY hM1 hd3) (show ([dO hi] : List (List Value))[0]? = some (dO hi) from rfl) rfl rfl) rfl ?_))
  refine cY rfl rfl rfl rfl (wq (bR true (.bool (decide _)) rfl rfl) rfl (aB (aC ?_)))
  refine aV rfl (fun h15 => ?_) (fun h15 => ?_)
  ·refine aL (aC (aE (aQ (aE (aA (wq (bG 0 aCl (L1.memY hM1 hd1) (Nat.lt_of_le_of_lt (Nat.zero_le _) ((L1.memY hM1 hd1).below_len (show ([dO lo] : List (List Value))[0]? = some (dO lo) from rfl))) rfl) rfl (wq (dX (o := 0) (.int _ _) aS (L1.memY hM1 hd1) (show ([dO lo] : List (List Value))[0]? = some (dO lo) from rfl) rfl rfl) rfl ?_)))))))
   refine bH rfl rfl (aB (aC (aQ (dQ (σ := Nat × Row) [0, 1, 2, 3, 5] (fun (i, q0) => [(6, .int .i32 (lo.1 + (i : Int)))]) (fun (i, q0) w' => (i ≤ nX lo hi ∧ bC 283 2 q0.A q0.n q0.c ((pJ lo hi j ++ aEp lo i j).map dO) q0.e) ∧ Mem w (cA [(some lp, .loop rec), (some ob, bc [.slice r0.A r0.n r0.c] 281), r0.e]) [(some lp, .loop rec), (some ob, bc [.slice q0.A q0.n q0.c] 281), q0.e] w') (fun (i, q0) => nX lo hi - i) (0, r) (bA (iv rfl (by simp)) dY) (⟨⟨by omega, by simpa [aEp] using hr⟩, hM1⟩) ?_))))
   rintro ⟨i, q0⟩ ρ2 w2 ⟨⟨hi2, hq0⟩, hM2⟩
   have hql : (pJ lo hi j).length + i = q0.n := by simpa [aNa] using hq0.1
   refine aE (aE (aA (aP rfl rfl (wq (bG 0 aCl (L3.memY hM2 hd3) (Nat.lt_of_le_of_lt (Nat.zero_le _) ((L3.memY hM2 hd3).below_len (show ([dO hi] : List (List Value))[0]? = some (dO hi) from rfl))) rfl) rfl (wq (dX (o := 0) (.int _ _) aS (L3.memY hM2 hd3) (show ([dO hi] : List (List Value))[0]? = some (dO hi) from rfl) rfl rfl) rfl ?_)))))
   refine cY rfl rfl rfl rfl (aB (aC ?_))
   refine aV rfl (fun h23 => ?_) (fun h23 => ?_)
   ·have hlt6 := bAq (lo := lo) (hi := hi) (i := i) (j := j) hnx (by omega) (by omega)
    refine aL (aC (aE (aQ (aE (aHa (aGt (aI (.func _ _ _) rfl) rfl rfl (aGt (aI (.int _ _) rfl) rfl rfl (aGt (aI (.int _ _) rfl) rfl rfl (aGt (cG [(0, .int _ _), (1, .int _ _)] _ aHt rfl rfl) rfl rfl ?_)))))))))
    obtain ⟨fy, ty, ay, by1, hy1, hy2⟩ := hY _ q0 ((pJ lo hi j ++ aEp lo i j).map dO) (dO (lo.1 + (i : Int), lo.2 + (j : Int))) ⟨_, _, rfl⟩ (by omega) hq0 (hM2.ownSeg 0 3)
    refine aHk rfl rfl rfl rfl hy1 (hy2.mono ?_)
    rintro _ w3 ⟨rfl, q3, hqn3, hq3, hM3⟩
    have M3 : Mem _ _ [_, _, _] _ := hM2.seg 0 3 hM3
    refine ⟨_, rfl, ?_⟩
    refine bEa rfl (fun _ _ h => h) (wq (gU false rfl rfl) rfl (aB (aC (cJ rfl (aL (cU ?_))))))
    refine aC (aA (aP rfl rfl (wq (iX rfl rfl (iY _ (by omega) (by omega))) rfl (bH rfl rfl (aB ?_)))))
    refine cE (i + 1, q3) (bA (iv rfl (by omega)) dY) (cN rfl (cN rfl (cN rfl (cN rfl (cN rfl gT))))) ?_ ?_
    ·exact ⟨⟨by omega, by rw [aVt, ← List.append_assoc, List.map_append]; exact hq3⟩, M3⟩
    ·(show nX lo hi - (i + 1) < nX lo hi - i; omega)
   ·have hix : i = nX lo hi := by omega
    refine cV (dC (dK (eN (cU (aC (aA ?_))))))
    refine aP rfl rfl (wq (iX rfl rfl (iY _ (by omega) (by omega))) rfl (bH rfl rfl (aB ?_)))
    refine cE (j + 1, q0) (bA (iv rfl (by omega)) dY) (cN rfl (cN rfl (cN rfl (cN rfl gT)))) ?_ ?_
    ·exact ⟨⟨by omega, fun h => (by rw [g10] at h; cases h), by rw [aDz, ← hix]; exact hq0⟩, hM2⟩
    ·(show nY lo hi - (j + 1) < nY lo hi - j; omega)
  ·refine cV (dC (dK (eN (lA ?_))))
   exact ⟨rfl, r, by unfold zL; first | (rw [if_pos g10, show nY lo hi = j by omega]; exact hr) | (rw [if_neg (by rw [g10]; decide)]; rw [hjz g10] at hr; exact hr), hM1⟩
 ·refine aN rfl rfl (aN rfl rfl (aN rfl rfl (aN rfl rfl (wq (bR false (.bool false) rfl rfl) rfl (aB (aC ?_))))))
  refine cJ rfl (cV (dC (dK (eN (lA ?_)))))
  exact ⟨rfl, r, by unfold zL; first | (rw [if_pos g10, show nY lo hi = j by omega]; exact hr) | (rw [if_neg (by rw [g10]; decide)]; rw [hjz g10] at hr; exact hr), hM1⟩
set_option maxHeartbeats 4000000 in
theorem bBu (w : World) (a : Bx) (ha : Okx a) :
  Calls Tryz.prog 204 #[(.agg (eK a).toArray)] w (fun ex w' => ∃ v, ex = .returned v ∧ (fun v w' => ∃ r : Row, v = .slice r.A r.n r.c ∧ bC 283 2 r.A r.n r.c ((jI a).map dO) r.e ∧ Mem w [] [r.e] w') v w') := by
 refine aAy #[.tmp 2] 13 Tryz.func204 rfl Tryz.results204 Tryz.ntmps204 rfl ?_
 have M0 := Mem.refl w
 refine rJ (oS (bJ (.agg (List.toArray _)) M0 rfl rfl rfl (fun b1 w1 M1 => (eJ rfl rfl (aB (rX ?_))))))
 refine rJ (oS (aU bIi M1 rfl rfl (fun b2 w2 M2 => (aB (rX (rJ ?_))))))
 refine rJ (oS (wq (aX 0 kX M2 rfl rfl rfl) rfl (bY bKz rfl rfl (aOv _ a) ?_)))
 rintro v3 w3 ⟨bl, bk, bh, rfl, hM3⟩
 have M3 : Mem _ _ [_, _, _, _, _] _ := M2.call0 hM3
 refine aB (rX (aNs ?_))
 have M4 : Mem _ _ [_, _, _, _, _] _ := ((M3.keep [false, true, true, true, true]).dummy default).perm (List.Perm.cons _ (List.perm_append_comm (l₁ := [_, _, _]) (l₂ := [_])))
 refine aMg bLa M4 rfl (fun fnn B lp tmps w1 hρ hn M1 => ?_)
 refine aDe (P := Tryz.prog) (ob := b2) (Tsl := 281) (Te := 283) (sz := 2) (N := 1048576) (ok := (fun x => ∃ a b, x = [.int .i32 a, .int .i32 b])) M1 ?_ (fun hY => ?_)
 ·intro wr r ls x hok hlt hrow hO
  obtain ⟨xa, xb, rfl⟩ := hok
  refine ⟨_, _, _, _, aLv hO rfl rfl rfl hn (by decide) hρ ?_⟩
  have MR0 := hO.mem
  refine uV rfl (fun _ _ h => nomatch h.1) (aU rN MR0 rfl rfl (fun b5 w5 M5 => (bI 3 _ jU M5 rfl rfl rfl rfl rfl (aR rfl) rfl (fun w6 M6 => (aB ?_)))))
  refine ⟨rfl, _, M6, rfl, fun w7 M7 => ?_⟩
  refine aMt (uV rfl (fun _ _ h => nomatch h.1) (wq (aM 1 (.slice _ _ _) aRh M7 rfl rfl rfl) rfl (wq (aX 3 jU M7 rfl rfl rfl) rfl (cR [.agg (List.toArray _)] [[.int .i32 xa, .int .i32 xb]] rfl bBk M7 rfl rfl rfl rfl (dD rfl) (by decide) (fun b8 w8 M8 => (dG 2 [[.int .i32 xa, .int .i32 xb]] bBk M8 rfl rfl rfl rfl rfl hrow rfl (by simp [Go.Bil.one]) (dS.ofMem 4 M8 rfl) (by omega) (fun A9 c9 e9 w9 M9 hR9 => ?_)))))))
  refine dB 1 (.slice _ _ _) aRh M9 rfl rfl rfl rfl rfl rfl (fun w10 M10 => (aB (cU ?_)))
  refine ⟨rfl, _, M10, rfl, fun w11 M11 => ?_⟩
  exact ⟨⟨A9, r.n + 1, c9, e9⟩, rfl, hR9, M11.keep [true, true, true, false, false]⟩
 ·refine (aNr _ (loC a) (hiC a) _ bl bk bh (pB 3 M1 rfl rfl) (pB 5 M1 rfl rfl) (pB 4 M1 rfl rfl) (aOl ha) (aRs ha) lp b2 _ hY ⟨none, 0, 0, (none, default)⟩ (bC.nil _ _ _) (M1.ownSeg 0 3) (M1.apartTake 3 3 rfl rfl) (M1.apartTake 3 5 rfl rfl) (M1.apartTake 3 4 rfl rfl)).mono ?_
  rintro _ w5 ⟨v5, rfl, rfl, r, hr, hM⟩
  have M5 : Mem _ _ (_ :: [_, _, _, _, _, _]) _ := M1.seg 0 3 hM
  refine ⟨_, rfl, _, M5, fun w6 M6 => ?_⟩
  refine bIn (rX (rJ (aIg (aUj (aM 1 (.slice _ _ _) aRh M6 rfl rfl rfl) rfl rfl (aUj (aJ (.slice _ _ _) rfl) rfl rfl ?_)))))
  refine aSo (rX (bCi (bJl (i := 6) (.slice _ _ _) rfl M6 rfl (fun w9 M9 => ?_))))
  exact ⟨r, rfl, hr, M9.keep [false, false, true, false, false, false, false]⟩
set_option maxHeartbeats 4000000 in
theorem aLt (w : World) (F : Rd w 2 (some ⟨0, 0, none⟩) 1 [[.int .u32 73856093, .int .u32 19349663]]) (c : Int × Int) :
  Calls Tryz.prog 205 #[(.agg (dO c).toArray)] w (fun ex w' => ∃ v, ex = .returned v ∧ (fun v w' => v = .int .i64 (fE c : Int) ∧ Below w.heap.size w w') v w') := by
 refine aH #[.tmp 2] 20 Tryz.func205 rfl Tryz.results205 Tryz.ntmps205 rfl ?_
 have M0 := Mem.refl w
 refine aE (aA (bJ (.agg (List.toArray _)) M0 rfl rfl rfl (fun b1 w1 M1 => (bH rfl rfl (aB (aC (aE (aA (wq (aD 0 aCl rfl) rfl (wq (aM 0 (.int _ _) aS M1 rfl rfl rfl) rfl ?_))))))))))
 refine wq (dA dP Tryz.underlying35 rfl) rfl (wq (bZ (0) bDb rfl rfl rfl (by decide)) rfl (wq (dX (k := 0) (o := 0) (.int _ _) bW (F.mem M1) (show ([[.int .u32 73856093, .int .u32 19349663]] : List (List Value))[0]? = some [.int .u32 73856093, .int .u32 19349663] from rfl) rfl rfl) rfl (wq (cB (.int _ _) rfl rfl rfl) rfl ?_)))
 refine wq (aD 1 aEw rfl) rfl (wq (aM 0 (.int _ _) aS M1 rfl rfl rfl) rfl (wq (dA dP Tryz.underlying35 rfl) rfl (wq (bZ (1) bDb rfl rfl rfl (by decide)) rfl (wq (dX (k := 0) (o := 1) (.int _ _) bW (F.mem M1) (show ([[.int .u32 73856093, .int .u32 19349663]] : List (List Value))[0]? = some [.int .u32 73856093, .int .u32 19349663] from rfl) rfl rfl) rfl ?_))))
 refine wq (cB (.int _ _) rfl rfl rfl) rfl (wq (cB (.int _ _) rfl rfl rfl) rfl (bH rfl rfl (aB (aC (aE (aA (aP rfl rfl (wq (cB (.int _ _) rfl rfl rfl) rfl ?_))))))))
 refine aK 18 (.int .u32 (uC c)) rfl (wq (aZ uZ Tryz.underlying3 rfl (fG _ (by have := mW c; omega) (by have := mW c; omega))) rfl (bH rfl rfl (aB (aC (aO (cD (.int _ _) rfl ?_))))))
 exact ⟨iE (aXl c), M1.below⟩
set_option maxHeartbeats 16000000 in
theorem aNe (w : World) (F : Rd w 2 (some ⟨0, 0, none⟩) 1 [[.int .u32 73856093, .int .u32 19349663]]) (b : Nat) (rs : List Row) (cnt : Int) (g : Nat → List Int) (hG : GridRows 35 rs g) (hcnt : 0 ≤ cnt ∧ cnt ≤ 1048576) (hgl : ∀ j, j < 1024 → (g j).length ≤ 1048576) (key : Int) (a : Bx) (ha : Okx a) (hO : Own ((some b, bc (eX rs cnt) 250) :: rs.map Row.e) w) (hdF : 0 < 1 → ∀ q off, (some ⟨0, 0, none⟩ : Option Addr) = some ⟨q, off, none⟩ → q ∉ cA ((some b, bc (eX rs cnt) 250) :: rs.map Row.e)) :
  Calls Tryz.prog 181 #[.pointer (some ⟨b, 0, none⟩), .int .u32 key, (.agg (eK a).toArray)] w (fun ex w' => ∃ v, ex = .returned v ∧ (fun v w' => v = .tuple #[] ∧ ∃ rs' : List Row, GridRows 35 rs' (vB g key ((jI a).map fE)) ∧ Mem w (cA ((some b, bc (eX rs cnt) 250) :: rs.map Row.e)) ((some b, bc (eX rs' (cnt + 1)) 250) :: rs'.map Row.e) w') v w') := by
 refine aH #[] 49 Tryz.func181 rfl Tryz.results181 Tryz.ntmps181 rfl ?_
 have M0 := hO.mem
 refine aE (aA (bJ (.agg (List.toArray _)) M0 rfl rfl rfl (fun b1 w1 M1 => ?_)))
 have M2 : Mem _ _ ([_, _] ++ _) _ := Mem.front (L := [_]) M1
 refine aB (aC (aE (aE (aA (wq (aI (.pointer _) rfl) rfl (wq (gQ false Tryz.underlying279 rfl rfl) rfl (aB (aC (cJ rfl (aL (aC (aE (aA ?_)))))))))))))
 refine wq (aI (.pointer _) rfl) rfl (wq (bE rfl) rfl (wq (aD 1024 aNj rfl) rfl (wq (aM 0 (.int .i64 cnt) iP M2 rfl rfl (aCk hG.len)) rfl (wq (aY rfl rfl (by omega) (by omega)) rfl (wq (bE rfl) rfl ?_)))))
 refine wq (aD 1024 aNj rfl) rfl (dB 0 (.int _ _) iP M2 rfl rfl rfl rfl rfl (by rw [aCk hG.len]; rfl) (fun w3 M3 => ?_))
 have M3b : Mem _ _ ([(some b, bc (eX rs (cnt + 1)) 250), _] ++ rs.map Row.e) _ := Mem.cells0 M3 (aFt hG.len)
 refine aB (aC (aE (aA (mP M3b rfl rfl (fun b4 w4 M4 => ?_)))))
 have M5 : Mem _ _ ([_, _, _] ++ _) _ := Mem.front (L := [_, _]) M4
 refine wq (aJ (.map _) rfl) rfl (aB (aC (aE (aA (wq (aX 1 kX M5 rfl rfl rfl) rfl (bY bKg rfl rfl (bBu _ a ha) ?_))))))
 rintro v6 w6 ⟨r0, rfl, hR0, hM6⟩
 have M6 : Mem _ _ ([_, _, _, _] ++ _) _ := Mem.front (L := [_, _, _]) (M5.call0 hM6)
 have hcl : (jI a).length = r0.n := by simpa using hR0.1
 have hcb := aPc ha
 refine wq (cZ Tryz.underlying281 rfl) rfl (aP rfl rfl (aB (aC (aQ (dQ (σ := Nat × List Row × eZ) [0, 1, 6, 21, 22] (fun (i, rs1, em) => [(23, .int .i64 (i : Int))]) (fun (i, rs1, em) w' => (i ≤ r0.n ∧ GridRows 35 rs1 (vB g key (((jI a).map fE).take i)) ∧ kA .i64 Value.bool (tG (((jI a).map fE).take i)) (some b4) em) ∧ Mem w (cA ((some b, bc (eX rs cnt) 250) :: rs.map Row.e)) ([(some b, bc (eX rs1 (cnt + 1)) 250), (some b1, bc (eK a) 253), em, r0.e] ++ rs1.map Row.e) w') (fun (i, rs1, em) => r0.n - i) (0, rs, (some b4, .map #[] 0)) (bA rfl dY) (⟨⟨by omega, by rw [List.take_zero, bEc]; exact hG, (kA.empty _ _ b4).congr (fun q => by rw [List.take_zero]; exact aWz q)⟩, M6⟩) ?_)))))
 rintro ⟨i, rs1, em⟩ ρ7 w7 ⟨⟨hi, hrs, hme⟩, hM7⟩
 refine aE (aA (cY rfl rfl rfl rfl (aB (aC (aE ?_)))))
 refine aV rfl (fun h24 => ?_) (fun h24 => ?_)
 ·obtain ⟨xc, hxc⟩ := cS (xs := jI a) (k := i) hcl (by omega)
  have hbb : ((jI a).map fE)[i]? = some (fE xc) := by rw [List.getElem?_map, hxc]; rfl
  refine aL (aC (aE (aQ (aE (aA (wq (bP (i) bBk rfl rfl rfl ((hR0.rd hM7 (bB (i := 3) rfl)).below_len (aG dO hxc)) ((hR0.rd hM7 (bB (i := 3) rfl)).someK (aG dO hxc))) rfl (wq (dL _ jU (hR0.rd hM7 (bB (i := 3) rfl)) (aG dO hxc) rfl) rfl ?_)))))))
  refine aU rN hM7 rfl rfl (fun b8 w8 M8 => ?_)
  have M9 : Mem _ _ ([_, _, _, _, _] ++ _) _ := Mem.front (L := [_, _, _, _]) M8
  refine bI 4 _ jU M9 rfl rfl rfl rfl rfl (aR rfl) rfl (fun w10 M10 => (aB (aC (aE (aA (wq (aX 4 jU M10 rfl rfl rfl) rfl (bY bKw rfl rfl (aLt _ (F.memY M10 hdF) xc) ?_)))))))
  rintro v11 w11 ⟨rfl, hb11⟩
  have M11 := M10.callB hb11
  refine bH rfl rfl (aB (aC (aE (aE (aA (wq (aI (.map _) rfl) rfl (aP rfl rfl (wq (lQ (enc := Value.bool) false 2 bDv zv4 M11 rfl hme rfl rfl) rfl (aB (aC ?_))))))))))
  refine iD _ rfl (fun h31 => ?_) (fun h31 => ?_)
  ·refine cV (dC (eN (aC (aA (wq (aY rfl rfl (by omega) (by omega)) rfl (aP rfl rfl ?_))))))
   refine aB ?_
   refine cE (i + 1, rs1, em) (bA rfl dY) (cN rfl (cN rfl (cN rfl (cN rfl (cN rfl gT))))) ?_ ?_
   ·exact ⟨⟨by omega, by rw [bEd hbb (yN.1 h31)]; exact hrs, by rw [aUo hbb (yN.1 h31)]; exact hme⟩, Mem.keepL (L := [_, _, _, _, _]) [true, true, true, true, false] M11⟩
   ·(show r0.n - (i + 1) < r0.n - i; omega)
  ·have hnb : fE xc ∉ ((jI a).map fE).take i := fun h => by have h2 := yN.2 h; rw [h2] at h31; cases h31
   refine aL (aC (aE (aA (wq (aI (.map _) rfl) rfl (aP rfl rfl (kN (enc := Value.bool) 2 bDv M11 rfl rfl hme rfl rfl rfl rfl (fun e12 w12 hm12 M12 => (aB (aC (bQ [(0, 0), (1, 0), (2, 0), (3, 0), (4, 0), (5, 0), (6, 0), (7, 1), (8, 0), (11, 0), (12, 0), (9, 2), (10, 2), (13, 0), (14, 2)] mixed rfl (by kernel_rfl) (fun w13 hb13 hh13 => ?_)))))))))))
   have M13 := M12.drew hb13 hh13
   refine aW rfl rfl rfl (fun _ => aI (.pointer _) rfl) (eD rfl rfl rfl (aW rfl rfl rfl (fun _ => aI (.pointer _) rfl) (eD rfl rfl rfl (aW rfl rfl rfl (fun _ => bE rfl) (aW rfl rfl rfl (fun _ => aD 0 aEh rfl) ?_)))))
   refine aW rfl rfl rfl (fun _ => bZ (fE xc) aRe rfl rfl rfl (lT xc)) ?_
   obtain ⟨rb, hrb⟩ := hrs.get (lT xc)
   have hrowb := hrs.row _ _ hrb
   have hgb : vB g key (((jI a).map fE).take i) (fE xc) = g (fE xc) := by unfold vB; rw [if_neg hnb]
   have hrn : (vB g key (((jI a).map fE).take i) (fE xc)).length = rb.n := by simpa using hrowb.1
   have hgl := hgl (fE xc) (lT xc)
   rw [hgb] at hrn
   have M14 : Mem _ _ ([_, _, _, _, _, _] ++ (rs1.eraseIdx (fE xc)).map Row.e) _ := Mem.pull (L := [_, _, _, _, _]) (rs := rs1) M13 hrb
   refine bS rfl rfl rfl (aM 0 (.slice _ _ _) aIm M14 rfl rfl (wE hrb)) (eD rfl rfl rfl (aW rfl rfl rfl (fun _ => bE rfl) (aW rfl rfl rfl (fun _ => aD 0 aEh rfl) (dU [false] rfl (by kernel_rfl) (cR [.int _ _] [gZ key] rfl aMf M14 rfl rfl rfl rfl (dD rfl) (by decide) (fun b15 w15 M15 => ?_))))))
   have M16 : Mem _ _ ([_, _, _, _, _, _, _] ++ _) _ := Mem.front (L := [_, _, _, _, _, _]) M15
   refine aB (aC ⟨(eB (bM rfl (aM 0 (.slice _ _ _) aIm M16 rfl rfl (wE hrb))) dT), ?_⟩)
   refine dU [true] rfl (by kernel_rfl) (dG 5 [gZ key] aMf M16 rfl rfl rfl rfl rfl hrowb rfl (aPy _) (dS.ofMem 6 M16 rfl) (by omega) (fun A17 c17 e17 w17 M17 hR17 => ?_))
   refine aB (aC ⟨dT, ?_⟩)
   refine aW rfl rfl rfl (fun _ => bZ (fE xc) aRe rfl rfl rfl (lT xc)) (dU [] rfl (by kernel_rfl) (dB 0 (.slice _ _ _) aIm M17 rfl rfl rfl rfl rfl (by rw [wE hrb]; rfl) (fun w18 M18 => ?_)))
   have M18b : Mem _ _ ([(some b, bc (eX (rs1.set (fE xc) (⟨A17, rb.n + 1, c17, e17⟩ : Row)) (cnt + 1)) 250), _, _, _, _, _, _] ++ (rs1.eraseIdx (fE xc)).map Row.e) _ := Mem.cells0 M18 (aFv (⟨A17, rb.n + 1, c17, e17⟩ : Row) (by rw [hrs.len]; exact lT xc))
   refine aB (aC ⟨dT, ?_⟩)
   refine bX (cU (aC (aA (wq (aY rfl rfl (by omega) (by omega)) rfl (aP rfl rfl (aB ?_))))))
   refine cE (i + 1, rs1.set (fE xc) (⟨A17, rb.n + 1, c17, e17⟩ : Row), e12) (bA rfl dY) (cN rfl (cN rfl (cN rfl (cN rfl (cN rfl gT))))) ?_ ?_
   ·exact ⟨⟨by omega, by rw [bEf hbb hnb]; exact hrs.put (r := (⟨A17, rb.n + 1, c17, e17⟩ : Row)) (lT xc) (by simpa using hR17), hm12.congr (fun q => aHx hbb q)⟩, Mem.push (L := [_, _, _, _]) (rs := rs1) (⟨A17, rb.n + 1, c17, e17⟩ : Row) (Mem.keepL (L := [_, _, _, _, _, _, _]) [true, true, true, true, false, true, false] M18b) (by rw [hrs.len]; exact lT xc)⟩
   ·(show r0.n - (i + 1) < r0.n - i; omega)
 ·have hin : i = r0.n := by omega
  rw [List.take_of_length_le (by simp; omega)] at hrs
  refine cV (dC (dK (eN (lA ?_))))
  exact ⟨rfl, rs1, hrs, Mem.keepL (L := [_, _, _, _]) [true, false, false, false] hM7⟩
end Go.Proofs.YtaoaknafiegfoaaGreatDoor
