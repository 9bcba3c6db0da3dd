/- Part of the proof of the laws of this seat: B8, C9, G10. No conditions. -/
import Derived.Test.YtaoaknafiegfoaaGreatDoorK2
import Derived.Test.YtaoaknafiegfoaaGreatDoorK5
import Derived.Test.YtaoaknafiegfoaaGreatDoorK6
import Derived.Test.YtaoaknafiegfoaaGreatDoorK11
import Derived.Test.YtaoaknafiegfoaaGreatDoorK15
set_option linter.unusedVariables false
set_option linter.unusedSimpArgs false
set_option linter.unnecessarySimpa false
namespace Go.Proofs.YtaoaknafiegfoaaGreatDoor
open Go.Bil
open Go.RowKit (Below)
open Go.Proofs
set_option maxHeartbeats 4000000 in
theorem aLe (w : World) (x : Int) (h0 : -2147483647 ≤ x) (h1 : x ≤ 2147483647) :
  Calls Tryz.prog 253 #[.int .i32 x] w (fun ex w' => ∃ v, ex = .returned v ∧ (fun v w' => v = .int .i32 (max x (-x)) ∧ Below w.heap.size w w') v w') := by
 refine aI #[.tmp 2] 7 Tryz.func253 rfl Tryz.results253 Tryz.ntmps253 rfl ?_
 have M0 := Mem.refl w
 refine aE (aA (bH rfl rfl (aB (aC (aE (aA (aP rfl rfl (aP rfl rfl (wq (qB rfl (jC _ (by omega) (by omega))) rfl ?_)))))))))
 refine wq (pV rfl rfl ) rfl (bH rfl rfl (aB (aC (aO (cG (.int _ _) rfl ?_)))))
 exact ⟨iE (by omega), M0.below⟩
set_option maxHeartbeats 4000000 in
theorem aMq (w : World) (b : Body) (hb : Okb b) :
  Calls Tryz.prog 229 #[(.agg (aF b).toArray)] w (fun ex w' => ∃ v, ex = .returned v ∧ (fun v w' => v = .tuple #[.int .i32 (aOo b), .int .i32 (aOy b)] ∧ Below w.heap.size w w') v w') := by
 have hr := hb.r
 have ha := hb.a
 have hp := hb.p
 refine aI #[.tmp 2, .tmp 3] 18 Tryz.func229 rfl Tryz.results229 Tryz.ntmps229 rfl ?_
 have M0 := Mem.refl w
 refine aE (aA (bJ (.agg (List.toArray _)) M0 rfl rfl rfl (fun b1 w1 M1 => (bH rfl rfl (bH rfl rfl (aB (aC (aE (bR [(0, 0), (1, 0), (2, 1), (4, 0), (5, 1), (7, 0), (8, 0), (9, 1), (11, 0), (12, 1), (3, 2), (6, 0), (10, 2), (13, 0), (14, 0), (15, 0)] mixed rfl (by kernel_rfl) (fun w2 hb2 hh2 => ?_))))))))))
 have M2 := M1.drew hb2 hh2
 refine aU rfl rfl rfl (fun _ => aD 2 iR rfl) (aU rfl rfl rfl (fun _ => aD 0 cS rfl) (bS rfl rfl rfl (aM 0 (.int _ _) aV M2 rfl rfl rfl) (aU rfl rfl rfl (fun _ => aD 1 lH rfl) (bS rfl rfl rfl (aM 0 (.int _ _) aV M2 rfl rfl rfl) (aU rfl rfl rfl (fun _ => aD 2 iR rfl) ?_)))))
 refine aU rfl rfl rfl (fun _ => aD 1 cN rfl) (bS rfl rfl rfl (aM 0 (.int _ _) aV M2 rfl rfl rfl) (aU rfl rfl rfl (fun _ => aD 1 lH rfl) (bS rfl rfl rfl (aM 0 (.int _ _) aV M2 rfl rfl rfl) (dU [false, false, false, true] rfl (by kernel_rfl) (bY bEe rfl rfl (aLe _ _ (by omega) (by omega)) ?_)))))
 rintro v3 w3 ⟨rfl, hb3⟩
 have M3 := M2.callB hb3
 refine aB (aC ⟨(eD (bL rfl (aM 0 (.int _ _) aV M3 rfl rfl rfl)) (eD (bL rfl (aM 0 (.int _ _) aV M3 rfl rfl rfl)) (eD (bL rfl (aM 0 (.int _ _) aV M3 rfl rfl rfl)) dT))), ?_⟩)
 refine aU rfl rfl rfl (fun _ => jD rfl rfl (jC _ (by omega) (by omega))) (dU [false, true, false] rfl (by kernel_rfl) (bY bEe rfl rfl (aLe _ _ (by omega) (by omega)) ?_))
 rintro v4 w4 ⟨rfl, hb4⟩
 have M4 := M3.callB hb4
 refine aB (aC ⟨(eD (bL rfl (aM 0 (.int _ _) aV M4 rfl rfl rfl)) (eD (bL rfl (aM 0 (.int _ _) aV M4 rfl rfl rfl)) dT)), ?_⟩)
 refine aU rfl rfl rfl (fun _ => jD rfl rfl (jC _ (by omega) (by omega))) (mG rfl rfl rfl (mG rfl rfl rfl (bX (aC (aO (fY (.int _ _) (.int _ _) rfl rfl ?_))))))
 exact ⟨rfl, M4.below⟩
set_option maxHeartbeats 4000000 in
theorem bMo (w : World) (b : Body) (hb : Okb b) :
  Calls Tryz.prog 203 #[(.agg (aF b).toArray)] w (fun ex w' => ∃ v, ex = .returned v ∧ (fun v w' => v = (.agg (eK (gM b)).toArray) ∧ Below w.heap.size w w') v w') := by
 have hr := hb.r
 have ha := hb.a
 have hp := hb.p
 have he := bCp hb
 refine aI #[.cell 2 253] 31 Tryz.func203 rfl Tryz.results203 Tryz.ntmps203 rfl ?_
 have M0 := Mem.refl w
 refine aE (aA (bJ (.agg (List.toArray _)) M0 rfl rfl rfl (fun b1 w1 M1 => (aT aJl M1 rfl rfl (fun b2 w2 M2 => (aB (aC (aE (aA (wq (aX 0 bP M2 rfl rfl rfl) rfl (bY bNp rfl rfl (aMq _ b hb) ?_)))))))))))
 rintro v3 w3 ⟨rfl, hb3⟩
 have M3 := M2.callB hb3
 refine wq (aH (.tuple (List.toArray _)) rfl) rfl (wq (bN (.int _ _) rfl rfl) rfl (wq (bN (.int _ _) rfl rfl) rfl (bH rfl rfl (bH rfl rfl (aB (aC (aE (aA ?_))))))))
 refine wq (aD 6 fK rfl) rfl (wq (aD 0 cS rfl) rfl (wq (aM 0 (.int _ _) aV M3 rfl rfl rfl) rfl (aP rfl rfl (wq (mP rfl rfl (jC _ (by omega) (by omega))) rfl (wq (aD 6 fK rfl) rfl ?_)))))
 refine wq (aD 1 cN rfl) rfl (wq (aM 0 (.int _ _) aV M3 rfl rfl rfl) rfl (aP rfl rfl (wq (mP rfl rfl (jC _ (by omega) (by omega))) rfl (wq (aD 6 fK rfl) rfl (wq (aD 0 cS rfl) rfl ?_)))))
 refine wq (aM 0 (.int _ _) aV M3 rfl rfl rfl) rfl (aP rfl rfl (wq (jD rfl rfl (jC _ (by omega) (by omega))) rfl (wq (aD 6 fK rfl) rfl (wq (aD 1 cN rfl) rfl (wq (aM 0 (.int _ _) aV M3 rfl rfl rfl) rfl ?_)))))
 refine aP rfl rfl (wq (jD rfl rfl (jC _ (by omega) (by omega))) rfl (wq (cF [(0, .int _ _), (1, .int _ _), (2, .int _ _), (3, .int _ _)] _ aIf rfl rfl) rfl (bI 1 _ kV M3 rfl rfl rfl rfl rfl (aR rfl) rfl (fun w4 M4 => (aB (aC (aO (eL 1 kV M4 rfl rfl rfl ?_))))))))
 exact ⟨rfl, M4.below⟩
set_option maxHeartbeats 4000000 in
theorem yX (w : World) (a : Bx) :
  Calls Tryz.prog 231 #[(.agg (eK a).toArray)] w (fun ex w' => ∃ v, ex = .returned v ∧ (fun v w' => v = .bool (decide (jO a)) ∧ Below w.heap.size w w') v w') := by
 refine aI #[.tmp 2] 15 Tryz.func231 rfl Tryz.results231 Tryz.ntmps231 rfl ?_
 have M0 := Mem.refl w
 refine aE (aA (bJ (.agg (List.toArray _)) M0 rfl rfl rfl (fun b1 w1 M1 => (wq (aJ (.bool false) rfl) rfl (aB (aC (aE (aA (wq (aD 0 wZ rfl) rfl (wq (aM 0 (.int _ _) aV M1 rfl rfl rfl) rfl ?_))))))))))
 refine wq (aD 2 xJ rfl) rfl (wq (aM 0 (.int _ _) aV M1 rfl rfl rfl) rfl (cY rfl rfl rfl rfl (wq (aH (.bool (decide _)) rfl) rfl ?_)))
 refine dN 8 rfl (fun g8 => ?_) (fun g8 => ?_)
 ·refine aN rfl rfl (aN rfl rfl (aN rfl rfl (aN rfl rfl (aN rfl rfl (wq (bQ true (.bool true) rfl rfl) rfl ?_)))))
  refine wq (aJ (.bool true) rfl) rfl (aB (aC (aO (cG (.bool true) rfl ?_))))
  exact ⟨by unfold jO; first | exact bT (by omega) | exact bD (by omega), M1.below⟩
 ·refine wq (aD 1 wU rfl) rfl (wq (aM 0 (.int _ _) aV M1 rfl rfl rfl) rfl (wq (aD 3 yE rfl) rfl (wq (aM 0 (.int _ _) aV M1 rfl rfl rfl) rfl (cY rfl rfl rfl rfl (wq (bQ false (.bool (decide _)) rfl rfl) rfl ?_)))))
  refine wq (aJ (.bool (decide _)) rfl) rfl (aB (aC (aO (cG (.bool (decide _)) rfl ?_))))
  exact ⟨by unfold jO; first | exact bT (by omega) | exact bD (by omega), M1.below⟩
set_option maxHeartbeats 4000000 in
theorem aYq (w : World) (N : Rd w 4 (some ⟨3, 0, none⟩) 1 [eK jY]) (a b : Bx) :
  Calls Tryz.prog 232 #[(.agg (eK a).toArray), (.agg (eK b).toArray)] w (fun ex w' => ∃ v, ex = .returned v ∧ (fun v w' => v = (.agg (eK (aHq a b)).toArray) ∧ Below w.heap.size w w') v w') := by
 refine aI #[.cell 4 253] 31 Tryz.func232 rfl Tryz.results232 Tryz.ntmps232 rfl ?_
 have M0 := Mem.refl w
 refine aE (aA (bJ (.agg (List.toArray _)) M0 rfl rfl rfl (fun b1 w1 M1 => (bJ (.agg (List.toArray _)) M1 rfl rfl rfl (fun b2 w2 M2 => (aT aJl M2 rfl rfl (fun b3 w3 M3 => (aB (aC (aE (aA (wq (aD 0 wZ rfl) rfl ?_))))))))))))
 refine wq (aM 0 (.int _ _) aV M3 rfl rfl rfl) rfl (wq (aD 0 wZ rfl) rfl (wq (aM 1 (.int _ _) aV M3 rfl rfl rfl) rfl (wq (pV rfl rfl ) rfl (wq (aD 1 wU rfl) rfl (wq (aM 0 (.int _ _) aV M3 rfl rfl rfl) rfl ?_)))))
 refine wq (aD 1 wU rfl) rfl (wq (aM 1 (.int _ _) aV M3 rfl rfl rfl) rfl (wq (pV rfl rfl ) rfl (wq (aD 2 xJ rfl) rfl (wq (aM 0 (.int _ _) aV M3 rfl rfl rfl) rfl (wq (aD 2 xJ rfl) rfl ?_)))))
 refine wq (aM 1 (.int _ _) aV M3 rfl rfl rfl) rfl (wq (aEl rfl rfl ) rfl (wq (aD 3 yE rfl) rfl (wq (aM 0 (.int _ _) aV M3 rfl rfl rfl) rfl (wq (aD 3 yE rfl) rfl (wq (aM 1 (.int _ _) aV M3 rfl rfl rfl) rfl ?_)))))
 refine wq (aEl rfl rfl ) rfl (wq (cF [(0, .int _ _), (1, .int _ _), (2, .int _ _), (3, .int _ _)] _ aIf rfl rfl) rfl (aT aJl M3 rfl rfl (fun b4 w4 M4 => (bI 3 _ kV M4 rfl rfl rfl rfl rfl (aR rfl) rfl (fun w5 M5 => (aB (aC (aE (aE (aA (wq (aX 3 kV M5 rfl rfl rfl) rfl ?_)))))))))))
 refine bY aPx rfl rfl (yX _ ⟨max a.x0 b.x0, max a.y0 b.y0, min a.x1 b.x1, min a.y1 b.y1⟩) ?_
 rintro v6 w6 ⟨rfl, hb6⟩
 have M6 := M5.callB hb6
 refine aB (aC ?_)
 refine aW rfl (fun h28 => ?_) (fun h28 => ?_)
 ·refine aE (aA (wq (aFj (k := 0) (o := 0) _ kV (N.mem M6) (show ([eK jY] : List (List Value))[0]? = some (eK jY) from rfl) rfl rfl rfl) rfl (bI 2 _ kV M6 rfl rfl rfl rfl rfl (aR rfl) rfl (fun w7 M7 => (aB (aC (aO (cO (eL 2 kV M7 rfl rfl rfl ?_)))))))))
  exact ⟨by unfold aHq; rw [if_pos h28]; rfl, M7.below⟩
 ·refine aL (aC (aE (aA (wq (aX 3 kV M6 rfl rfl rfl) rfl (bI 2 _ kV M6 rfl rfl rfl rfl rfl (aR rfl) rfl (fun w8 M8 => (aB (aC (aO (eL 2 kV M8 rfl rfl rfl ?_))))))))))
  exact ⟨by unfold aHq; rw [if_neg h28]; rfl, M8.below⟩
set_option maxHeartbeats 4000000 in
theorem aLk (w : World) (N : Rd w 4 (some ⟨3, 0, none⟩) 1 [eK jY]) (a b : Bx) :
  Calls Tryz.prog 207 #[(.agg (eK a).toArray), (.agg (eK b).toArray)] w (fun ex w' => ∃ v, ex = .returned v ∧ (fun v w' => v = .bool (decide (ovl a b)) ∧ Below w.heap.size w w') v w') := by
 refine aI #[.tmp 4] 10 Tryz.func207 rfl Tryz.results207 Tryz.ntmps207 rfl ?_
 have M0 := Mem.refl w
 refine aE (aA (bJ (.agg (List.toArray _)) M0 rfl rfl rfl (fun b1 w1 M1 => (bJ (.agg (List.toArray _)) M1 rfl rfl rfl (fun b2 w2 M2 => (wq (aJ (.bool false) rfl) rfl (aB (aC (aE (aA (wq (aX 0 kV M2 rfl rfl rfl) rfl ?_)))))))))))
 refine wq (aX 1 kV M2 rfl rfl rfl) rfl (bY bLg rfl rfl (aYq _ (N.mem M2) a b) ?_)
 rintro v3 w3 ⟨rfl, hb3⟩
 have M3 := M2.callB hb3
 refine bY aPx rfl rfl (yX _ (aHq a b)) ?_
 rintro v4 w4 ⟨rfl, hb4⟩
 have M4 := M3.callB hb4
 refine wq (oO rfl) rfl (wq (aJ (.bool (decide _)) rfl) rfl (aB (aC (aO (cG (.bool (decide _)) rfl ?_)))))
 exact ⟨bD (bDj a b), M4.below⟩
set_option maxHeartbeats 4000000 in
theorem aSz (w : World) (x y : Int) :
  Calls Tryz.prog 267 #[.agg [.int .i32 x, .int .i32 y].toArray] w (fun ex w' => ∃ v, ex = .returned v ∧ (fun v w' => v = (.agg (dO (oU x, oU y)).toArray) ∧ Below w.heap.size w w') v w') := by
 refine aI #[.cell 2 283] 10 Tryz.func267 rfl Tryz.results267 Tryz.ntmps267 rfl ?_
 have M0 := Mem.refl w
 refine aE (aA (bJ (.agg (List.toArray _)) M0 rfl rfl rfl (fun b1 w1 M1 => (aT rE M1 rfl rfl (fun b2 w2 M2 => (aB (aC (aE (aA (wq (aD 0 cS rfl) rfl (wq (aM 0 (.int _ _) aV M2 rfl rfl rfl) rfl ?_)))))))))))
 refine wq (jT rfl rfl (by decide)) rfl (aK 5 (.int .i32 (oU x)) (iE (bJl x)) (wq (aD 1 cN rfl) rfl (wq (aM 0 (.int _ _) aV M2 rfl rfl rfl) rfl (wq (jT rfl rfl (by decide)) rfl (aK 8 (.int .i32 (oU y)) (iE (bJl y)) ?_)))))
 refine wq (cF [(0, .int _ _), (1, .int _ _)] _ aGx rfl rfl) rfl (bI 1 _ jX M2 rfl rfl rfl rfl rfl (aR rfl) rfl (fun w3 M3 => (aB (aC (aO (eL 1 jX M3 rfl rfl rfl ?_))))))
 exact ⟨rfl, M3.below⟩
set_option maxHeartbeats 4000000 in
theorem aXj (w : World) (a : Bx) :
  Calls Tryz.prog 254 #[(.agg (eK a).toArray)] w (fun ex w' => ∃ v, ex = .returned v ∧ (fun v w' => v = .tuple #[(.agg (dO (loC a)).toArray), (.agg (dO (hiC a)).toArray), .bool (decide (¬ jO a))] ∧ Below w.heap.size w w') v w') := by
 refine aI #[.cell 2 283, .cell 3 283, .tmp 4] 21 Tryz.func254 rfl Tryz.results254 Tryz.ntmps254 rfl ?_
 have M0 := Mem.refl w
 refine aE (aA (bJ (.agg (List.toArray _)) M0 rfl rfl rfl (fun b1 w1 M1 => (aT rE M1 rfl rfl (fun b2 w2 M2 => (aT rE M2 rfl rfl (fun b3 w3 M3 => (wq (aJ (.bool false) rfl) rfl (aB (aC (aE (aE (aA ?_)))))))))))))
 refine wq (aX 0 kV M3 rfl rfl rfl) rfl (bY aPx rfl rfl (yX _ a) ?_)
 rintro v4 w4 ⟨rfl, hb4⟩
 have M4 := M3.callB hb4
 refine aB (aC ?_)
 refine aW rfl (fun h6 => ?_) (fun h6 => ?_)
 ·refine aE (bR [(0, 1), (1, 1), (2, 2), (3, 2), (4, 0)] mixed rfl (by kernel_rfl) (fun w5 hb5 hh5 => ?_))
  have M5 := M4.drew hb5 hh5
  refine bS rfl rfl rfl (aX 1 jX M5 rfl rfl rfl) (bS rfl rfl rfl (aX 2 jX M5 rfl rfl rfl) (dU [false, true] rfl (by kernel_rfl) (bI 1 _ jX M5 rfl rfl rfl rfl rfl (aR rfl) rfl (fun w6 M6 => ?_))))
  refine aB (aC ⟨(eD (bL rfl (aX 2 jX M6 rfl rfl rfl)) dT), ?_⟩)
  refine dU [true] rfl (by kernel_rfl) (bI 2 _ jX M6 rfl rfl rfl rfl rfl (aR rfl) rfl (fun w7 M7 => ?_))
  refine aB (aC ⟨dT, ?_⟩)
  refine aU rfl rfl rfl (fun _ => aJ (.bool false) rfl) (bX (aC (aO (cO (bJg (v3 := .bool false) 1 2 jX M7 rfl rfl rfl rfl rfl rfl rfl ?_)))))
  exact ⟨by unfold loC hiC; rw [if_pos h6, if_pos h6, decide_eq_false (fun h => h h6)]; rfl, M7.below⟩
 ·refine aL (aC (aE (bR [(0, 0), (1, 1), (2, 0), (3, 1), (4, 0), (6, 0), (7, 1), (8, 0), (9, 1), (10, 0), (5, 2), (11, 2), (12, 2), (13, 2), (14, 0)] mixed rfl (by kernel_rfl) (fun w8 hb8 hh8 => ?_))))
  have M8 := M4.drew hb8 hh8
  refine aU rfl rfl rfl (fun _ => aD 0 wZ rfl) (bS rfl rfl rfl (aM 0 (.int _ _) aV M8 rfl rfl rfl) (aU rfl rfl rfl (fun _ => aD 1 wU rfl) (bS rfl rfl rfl (aM 0 (.int _ _) aV M8 rfl rfl rfl) (aU rfl rfl rfl (fun _ => cF [(0, .int _ _), (1, .int _ _)] _ fA rfl rfl) ?_))))
  refine aU rfl rfl rfl (fun _ => aD 2 xJ rfl) (bS rfl rfl rfl (aM 0 (.int _ _) aV M8 rfl rfl rfl) (aU rfl rfl rfl (fun _ => aD 3 yE rfl) (bS rfl rfl rfl (aM 0 (.int _ _) aV M8 rfl rfl rfl) (aU rfl rfl rfl (fun _ => cF [(0, .int _ _), (1, .int _ _)] _ fA rfl rfl) ?_))))
  refine dU [false, false, true, true] rfl (by kernel_rfl) (bY bDc rfl rfl (aSz _ a.x0 a.y0) ?_)
  rintro v9 w9 ⟨rfl, hb9⟩
  have M9 := M8.callB hb9
  refine aB (aC ⟨(eD (bL rfl (aM 0 (.int _ _) aV M9 rfl rfl rfl)) (eD (bL rfl (aM 0 (.int _ _) aV M9 rfl rfl rfl)) dT)), ?_⟩)
  refine dU [true, true] rfl (by kernel_rfl) (bY bDc rfl rfl (aSz _ a.x1 a.y1) ?_)
  rintro v10 w10 ⟨rfl, hb10⟩
  have M10 := M9.callB hb10
  refine aB (aC ⟨dT, ?_⟩)
  refine dU [] rfl (by kernel_rfl) (bI 1 _ jX M10 rfl rfl rfl rfl rfl (aR rfl) rfl (fun w11 M11 => ?_))
  refine aB (aC ⟨dT, ?_⟩)
  refine dU [] rfl (by kernel_rfl) (bI 2 _ jX M11 rfl rfl rfl rfl rfl (aR rfl) rfl (fun w12 M12 => ?_))
  refine aB (aC ⟨dT, ?_⟩)
  refine aU rfl rfl rfl (fun _ => aJ (.bool true) rfl) (bX (aC (aO (bJg (v3 := .bool true) 1 2 jX M12 rfl rfl rfl rfl rfl rfl rfl ?_))))
  exact ⟨by unfold loC hiC; rw [if_neg h6, if_neg h6, decide_eq_true h6], M12.below⟩
set_option maxHeartbeats 4000000 in
theorem aRf (w : World) (a : Bx) :
  Calls Tryz.prog 230 #[(.agg (eK a).toArray)] w (fun ex w' => ∃ v, ex = .returned v ∧ (fun v w' => ∃ b1 b2 b3, v = .func (.func 255) #[] #[.pointer (some ⟨b1, 0, none⟩), .pointer (some ⟨b2, 0, none⟩), .pointer (some ⟨b3, 0, none⟩)] ∧ Mem w [] [(some b1, bc (dO (loC a)) 283), (some b3, bc (dO (hiC a)) 283), (some b2, bc [.bool (decide (¬ jO a))] 4)] w') v w') := by
 refine aI #[.tmp 2] 13 Tryz.func230 rfl Tryz.results230 Tryz.ntmps230 rfl ?_
 have M0 := Mem.refl w
 refine aE (aA (bJ (.agg (List.toArray _)) M0 rfl rfl rfl (fun b1 w1 M1 => (wq (aJ (_) rfl) rfl (aB (aC (aE (aA (wq (aX 0 kV M1 rfl rfl rfl) rfl (bY bLw rfl rfl (aXj _ a) ?_))))))))))
 rintro v2 w2 ⟨rfl, hb2⟩
 have M2 := M1.callB hb2
 refine wq (aH (.tuple (List.toArray _)) rfl) rfl (wq (bN (.agg (List.toArray _)) rfl rfl) rfl (wq (bN (.agg (List.toArray _)) rfl rfl) rfl (wq (bN (.bool (decide _)) rfl rfl) rfl (aT rE M2 rfl rfl (fun b3 w3 M3 => (aT rE M3 rfl rfl (fun b4 w4 M4 => ?_)))))))
 refine aT aUn M4 rfl rfl (fun b5 w5 M5 => (bI 1 _ jX M5 rfl rfl rfl rfl rfl (aR rfl) rfl (fun w6 M6 => (bI 2 _ jX M6 rfl rfl rfl rfl rfl (aR rfl) rfl (fun w7 M7 => (dB 3 (.bool (decide _)) pG M7 rfl rfl rfl rfl rfl rfl (fun w8 M8 => (aB (aC (aE (aA (wq (dR [] [.pointer _, .pointer _, .pointer _] rfl rfl) rfl ?_))))))))))))
 refine wq (aJ (.func _ _ _) rfl) rfl (aB (aC (aO (cG (.func _ _ _) rfl ?_))))
 exact ⟨b3, b5, b4, rfl, M8.keep [false, true, true, true]⟩
set_option maxHeartbeats 4000000 in
theorem aNp (w : World) (lo hi : Int × Int) (ok : Bool) (b1 b2 b3 : Nat) (L1 : Rd w 2 (some ⟨b1, 0, none⟩) 1 [dO lo]) (L2 : Rd w 1 (some ⟨b2, 0, none⟩) 1 [[.bool ok]]) (L3 : Rd w 2 (some ⟨b3, 0, none⟩) 1 [dO hi]) (hlo : Okc lo) (hhi : Okc hi) (lp ob : Nat) (rec : Loop) (hY : wX Tryz.prog lp ob rec 281 283 2 1048576 (fun x => ∃ a b, x = [.int .i32 a, .int .i32 b])) (r0 : Row) (hr0 : bC 283 2 r0.A r0.n r0.c [] r0.e) (hO : Own [(some lp, .loop rec), (some ob, bc [.slice r0.A r0.n r0.c] 281), r0.e] w) (hd1 : 0 < 1 → ∀ q off, (some ⟨b1, 0, none⟩ : Option Addr) = some ⟨q, off, none⟩ → q ∉ cB [(some lp, .loop rec), (some ob, bc [.slice r0.A r0.n r0.c] 281), r0.e]) (hd2 : 0 < 1 → ∀ q off, (some ⟨b2, 0, none⟩ : Option Addr) = some ⟨q, off, none⟩ → q ∉ cB [(some lp, .loop rec), (some ob, bc [.slice r0.A r0.n r0.c] 281), r0.e]) (hd3 : 0 < 1 → ∀ q off, (some ⟨b3, 0, none⟩ : Option Addr) = some ⟨q, off, none⟩ → q ∉ cB [(some lp, .loop rec), (some ob, bc [.slice r0.A r0.n r0.c] 281), r0.e]) :
  Calls Tryz.prog 255 #[.func (.yield lp) #[] #[], .pointer (some ⟨b1, 0, none⟩), .pointer (some ⟨b2, 0, none⟩), .pointer (some ⟨b3, 0, none⟩)] w (fun ex w' => ∃ v, ex = .returned v ∧ (fun v w' => v = .tuple #[] ∧ ∃ r : Row, bC 283 2 r.A r.n r.c ((yY ok lo hi).map dO) r.e ∧ Mem w (cB [(some lp, .loop rec), (some ob, bc [.slice r0.A r0.n r0.c] 281), r0.e]) [(some lp, .loop rec), (some ob, bc [.slice r.A r.n r.c] 281), r.e] w') v w') := by
 rw [← gQ b1, ← gQ b2, ← gQ b3]
 have hxd : nX lo hi = (hi.1 - lo.1 + 1).toNat := rfl
 have hyd : nY lo hi = (hi.2 - lo.2 + 1).toNat := rfl
 have hlx := hlo.x
 have hly := hlo.y
 have hhx := hhi.x
 have hhy := hhi.y
 have hnx := bJw hlo hhi
 have hny := bJk hlo hhi
 refine aI #[] 32 Tryz.func255 rfl Tryz.results255 Tryz.ntmps255 rfl ?_
 have M0 := hO.mem
 refine aE (aA (wq (bG 1 aCl (L1.memY M0 hd1) (Nat.lt_of_le_of_lt (Nat.zero_le _) ((L1.memY M0 hd1).below_len (show ([dO lo] : List (List Value))[0]? = some (dO lo) from rfl))) rfl) rfl (wq (dX (o := 1) (.int _ _) aV (L1.memY M0 hd1) (show ([dO lo] : List (List Value))[0]? = some (dO lo) from rfl) rfl rfl) rfl ?_)))
 refine bH rfl rfl (aB (aC (aQ (dS (σ := Nat × Row) [0, 1, 2, 3] (fun (j, r) => [(5, .int .i32 (lo.2 + (j : Int)))]) (fun (j, r) w' => (j ≤ nY lo hi ∧ (ok = false → j = 0) ∧ bC 283 2 r.A r.n r.c ((pU lo hi j).map dO) r.e) ∧ Mem w (cB [(some lp, .loop rec), (some ob, bc [.slice r0.A r0.n r0.c] 281), r0.e]) [(some lp, .loop rec), (some ob, bc [.slice r.A r.n r.c] 281), r.e] w') (fun (j, r) => nY lo hi - j) (0, r0) (bB (iv rfl (by simp)) dZ) (⟨⟨by omega, fun _ => rfl, hr0⟩, M0⟩) ?_))))
 rintro ⟨j, r⟩ ρ1 w1 ⟨⟨hj, hjz, hr⟩, hM1⟩
 refine aE (aE (aA (wq (dX (o := 0) (.bool _) pG (L2.memY hM1 hd2) (show ([[.bool ok]] : List (List Value))[0]? = some ([.bool ok]) from rfl) rfl rfl) rfl (wq (aH (.bool _) rfl) rfl ?_))))
 refine jS 10 _ rfl (fun g10 => ?_) (fun g10 => ?_)
 ·refine aP rfl rfl (wq (bG 1 aCl (L3.memY hM1 hd3) (Nat.lt_of_le_of_lt (Nat.zero_le _) ((L3.memY hM1 hd3).below_len (show ([dO hi] : List (List Value))[0]? = some (dO hi) from rfl))) rfl) rfl (wq (dX (o := 1) (.int _ _) aV (L3.memY hM1 hd3) (show ([dO hi] : List (List Value))[0]? = some (dO hi) from rfl) rfl rfl) rfl ?_))
  refine cY rfl rfl rfl rfl (wq (bQ true (.bool (decide _)) rfl rfl) rfl (aB (aC ?_)))
  refine aW rfl (fun h15 => ?_) (fun h15 => ?_)
  ·refine aL (aC (aE (aQ (aE (aA (wq (bG 0 aDw (L1.memY hM1 hd1) (Nat.lt_of_le_of_lt (Nat.zero_le _) ((L1.memY hM1 hd1).below_len (show ([dO lo] : List (List Value))[0]? = some (dO lo) from rfl))) rfl) rfl (wq (dX (o := 0) (.int _ _) aV (L1.memY hM1 hd1) (show ([dO lo] : List (List Value))[0]? = some (dO lo) from rfl) rfl rfl) rfl ?_)))))))
   refine bH rfl rfl (aB (aC (aQ (dS (σ := Nat × Row) [0, 1, 2, 3, 5] (fun (i, q0) => [(6, .int .i32 (lo.1 + (i : Int)))]) (fun (i, q0) w' => (i ≤ nX lo hi ∧ bC 283 2 q0.A q0.n q0.c ((pU lo hi j ++ aFg lo i j).map dO) q0.e) ∧ Mem w (cB [(some lp, .loop rec), (some ob, bc [.slice r0.A r0.n r0.c] 281), r0.e]) [(some lp, .loop rec), (some ob, bc [.slice q0.A q0.n q0.c] 281), q0.e] w') (fun (i, q0) => nX lo hi - i) (0, r) (bB (iv rfl (by simp)) dZ) (⟨⟨by omega, by simpa [aFg] using hr⟩, hM1⟩) ?_))))
   rintro ⟨i, q0⟩ ρ2 w2 ⟨⟨hi2, hq0⟩, hM2⟩
   have hql : (pU lo hi j).length + i = q0.n := by simpa [aMw] using hq0.1
   refine aE (aE (aA (aP rfl rfl (wq (bG 0 aDw (L3.memY hM2 hd3) (Nat.lt_of_le_of_lt (Nat.zero_le _) ((L3.memY hM2 hd3).below_len (show ([dO hi] : List (List Value))[0]? = some (dO hi) from rfl))) rfl) rfl (wq (dX (o := 0) (.int _ _) aV (L3.memY hM2 hd3) (show ([dO hi] : List (List Value))[0]? = some (dO hi) from rfl) rfl rfl) rfl ?_)))))
   refine cY rfl rfl rfl rfl (aB (aC ?_))
   refine aW rfl (fun h23 => ?_) (fun h23 => ?_)
   ·have hlt6 := bDm (lo := lo) (hi := hi) (i := i) (j := j) hnx (by omega) (by omega)
    refine aL (aC (aE (aQ (aE (aHe (aIp (aH (.func _ _ _) rfl) rfl rfl (aIp (aH (.int _ _) rfl) rfl rfl (aIp (aH (.int _ _) rfl) rfl rfl (aIp (cF [(0, .int _ _), (1, .int _ _)] _ aGx rfl rfl) rfl rfl ?_)))))))))
    obtain ⟨fy, ty, ay, by1, hy1, hy2⟩ := hY _ q0 ((pU lo hi j ++ aFg lo i j).map dO) (dO (lo.1 + (i : Int), lo.2 + (j : Int))) ⟨_, _, rfl⟩ (by omega) hq0 (hM2.ownSeg 0 3)
    refine aGy rfl rfl rfl rfl hy1 (hy2.mono ?_)
    rintro _ w3 ⟨rfl, q3, hqn3, hq3, hM3⟩
    have M3 : Mem _ _ [_, _, _] _ := hM2.seg 0 3 hM3
    refine ⟨_, rfl, ?_⟩
    refine bBe rfl (fun _ _ h => h) (wq (gI false rfl rfl) rfl (aB (aC (cJ rfl (aL (cT ?_))))))
    refine aC (aA (aP rfl rfl (wq (jD rfl rfl (jC _ (by omega) (by omega))) rfl (bH rfl rfl (aB ?_)))))
    refine cD (i + 1, q3) (bB (iv rfl (by omega)) dZ) (cK rfl (cK rfl (cK rfl (cK rfl (cK rfl gW))))) ?_ ?_
    ·exact ⟨⟨by omega, by rw [aUs, ← List.append_assoc, List.map_append]; exact hq3⟩, M3⟩
    ·(show nX lo hi - (i + 1) < nX lo hi - i; omega)
   ·have hix : i = nX lo hi := by omega
    refine cW (dE (dL (eS (cT (aC (aA ?_))))))
    refine aP rfl rfl (wq (jD rfl rfl (jC _ (by omega) (by omega))) rfl (bH rfl rfl (aB ?_)))
    refine cD (j + 1, q0) (bB (iv rfl (by omega)) dZ) (cK rfl (cK rfl (cK rfl (cK rfl gW)))) ?_ ?_
    ·exact ⟨⟨by omega, fun h => (by rw [g10] at h; cases h), by rw [aEq, ← hix]; exact hq0⟩, hM2⟩
    ·(show nY lo hi - (j + 1) < nY lo hi - j; omega)
  ·refine cW (dE (dL (eS (lB ?_))))
   exact ⟨rfl, r, by unfold yY; first | (rw [if_pos g10, show nY lo hi = j by omega]; exact hr) | (rw [if_neg (by rw [g10]; decide)]; rw [hjz g10] at hr; exact hr), hM1⟩
 ·refine aN rfl rfl (aN rfl rfl (aN rfl rfl (aN rfl rfl (wq (bQ false (.bool false) rfl rfl) rfl (aB (aC ?_))))))
  refine cJ rfl (cW (dE (dL (eS (lB ?_)))))
  exact ⟨rfl, r, by unfold yY; first | (rw [if_pos g10, show nY lo hi = j by omega]; exact hr) | (rw [if_neg (by rw [g10]; decide)]; rw [hjz g10] at hr; exact hr), hM1⟩
set_option maxHeartbeats 4000000 in
theorem bAy (w : World) (a : Bx) (ha : Okx a) :
  Calls Tryz.prog 204 #[(.agg (eK a).toArray)] w (fun ex w' => ∃ v, ex = .returned v ∧ (fun v w' => ∃ r : Row, v = .slice r.A r.n r.c ∧ bC 283 2 r.A r.n r.c ((jK a).map dO) r.e ∧ Mem w [] [r.e] w') v w') := by
 refine aAq #[.tmp 2] 13 Tryz.func204 rfl Tryz.results204 Tryz.ntmps204 rfl ?_
 have M0 := Mem.refl w
 refine rO (oP (bJ (.agg (List.toArray _)) M0 rfl rfl rfl (fun b1 w1 M1 => (eI rfl rfl (aB (rZ ?_))))))
 refine rO (oP (aT bIl M1 rfl rfl (fun b2 w2 M2 => (aB (rZ (rO ?_))))))
 refine rO (oP (wq (aX 0 kV M2 rfl rfl rfl) rfl (bY bMz rfl rfl (aRf _ a) ?_)))
 rintro v3 w3 ⟨bl, bk, bh, rfl, hM3⟩
 have M3 : Mem _ _ [_, _, _, _, _] _ := M2.call0 hM3
 refine aB (rZ (aNv ?_))
 have M4 : Mem _ _ [_, _, _, _, _] _ := ((M3.keep [false, true, true, true, true]).dummy default).perm (List.Perm.cons _ (List.perm_append_comm (l₁ := [_, _, _]) (l₂ := [_])))
 refine aNt bMe M4 rfl (fun fnn B lp tmps w1 hρ hn M1 => ?_)
 refine aDl (P := Tryz.prog) (ob := b2) (Tsl := 281) (Te := 283) (sz := 2) (N := 1048576) (ok := (fun x => ∃ a b, x = [.int .i32 a, .int .i32 b])) M1 ?_ (fun hY => ?_)
 ·intro wr r ls x hok hlt hrow hO
  obtain ⟨xa, xb, rfl⟩ := hok
  refine ⟨_, _, _, _, aMv hO rfl rfl rfl hn (by decide) hρ ?_⟩
  have MR0 := hO.mem
  refine uY rfl (fun _ _ h => nomatch h.1) (aT rE MR0 rfl rfl (fun b5 w5 M5 => (bI 3 _ jX M5 rfl rfl rfl rfl rfl (aR rfl) rfl (fun w6 M6 => (aB ?_)))))
  refine ⟨rfl, _, M6, rfl, fun w7 M7 => ?_⟩
  refine aNu (uY rfl (fun _ _ h => nomatch h.1) (wq (aM 1 (.slice _ _ _) aOq M7 rfl rfl rfl) rfl (wq (aX 3 jX M7 rfl rfl rfl) rfl (cR [.agg (List.toArray _)] [[.int .i32 xa, .int .i32 xb]] rfl bCw M7 rfl rfl rfl rfl (dD rfl) (by decide) (fun b8 w8 M8 => (dG 2 [[.int .i32 xa, .int .i32 xb]] bCw M8 rfl rfl rfl rfl rfl hrow rfl (by simp [Go.Bil.one]) (dV.ofMem 4 M8 rfl) (by omega) (fun A9 c9 e9 w9 M9 hR9 => ?_)))))))
  refine dB 1 (.slice _ _ _) aOq M9 rfl rfl rfl rfl rfl rfl (fun w10 M10 => (aB (cT ?_)))
  refine ⟨rfl, _, M10, rfl, fun w11 M11 => ?_⟩
  exact ⟨⟨A9, r.n + 1, c9, e9⟩, rfl, hR9, M11.keep [true, true, true, false, false]⟩
 ·refine (aNp _ (loC a) (hiC a) _ bl bk bh (pF 3 M1 rfl rfl) (pF 5 M1 rfl rfl) (pF 4 M1 rfl rfl) (aQq ha) (aRo ha) lp b2 _ hY ⟨none, 0, 0, (none, default)⟩ (bC.nil _ _ _) (M1.ownSeg 0 3) (M1.apartTake 3 3 rfl rfl) (M1.apartTake 3 5 rfl rfl) (M1.apartTake 3 4 rfl rfl)).mono ?_
  rintro _ w5 ⟨v5, rfl, rfl, r, hr, hM⟩
  have M5 : Mem _ _ (_ :: [_, _, _, _, _, _]) _ := M1.seg 0 3 hM
  refine ⟨_, rfl, _, M5, fun w6 M6 => ?_⟩
  refine bJs (rZ (rO (aIi (aSg (aM 1 (.slice _ _ _) aOq M6 rfl rfl rfl) rfl rfl (aSg (aJ (.slice _ _ _) rfl) rfl rfl ?_)))))
  refine aTx (rZ (aZa (bJq (i := 6) (.slice _ _ _) rfl M6 rfl (fun w9 M9 => ?_))))
  exact ⟨r, rfl, hr, M9.keep [false, false, true, false, false, false, false]⟩
set_option maxHeartbeats 4000000 in
theorem aMe (w : World) (F : Rd w 2 (some ⟨0, 0, none⟩) 1 [[.int .u32 73856093, .int .u32 19349663]]) (c : Int × Int) :
  Calls Tryz.prog 205 #[(.agg (dO c).toArray)] w (fun ex w' => ∃ v, ex = .returned v ∧ (fun v w' => v = .int .i64 (fE c : Int) ∧ Below w.heap.size w w') v w') := by
 refine aI #[.tmp 2] 20 Tryz.func205 rfl Tryz.results205 Tryz.ntmps205 rfl ?_
 have M0 := Mem.refl w
 refine aE (aA (bJ (.agg (List.toArray _)) M0 rfl rfl rfl (fun b1 w1 M1 => (bH rfl rfl (aB (aC (aE (aA (wq (aD 0 aDw rfl) rfl (wq (aM 0 (.int _ _) aV M1 rfl rfl rfl) rfl ?_))))))))))
 refine wq (dA dP Tryz.underlying35 rfl) rfl (wq (bZ (0) aYr rfl rfl rfl (by decide)) rfl (wq (dX (k := 0) (o := 0) (.int _ _) bW (F.mem M1) (show ([[.int .u32 73856093, .int .u32 19349663]] : List (List Value))[0]? = some [.int .u32 73856093, .int .u32 19349663] from rfl) rfl rfl) rfl (wq (cA (.int _ _) rfl rfl rfl) rfl ?_)))
 refine wq (aD 1 aCl rfl) rfl (wq (aM 0 (.int _ _) aV M1 rfl rfl rfl) rfl (wq (dA dP Tryz.underlying35 rfl) rfl (wq (bZ (1) aYr rfl rfl rfl (by decide)) rfl (wq (dX (k := 0) (o := 1) (.int _ _) bW (F.mem M1) (show ([[.int .u32 73856093, .int .u32 19349663]] : List (List Value))[0]? = some [.int .u32 73856093, .int .u32 19349663] from rfl) rfl rfl) rfl ?_))))
 refine wq (cA (.int _ _) rfl rfl rfl) rfl (wq (cA (.int _ _) rfl rfl rfl) rfl (bH rfl rfl (aB (aC (aE (aA (aP rfl rfl (wq (cA (.int _ _) rfl rfl rfl) rfl ?_))))))))
 refine aK 18 (.int .u32 (uJ c)) rfl (wq (bA vG Tryz.underlying3 rfl (fG _ (by have := nA c; omega) (by have := nA c; omega))) rfl (bH rfl rfl (aB (aC (aO (cG (.int _ _) rfl ?_))))))
 exact ⟨iE (aWc c), M1.below⟩
set_option maxHeartbeats 16000000 in
theorem aNw (w : World) (F : Rd w 2 (some ⟨0, 0, none⟩) 1 [[.int .u32 73856093, .int .u32 19349663]]) (b : Nat) (rs : List Row) (cnt : Int) (g : Nat → List Int) (hG : GridRows 35 rs g) (hcnt : 0 ≤ cnt ∧ cnt ≤ 1048576) (hgl : ∀ j, j < 1024 → (g j).length ≤ 1048576) (key : Int) (a : Bx) (ha : Okx a) (hO : Own ((some b, bc (eZ rs cnt) 250) :: rs.map Row.e) w) (hdF : 0 < 1 → ∀ q off, (some ⟨0, 0, none⟩ : Option Addr) = some ⟨q, off, none⟩ → q ∉ cB ((some b, bc (eZ rs cnt) 250) :: rs.map Row.e)) :
  Calls Tryz.prog 181 #[.pointer (some ⟨b, 0, none⟩), .int .u32 key, (.agg (eK a).toArray)] w (fun ex w' => ∃ v, ex = .returned v ∧ (fun v w' => v = .tuple #[] ∧ ∃ rs' : List Row, GridRows 35 rs' (vB g key ((jK a).map fE)) ∧ Mem w (cB ((some b, bc (eZ rs cnt) 250) :: rs.map Row.e)) ((some b, bc (eZ rs' (cnt + 1)) 250) :: rs'.map Row.e) w') v w') := by
 refine aI #[] 49 Tryz.func181 rfl Tryz.results181 Tryz.ntmps181 rfl ?_
 have M0 := hO.mem
 refine aE (aA (bJ (.agg (List.toArray _)) M0 rfl rfl rfl (fun b1 w1 M1 => ?_)))
 have M2 : Mem _ _ ([_, _] ++ _) _ := Mem.front (L := [_]) M1
 refine aB (aC (aE (aE (aA (wq (aH (.pointer _) rfl) rfl (wq (gV false Tryz.underlying279 rfl rfl) rfl (aB (aC (cJ rfl (aL (aC (aE (aA ?_)))))))))))))
 refine wq (aH (.pointer _) rfl) rfl (wq (bE rfl) rfl (wq (aD 1024 aMt rfl) rfl (wq (aM 0 (.int .i64 cnt) iP M2 rfl rfl (aFm hG.len)) rfl (wq (aY rfl rfl (by omega) (by omega)) rfl (wq (bE rfl) rfl ?_)))))
 refine wq (aD 1024 aMt rfl) rfl (dB 0 (.int _ _) iP M2 rfl rfl rfl rfl rfl (by rw [aFm hG.len]; rfl) (fun w3 M3 => ?_))
 have M3b : Mem _ _ ([(some b, bc (eZ rs (cnt + 1)) 250), _] ++ rs.map Row.e) _ := Mem.cells0 M3 (aFx hG.len)
 refine aB (aC (aE (aA (mM M3b rfl rfl (fun b4 w4 M4 => ?_)))))
 have M5 : Mem _ _ ([_, _, _] ++ _) _ := Mem.front (L := [_, _]) M4
 refine wq (aJ (.map _) rfl) rfl (aB (aC (aE (aA (wq (aX 1 kV M5 rfl rfl rfl) rfl (bY bKz rfl rfl (bAy _ a ha) ?_))))))
 rintro v6 w6 ⟨r0, rfl, hR0, hM6⟩
 have M6 : Mem _ _ ([_, _, _, _] ++ _) _ := Mem.front (L := [_, _, _]) (M5.call0 hM6)
 have hcl : (jK a).length = r0.n := by simpa using hR0.1
 have hcb := aPg ha
 refine wq (cZ Tryz.underlying281 rfl) rfl (aP rfl rfl (aB (aC (aQ (dS (σ := Nat × List Row × eX) [0, 1, 6, 21, 22] (fun (i, rs1, em) => [(23, .int .i64 (i : Int))]) (fun (i, rs1, em) w' => (i ≤ r0.n ∧ GridRows 35 rs1 (vB g key (((jK a).map fE).take i)) ∧ kA .i64 Value.bool (tT (((jK a).map fE).take i)) (some b4) em) ∧ Mem w (cB ((some b, bc (eZ rs cnt) 250) :: rs.map Row.e)) ([(some b, bc (eZ rs1 (cnt + 1)) 250), (some b1, bc (eK a) 253), em, r0.e] ++ rs1.map Row.e) w') (fun (i, rs1, em) => r0.n - i) (0, rs, (some b4, .map #[] 0)) (bB rfl dZ) (⟨⟨by omega, by rw [List.take_zero, bBz]; exact hG, (kA.empty _ _ b4).congr (fun q => by rw [List.take_zero]; exact aYb q)⟩, M6⟩) ?_)))))
 rintro ⟨i, rs1, em⟩ ρ7 w7 ⟨⟨hi, hrs, hme⟩, hM7⟩
 refine aE (aA (cY rfl rfl rfl rfl (aB (aC (aE ?_)))))
 refine aW rfl (fun h24 => ?_) (fun h24 => ?_)
 ·obtain ⟨xc, hxc⟩ := cV (xs := jK a) (k := i) hcl (by omega)
  have hbb : ((jK a).map fE)[i]? = some (fE xc) := by rw [List.getElem?_map, hxc]; rfl
  refine aL (aC (aE (aQ (aE (aA (wq (bO (i) bCw rfl rfl rfl ((hR0.rd hM7 (aZ (i := 3) rfl)).below_len (aG dO hxc)) ((hR0.rd hM7 (aZ (i := 3) rfl)).someK (aG dO hxc))) rfl (wq (dI _ jX (hR0.rd hM7 (aZ (i := 3) rfl)) (aG dO hxc) rfl) rfl ?_)))))))
  refine aT rE hM7 rfl rfl (fun b8 w8 M8 => ?_)
  have M9 : Mem _ _ ([_, _, _, _, _] ++ _) _ := Mem.front (L := [_, _, _, _]) M8
  refine bI 4 _ jX M9 rfl rfl rfl rfl rfl (aR rfl) rfl (fun w10 M10 => (aB (aC (aE (aA (wq (aX 4 jX M10 rfl rfl rfl) rfl (bY bJy rfl rfl (aMe _ (F.memY M10 hdF) xc) ?_)))))))
  rintro v11 w11 ⟨rfl, hb11⟩
  have M11 := M10.callB hb11
  refine bH rfl rfl (aB (aC (aE (aE (aA (wq (aH (.map _) rfl) rfl (aP rfl rfl (wq (lV (enc := Value.bool) false 2 bBb zv4 M11 rfl hme rfl rfl) rfl (aB (aC ?_))))))))))
  refine iD _ rfl (fun h31 => ?_) (fun h31 => ?_)
  ·refine cW (dE (eS (aC (aA (wq (aY rfl rfl (by omega) (by omega)) rfl (aP rfl rfl ?_))))))
   refine aB ?_
   refine cD (i + 1, rs1, em) (bB rfl dZ) (cK rfl (cK rfl (cK rfl (cK rfl (cK rfl gW))))) ?_ ?_
   ·exact ⟨⟨by omega, by rw [bCl hbb (zB.1 h31)]; exact hrs, by rw [aUt hbb (zB.1 h31)]; exact hme⟩, Mem.keepL (L := [_, _, _, _, _]) [true, true, true, true, false] M11⟩
   ·(show r0.n - (i + 1) < r0.n - i; omega)
  ·have hnb : fE xc ∉ ((jK a).map fE).take i := fun h => by have h2 := zB.2 h; rw [h2] at h31; cases h31
   refine aL (aC (aE (aA (wq (aH (.map _) rfl) rfl (aP rfl rfl (kK (enc := Value.bool) 2 bBb M11 rfl rfl hme rfl rfl rfl rfl (fun e12 w12 hm12 M12 => (aB (aC (bR [(0, 0), (1, 0), (2, 0), (3, 0), (4, 0), (5, 0), (6, 0), (7, 1), (8, 0), (11, 0), (12, 0), (9, 2), (10, 2), (13, 0), (14, 2)] mixed rfl (by kernel_rfl) (fun w13 hb13 hh13 => ?_)))))))))))
   have M13 := M12.drew hb13 hh13
   refine aU rfl rfl rfl (fun _ => aH (.pointer _) rfl) (eB rfl rfl rfl (aU rfl rfl rfl (fun _ => aH (.pointer _) rfl) (eB rfl rfl rfl (aU rfl rfl rfl (fun _ => bE rfl) (aU rfl rfl rfl (fun _ => aD 0 aDp rfl) ?_)))))
   refine aU rfl rfl rfl (fun _ => bZ (fE xc) aPp rfl rfl rfl (lQ xc)) ?_
   obtain ⟨rb, hrb⟩ := hrs.get (lQ xc)
   have hrowb := hrs.row _ _ hrb
   have hgb : vB g key (((jK a).map fE).take i) (fE xc) = g (fE xc) := by unfold vB; rw [if_neg hnb]
   have hrn : (vB g key (((jK a).map fE).take i) (fE xc)).length = rb.n := by simpa using hrowb.1
   have hgl := hgl (fE xc) (lQ xc)
   rw [hgb] at hrn
   have M14 : Mem _ _ ([_, _, _, _, _, _] ++ (rs1.eraseIdx (fE xc)).map Row.e) _ := Mem.pull (L := [_, _, _, _, _]) (rs := rs1) M13 hrb
   refine bS rfl rfl rfl (aM 0 (.slice _ _ _) aJx M14 rfl rfl (vU hrb)) (eB rfl rfl rfl (aU rfl rfl rfl (fun _ => bE rfl) (aU rfl rfl rfl (fun _ => aD 0 aDp rfl) (dU [false] rfl (by kernel_rfl) (cR [.int _ _] [iA key] rfl aNk M14 rfl rfl rfl rfl (dD rfl) (by decide) (fun b15 w15 M15 => ?_))))))
   have M16 : Mem _ _ ([_, _, _, _, _, _, _] ++ _) _ := Mem.front (L := [_, _, _, _, _, _]) M15
   refine aB (aC ⟨(eD (bL rfl (aM 0 (.slice _ _ _) aJx M16 rfl rfl (vU hrb))) dT), ?_⟩)
   refine dU [true] rfl (by kernel_rfl) (dG 5 [iA key] aNk M16 rfl rfl rfl rfl rfl hrowb rfl (aOx _) (dV.ofMem 6 M16 rfl) (by omega) (fun A17 c17 e17 w17 M17 hR17 => ?_))
   refine aB (aC ⟨dT, ?_⟩)
   refine aU rfl rfl rfl (fun _ => bZ (fE xc) aPp rfl rfl rfl (lQ xc)) (dU [] rfl (by kernel_rfl) (dB 0 (.slice _ _ _) aJx M17 rfl rfl rfl rfl rfl (by rw [vU hrb]; rfl) (fun w18 M18 => ?_)))
   have M18b : Mem _ _ ([(some b, bc (eZ (rs1.set (fE xc) (⟨A17, rb.n + 1, c17, e17⟩ : Row)) (cnt + 1)) 250), _, _, _, _, _, _] ++ (rs1.eraseIdx (fE xc)).map Row.e) _ := Mem.cells0 M18 (aFz (⟨A17, rb.n + 1, c17, e17⟩ : Row) (by rw [hrs.len]; exact lQ xc))
   refine aB (aC ⟨dT, ?_⟩)
   refine bX (cT (aC (aA (wq (aY rfl rfl (by omega) (by omega)) rfl (aP rfl rfl (aB ?_))))))
   refine cD (i + 1, rs1.set (fE xc) (⟨A17, rb.n + 1, c17, e17⟩ : Row), e12) (bB rfl dZ) (cK rfl (cK rfl (cK rfl (cK rfl (cK rfl gW))))) ?_ ?_
   ·exact ⟨⟨by omega, by rw [bAz hbb hnb]; exact hrs.put (r := (⟨A17, rb.n + 1, c17, e17⟩ : Row)) (lQ xc) (by simpa using hR17), hm12.congr (fun q => aGz hbb q)⟩, Mem.push (L := [_, _, _, _]) (rs := rs1) (⟨A17, rb.n + 1, c17, e17⟩ : Row) (Mem.keepL (L := [_, _, _, _, _, _, _]) [true, true, true, true, false, true, false] M18b) (by rw [hrs.len]; exact lQ xc)⟩
   ·(show r0.n - (i + 1) < r0.n - i; omega)
 ·have hin : i = r0.n := by omega
  rw [List.take_of_length_le (by simp; omega)] at hrs
  refine cW (dE (dL (eS (lB ?_))))
  exact ⟨rfl, rs1, hrs, Mem.keepL (L := [_, _, _, _]) [true, false, false, false] hM7⟩
end Go.Proofs.YtaoaknafiegfoaaGreatDoor
