/- Part of the proof of the laws of this seat: B8, C9, G10. No conditions. -/
import Derived.Test.YtlmcphcgiclanaaGreatDoorK2
import Derived.Test.YtlmcphcgiclanaaGreatDoorK5
import Derived.Test.YtlmcphcgiclanaaGreatDoorK6
import Derived.Test.YtlmcphcgiclanaaGreatDoorK11
import Derived.Test.YtlmcphcgiclanaaGreatDoorK15
set_option linter.unusedVariables false
set_option linter.unusedSimpArgs false
set_option linter.unnecessarySimpa false
namespace Go.Proofs.YtlmcphcgiclanaaGreatDoor
open Go.Bil
open Go.RowKit (Below)
open Go.Proofs
set_option maxHeartbeats 4000000 in
theorem aGb (w : World) (x : Int) (h0 : -2147483647 ≤ x) (h1 : x ≤ 2147483647) :
  Calls Tryz.prog 215 #[.int .i32 x] w (fun ex w' => ∃ v, ex = .returned v ∧ (fun v w' => v = .int .i32 (max x (-x)) ∧ Below w.heap.size w w') v w') := by
 refine aH #[.tmp 2] 7 Tryz.func215 rfl Tryz.results215 Tryz.ntmps215 rfl ?_
 have M0 := Mem.refl w
 refine aD (aA (bJ rfl rfl (aB (aC (aD (aA (aV rfl rfl (aV rfl rfl (wq (aIs rfl (lU _ (by omega) (by omega))) rfl ?_)))))))))
 refine wq (nR rfl rfl ) rfl (bJ rfl rfl (aB (aC (aN (cC (.int _ _) rfl ?_)))))
 exact ⟨iE (by omega), M0.below⟩
set_option maxHeartbeats 4000000 in
theorem aHs (w : World) (b : Body) (hb : Okb b) :
  Calls Tryz.prog 190 #[(.agg (aF b).toArray)] w (fun ex w' => ∃ v, ex = .returned v ∧ (fun v w' => v = .tuple #[.int .i32 (aPq b), .int .i32 (aPc b)] ∧ Below w.heap.size w w') v w') := by
 have hr := hb.r
 have ha := hb.a
 have hp := hb.p
 refine aH #[.tmp 2, .tmp 3] 18 Tryz.func190 rfl Tryz.results190 Tryz.ntmps190 rfl ?_
 have M0 := Mem.refl w
 refine aD (aA (bK (.agg (List.toArray _)) M0 rfl rfl rfl (fun b1 w1 M1 => (bJ rfl rfl (bJ rfl rfl (aB (aC (aD (bQ [(0, 0), (1, 0), (2, 1), (4, 0), (5, 1), (7, 0), (8, 0), (9, 1), (11, 0), (12, 1), (3, 2), (6, 0), (10, 2), (13, 0), (14, 0), (15, 0)] mixed rfl (by kernel_rfl) (fun w2 hb2 hh2 => ?_))))))))))
 have M2 := M1.drew hb2 hh2
 refine aY rfl rfl rfl (fun _ => aE 2 kW rfl) (aY rfl rfl rfl (fun _ => aE 0 dU rfl) (cD rfl rfl rfl (aM 0 (.int _ _) aU M2 rfl rfl rfl) (aY rfl rfl rfl (fun _ => aE 1 nN rfl) (cD rfl rfl rfl (aM 0 (.int _ _) aU M2 rfl rfl rfl) (aY rfl rfl rfl (fun _ => aE 2 kW rfl) ?_)))))
 refine aY rfl rfl rfl (fun _ => aE 1 dN rfl) (cD rfl rfl rfl (aM 0 (.int _ _) aU M2 rfl rfl rfl) (aY rfl rfl rfl (fun _ => aE 1 nN rfl) (cD rfl rfl rfl (aM 0 (.int _ _) aU M2 rfl rfl rfl) (dP [false, false, false, true] rfl (by kernel_rfl) (bV aTi rfl rfl (aGb _ _ (by omega) (by omega)) ?_)))))
 rintro v3 w3 ⟨rfl, hb3⟩
 have M3 := M2.callB hb3
 refine aB (aC ⟨(eK (bN rfl (aM 0 (.int _ _) aU M3 rfl rfl rfl)) (eK (bN rfl (aM 0 (.int _ _) aU M3 rfl rfl rfl)) (eK (bN rfl (aM 0 (.int _ _) aU M3 rfl rfl rfl)) dQ))), ?_⟩)
 refine aY rfl rfl rfl (fun _ => iJ rfl rfl (lU _ (by omega) (by omega))) (dP [false, true, false] rfl (by kernel_rfl) (bV aTi rfl rfl (aGb _ _ (by omega) (by omega)) ?_))
 rintro v4 w4 ⟨rfl, hb4⟩
 have M4 := M3.callB hb4
 refine aB (aC ⟨(eK (bN rfl (aM 0 (.int _ _) aU M4 rfl rfl rfl)) (eK (bN rfl (aM 0 (.int _ _) aU M4 rfl rfl rfl)) dQ)), ?_⟩)
 refine aY rfl rfl rfl (fun _ => iJ rfl rfl (lU _ (by omega) (by omega))) (pX rfl rfl rfl (pX rfl rfl rfl (cF (aC (aN (iD (.int _ _) (.int _ _) rfl rfl ?_))))))
 exact ⟨rfl, M4.below⟩
set_option maxHeartbeats 4000000 in
theorem bBi (w : World) (b : Body) (hb : Okb b) :
  Calls Tryz.prog 160 #[(.agg (aF b).toArray)] w (fun ex w' => ∃ v, ex = .returned v ∧ (fun v w' => v = (.agg (dF (iI b)).toArray) ∧ Below w.heap.size w w') v w') := by
 have hr := hb.r
 have ha := hb.a
 have hp := hb.p
 have he := aSc hb
 refine aH #[.cell 2 193] 31 Tryz.func160 rfl Tryz.results160 Tryz.ntmps160 rfl ?_
 have M0 := Mem.refl w
 refine aD (aA (bK (.agg (List.toArray _)) M0 rfl rfl rfl (fun b1 w1 M1 => (aR aEm M1 rfl rfl (fun b2 w2 M2 => (aB (aC (aD (aA (wq (bA 0 bP M2 rfl rfl rfl) rfl (bV bDh rfl rfl (aHs _ b hb) ?_)))))))))))
 rintro v3 w3 ⟨rfl, hb3⟩
 have M3 := M2.callB hb3
 refine wq (aG (.tuple (List.toArray _)) rfl) rfl (wq (bE (.int _ _) rfl rfl) rfl (wq (bE (.int _ _) rfl rfl) rfl (bJ rfl rfl (bJ rfl rfl (aB (aC (aD (aA ?_))))))))
 refine wq (aE 6 fX rfl) rfl (wq (aE 0 dU rfl) rfl (wq (aM 0 (.int _ _) aU M3 rfl rfl rfl) rfl (aV rfl rfl (wq (lO rfl rfl (lU _ (by omega) (by omega))) rfl (wq (aE 6 fX rfl) rfl ?_)))))
 refine wq (aE 1 dN rfl) rfl (wq (aM 0 (.int _ _) aU M3 rfl rfl rfl) rfl (aV rfl rfl (wq (lO rfl rfl (lU _ (by omega) (by omega))) rfl (wq (aE 6 fX rfl) rfl (wq (aE 0 dU rfl) rfl ?_)))))
 refine wq (aM 0 (.int _ _) aU M3 rfl rfl rfl) rfl (aV rfl rfl (wq (iJ rfl rfl (lU _ (by omega) (by omega))) rfl (wq (aE 6 fX rfl) rfl (wq (aE 1 dN rfl) rfl (wq (aM 0 (.int _ _) aU M3 rfl rfl rfl) rfl ?_)))))
 refine aV rfl rfl (wq (iJ rfl rfl (lU _ (by omega) (by omega))) rfl (wq (cN [(0, .int _ _), (1, .int _ _), (2, .int _ _), (3, .int _ _)] _ aBl rfl rfl) rfl (bC 1 _ iM M3 rfl rfl rfl rfl rfl (aQ rfl) rfl (fun w4 M4 => (aB (aC (aN (fR 1 iM M4 rfl rfl rfl ?_))))))))
 exact ⟨rfl, M4.below⟩
set_option maxHeartbeats 4000000 in
theorem uE (w : World) (a : Bx) :
  Calls Tryz.prog 192 #[(.agg (dF a).toArray)] w (fun ex w' => ∃ v, ex = .returned v ∧ (fun v w' => v = .bool (decide (gM a)) ∧ Below w.heap.size w w') v w') := by
 refine aH #[.tmp 2] 15 Tryz.func192 rfl Tryz.results192 Tryz.ntmps192 rfl ?_
 have M0 := Mem.refl w
 refine aD (aA (bK (.agg (List.toArray _)) M0 rfl rfl rfl (fun b1 w1 M1 => (wq (aI (.bool false) rfl) rfl (aB (aC (aD (aA (wq (aE 0 sR rfl) rfl (wq (aM 0 (.int _ _) aU M1 rfl rfl rfl) rfl ?_))))))))))
 refine wq (aE 2 sP rfl) rfl (wq (aM 0 (.int _ _) aU M1 rfl rfl rfl) rfl (cT rfl rfl rfl rfl (wq (aG (.bool (decide _)) rfl) rfl ?_)))
 refine cW 8 rfl (fun g8 => ?_) (fun g8 => ?_)
 ·refine aO rfl rfl (aO rfl rfl (aO rfl rfl (aO rfl rfl (aO rfl rfl (wq (bI true (.bool true) rfl rfl) rfl ?_)))))
  refine wq (aI (.bool true) rfl) rfl (aB (aC (aN (cC (.bool true) rfl ?_))))
  exact ⟨by unfold gM; first | exact bT (by omega) | exact bD (by omega), M1.below⟩
 ·refine wq (aE 1 rX rfl) rfl (wq (aM 0 (.int _ _) aU M1 rfl rfl rfl) rfl (wq (aE 3 sN rfl) rfl (wq (aM 0 (.int _ _) aU M1 rfl rfl rfl) rfl (cT rfl rfl rfl rfl (wq (bI false (.bool (decide _)) rfl rfl) rfl ?_)))))
  refine wq (aI (.bool (decide _)) rfl) rfl (aB (aC (aN (cC (.bool (decide _)) rfl ?_))))
  exact ⟨by unfold gM; first | exact bT (by omega) | exact bD (by omega), M1.below⟩
set_option maxHeartbeats 4000000 in
theorem aTp (w : World) (N : Rd w 4 (some ⟨3, 0, none⟩) 1 [dF iY]) (a b : Bx) :
  Calls Tryz.prog 193 #[(.agg (dF a).toArray), (.agg (dF b).toArray)] w (fun ex w' => ∃ v, ex = .returned v ∧ (fun v w' => v = (.agg (dF (aAv a b)).toArray) ∧ Below w.heap.size w w') v w') := by
 refine aH #[.cell 4 193] 31 Tryz.func193 rfl Tryz.results193 Tryz.ntmps193 rfl ?_
 have M0 := Mem.refl w
 refine aD (aA (bK (.agg (List.toArray _)) M0 rfl rfl rfl (fun b1 w1 M1 => (bK (.agg (List.toArray _)) M1 rfl rfl rfl (fun b2 w2 M2 => (aR aEm M2 rfl rfl (fun b3 w3 M3 => (aB (aC (aD (aA (wq (aE 0 sR rfl) rfl ?_))))))))))))
 refine wq (aM 0 (.int _ _) aU M3 rfl rfl rfl) rfl (wq (aE 0 sR rfl) rfl (wq (aM 1 (.int _ _) aU M3 rfl rfl rfl) rfl (wq (nR rfl rfl ) rfl (wq (aE 1 rX rfl) rfl (wq (aM 0 (.int _ _) aU M3 rfl rfl rfl) rfl ?_)))))
 refine wq (aE 1 rX rfl) rfl (wq (aM 1 (.int _ _) aU M3 rfl rfl rfl) rfl (wq (nR rfl rfl ) rfl (wq (aE 2 sP rfl) rfl (wq (aM 0 (.int _ _) aU M3 rfl rfl rfl) rfl (wq (aE 2 sP rfl) rfl ?_)))))
 refine wq (aM 1 (.int _ _) aU M3 rfl rfl rfl) rfl (wq (yA rfl rfl ) rfl (wq (aE 3 sN rfl) rfl (wq (aM 0 (.int _ _) aU M3 rfl rfl rfl) rfl (wq (aE 3 sN rfl) rfl (wq (aM 1 (.int _ _) aU M3 rfl rfl rfl) rfl ?_)))))
 refine wq (yA rfl rfl ) rfl (wq (cN [(0, .int _ _), (1, .int _ _), (2, .int _ _), (3, .int _ _)] _ aBl rfl rfl) rfl (aR aEm M3 rfl rfl (fun b4 w4 M4 => (bC 3 _ iM M4 rfl rfl rfl rfl rfl (aQ rfl) rfl (fun w5 M5 => (aB (aC (aD (aD (aA (wq (bA 3 iM M5 rfl rfl rfl) rfl ?_)))))))))))
 refine bV aIj rfl rfl (uE _ ⟨max a.x0 b.x0, max a.y0 b.y0, min a.x1 b.x1, min a.y1 b.y1⟩) ?_
 rintro v6 w6 ⟨rfl, hb6⟩
 have M6 := M5.callB hb6
 refine aB (aC ?_)
 refine aW rfl (fun h28 => ?_) (fun h28 => ?_)
 ·refine aD (aA (wq (wR (k := 0) (o := 0) _ iM (N.mem M6) (show ([dF iY] : List (List Value))[0]? = some (dF iY) from rfl) rfl rfl rfl) rfl (bC 2 _ iM M6 rfl rfl rfl rfl rfl (aQ rfl) rfl (fun w7 M7 => (aB (aC (aN (cE (fR 2 iM M7 rfl rfl rfl ?_)))))))))
  exact ⟨by unfold aAv; rw [if_pos h28]; rfl, M7.below⟩
 ·refine aK (aC (aD (aA (wq (bA 3 iM M6 rfl rfl rfl) rfl (bC 2 _ iM M6 rfl rfl rfl rfl rfl (aQ rfl) rfl (fun w8 M8 => (aB (aC (aN (fR 2 iM M8 rfl rfl rfl ?_))))))))))
  exact ⟨by unfold aAv; rw [if_neg h28]; rfl, M8.below⟩
set_option maxHeartbeats 4000000 in
theorem aFv (w : World) (N : Rd w 4 (some ⟨3, 0, none⟩) 1 [dF iY]) (a b : Bx) :
  Calls Tryz.prog 164 #[(.agg (dF a).toArray), (.agg (dF b).toArray)] w (fun ex w' => ∃ v, ex = .returned v ∧ (fun v w' => v = .bool (decide (ovl a b)) ∧ Below w.heap.size w w') v w') := by
 refine aH #[.tmp 4] 10 Tryz.func164 rfl Tryz.results164 Tryz.ntmps164 rfl ?_
 have M0 := Mem.refl w
 refine aD (aA (bK (.agg (List.toArray _)) M0 rfl rfl rfl (fun b1 w1 M1 => (bK (.agg (List.toArray _)) M1 rfl rfl rfl (fun b2 w2 M2 => (wq (aI (.bool false) rfl) rfl (aB (aC (aD (aA (wq (bA 0 iM M2 rfl rfl rfl) rfl ?_)))))))))))
 refine wq (bA 1 iM M2 rfl rfl rfl) rfl (bV bBz rfl rfl (aTp _ (N.mem M2) a b) ?_)
 rintro v3 w3 ⟨rfl, hb3⟩
 have M3 := M2.callB hb3
 refine bV aIj rfl rfl (uE _ (aAv a b)) ?_
 rintro v4 w4 ⟨rfl, hb4⟩
 have M4 := M3.callB hb4
 refine wq (pL rfl) rfl (wq (aI (.bool (decide _)) rfl) rfl (aB (aC (aN (cC (.bool (decide _)) rfl ?_)))))
 exact ⟨bD (aTq a b), M4.below⟩
set_option maxHeartbeats 4000000 in
theorem aMj (w : World) (x y : Int) :
  Calls Tryz.prog 229 #[.agg [.int .i32 x, .int .i32 y].toArray] w (fun ex w' => ∃ v, ex = .returned v ∧ (fun v w' => v = (.agg (cG (lM x, lM y)).toArray) ∧ Below w.heap.size w w') v w') := by
 refine aH #[.cell 2 226] 10 Tryz.func229 rfl Tryz.results229 Tryz.ntmps229 rfl ?_
 have M0 := Mem.refl w
 refine aD (aA (bK (.agg (List.toArray _)) M0 rfl rfl rfl (fun b1 w1 M1 => (aR nV M1 rfl rfl (fun b2 w2 M2 => (aB (aC (aD (aA (wq (aE 0 dU rfl) rfl (wq (aM 0 (.int _ _) aU M2 rfl rfl rfl) rfl ?_)))))))))))
 refine wq (gH rfl rfl (by decide)) rfl (aT 5 (.int .i32 (lM x)) (iE (aZk x)) (wq (aE 1 dN rfl) rfl (wq (aM 0 (.int _ _) aU M2 rfl rfl rfl) rfl (wq (gH rfl rfl (by decide)) rfl (aT 8 (.int .i32 (lM y)) (iE (aZk y)) ?_)))))
 refine wq (cN [(0, .int _ _), (1, .int _ _)] _ aCh rfl rfl) rfl (bC 1 _ gK M2 rfl rfl rfl rfl rfl (aQ rfl) rfl (fun w3 M3 => (aB (aC (aN (fR 1 gK M3 rfl rfl rfl ?_))))))
 exact ⟨rfl, M3.below⟩
set_option maxHeartbeats 4000000 in
theorem aNt (w : World) (a : Bx) :
  Calls Tryz.prog 216 #[(.agg (dF a).toArray)] w (fun ex w' => ∃ v, ex = .returned v ∧ (fun v w' => v = .tuple #[(.agg (cG (loC a)).toArray), (.agg (cG (hiC a)).toArray), .bool (decide (¬ gM a))] ∧ Below w.heap.size w w') v w') := by
 refine aH #[.cell 2 226, .cell 3 226, .tmp 4] 21 Tryz.func216 rfl Tryz.results216 Tryz.ntmps216 rfl ?_
 have M0 := Mem.refl w
 refine aD (aA (bK (.agg (List.toArray _)) M0 rfl rfl rfl (fun b1 w1 M1 => (aR nV M1 rfl rfl (fun b2 w2 M2 => (aR nV M2 rfl rfl (fun b3 w3 M3 => (wq (aI (.bool false) rfl) rfl (aB (aC (aD (aD (aA ?_)))))))))))))
 refine wq (bA 0 iM M3 rfl rfl rfl) rfl (bV aIj rfl rfl (uE _ a) ?_)
 rintro v4 w4 ⟨rfl, hb4⟩
 have M4 := M3.callB hb4
 refine aB (aC ?_)
 refine aW rfl (fun h6 => ?_) (fun h6 => ?_)
 ·refine aD (bQ [(0, 1), (1, 1), (2, 2), (3, 2), (4, 0)] mixed rfl (by kernel_rfl) (fun w5 hb5 hh5 => ?_))
  have M5 := M4.drew hb5 hh5
  refine cD rfl rfl rfl (bA 1 gK M5 rfl rfl rfl) (cD rfl rfl rfl (bA 2 gK M5 rfl rfl rfl) (dP [false, true] rfl (by kernel_rfl) (bC 1 _ gK M5 rfl rfl rfl rfl rfl (aQ rfl) rfl (fun w6 M6 => ?_))))
  refine aB (aC ⟨(eK (bN rfl (bA 2 gK M6 rfl rfl rfl)) dQ), ?_⟩)
  refine dP [true] rfl (by kernel_rfl) (bC 2 _ gK M6 rfl rfl rfl rfl rfl (aQ rfl) rfl (fun w7 M7 => ?_))
  refine aB (aC ⟨dQ, ?_⟩)
  refine aY rfl rfl rfl (fun _ => aI (.bool false) rfl) (cF (aC (aN (cE (aZn (v3 := .bool false) 1 2 gK M7 rfl rfl rfl rfl rfl rfl rfl ?_)))))
  exact ⟨by unfold loC hiC; rw [if_pos h6, if_pos h6, decide_eq_false (fun h => h h6)]; rfl, M7.below⟩
 ·refine aK (aC (aD (bQ [(0, 0), (1, 1), (2, 0), (3, 1), (4, 0), (6, 0), (7, 1), (8, 0), (9, 1), (10, 0), (5, 2), (11, 2), (12, 2), (13, 2), (14, 0)] mixed rfl (by kernel_rfl) (fun w8 hb8 hh8 => ?_))))
  have M8 := M4.drew hb8 hh8
  refine aY rfl rfl rfl (fun _ => aE 0 sR rfl) (cD rfl rfl rfl (aM 0 (.int _ _) aU M8 rfl rfl rfl) (aY rfl rfl rfl (fun _ => aE 1 rX rfl) (cD rfl rfl rfl (aM 0 (.int _ _) aU M8 rfl rfl rfl) (aY rfl rfl rfl (fun _ => cN [(0, .int _ _), (1, .int _ _)] _ eO rfl rfl) ?_))))
  refine aY rfl rfl rfl (fun _ => aE 2 sP rfl) (cD rfl rfl rfl (aM 0 (.int _ _) aU M8 rfl rfl rfl) (aY rfl rfl rfl (fun _ => aE 3 sN rfl) (cD rfl rfl rfl (aM 0 (.int _ _) aU M8 rfl rfl rfl) (aY rfl rfl rfl (fun _ => cN [(0, .int _ _), (1, .int _ _)] _ eO rfl rfl) ?_))))
  refine dP [false, false, true, true] rfl (by kernel_rfl) (bV aUe rfl rfl (aMj _ a.x0 a.y0) ?_)
  rintro v9 w9 ⟨rfl, hb9⟩
  have M9 := M8.callB hb9
  refine aB (aC ⟨(eK (bN rfl (aM 0 (.int _ _) aU M9 rfl rfl rfl)) (eK (bN rfl (aM 0 (.int _ _) aU M9 rfl rfl rfl)) dQ)), ?_⟩)
  refine dP [true, true] rfl (by kernel_rfl) (bV aUe rfl rfl (aMj _ a.x1 a.y1) ?_)
  rintro v10 w10 ⟨rfl, hb10⟩
  have M10 := M9.callB hb10
  refine aB (aC ⟨dQ, ?_⟩)
  refine dP [] rfl (by kernel_rfl) (bC 1 _ gK M10 rfl rfl rfl rfl rfl (aQ rfl) rfl (fun w11 M11 => ?_))
  refine aB (aC ⟨dQ, ?_⟩)
  refine dP [] rfl (by kernel_rfl) (bC 2 _ gK M11 rfl rfl rfl rfl rfl (aQ rfl) rfl (fun w12 M12 => ?_))
  refine aB (aC ⟨dQ, ?_⟩)
  refine aY rfl rfl rfl (fun _ => aI (.bool true) rfl) (cF (aC (aN (aZn (v3 := .bool true) 1 2 gK M12 rfl rfl rfl rfl rfl rfl rfl ?_))))
  exact ⟨by unfold loC hiC; rw [if_neg h6, if_neg h6, decide_eq_true h6], M12.below⟩
set_option maxHeartbeats 4000000 in
theorem aIt (w : World) (a : Bx) :
  Calls Tryz.prog 191 #[(.agg (dF a).toArray)] w (fun ex w' => ∃ v, ex = .returned v ∧ (fun v w' => ∃ b1 b2 b3, v = .func (.func 217) #[] #[.pointer (some ⟨b1, 0, none⟩), .pointer (some ⟨b2, 0, none⟩), .pointer (some ⟨b3, 0, none⟩)] ∧ Mem w [] [(some b1, bc (cG (loC a)) 226), (some b3, bc (cG (hiC a)) 226), (some b2, bc [.bool (decide (¬ gM a))] 4)] w') v w') := by
 refine aH #[.tmp 2] 13 Tryz.func191 rfl Tryz.results191 Tryz.ntmps191 rfl ?_
 have M0 := Mem.refl w
 refine aD (aA (bK (.agg (List.toArray _)) M0 rfl rfl rfl (fun b1 w1 M1 => (wq (aI (_) rfl) rfl (aB (aC (aD (aA (wq (bA 0 iM M1 rfl rfl rfl) rfl (bV bCf rfl rfl (aNt _ a) ?_))))))))))
 rintro v2 w2 ⟨rfl, hb2⟩
 have M2 := M1.callB hb2
 refine wq (aG (.tuple (List.toArray _)) rfl) rfl (wq (bE (.agg (List.toArray _)) rfl rfl) rfl (wq (bE (.agg (List.toArray _)) rfl rfl) rfl (wq (bE (.bool (decide _)) rfl rfl) rfl (aR nV M2 rfl rfl (fun b3 w3 M3 => (aR nV M3 rfl rfl (fun b4 w4 M4 => ?_)))))))
 refine aR aLq M4 rfl rfl (fun b5 w5 M5 => (bC 1 _ gK M5 rfl rfl rfl rfl rfl (aQ rfl) rfl (fun w6 M6 => (bC 2 _ gK M6 rfl rfl rfl rfl rfl (aQ rfl) rfl (fun w7 M7 => (dH 3 (.bool (decide _)) mL M7 rfl rfl rfl rfl rfl rfl (fun w8 M8 => (aB (aC (aD (aA (wq (cR [] [.pointer _, .pointer _, .pointer _] rfl rfl) rfl ?_))))))))))))
 refine wq (aI (.func _ _ _) rfl) rfl (aB (aC (aN (cC (.func _ _ _) rfl ?_))))
 exact ⟨b3, b5, b4, rfl, M8.keep [false, true, true, true]⟩
set_option maxHeartbeats 4000000 in
theorem aHl (w : World) (lo hi : Int × Int) (ok : Bool) (b1 b2 b3 : Nat) (L1 : Rd w 2 (some ⟨b1, 0, none⟩) 1 [cG lo]) (L2 : Rd w 1 (some ⟨b2, 0, none⟩) 1 [[.bool ok]]) (L3 : Rd w 2 (some ⟨b3, 0, none⟩) 1 [cG hi]) (hlo : Okc lo) (hhi : Okc hi) (lp ob : Nat) (rec : Loop) (hY : rW Tryz.prog lp ob rec 224 226 2 1048576 (fun x => ∃ a b, x = [.int .i32 a, .int .i32 b])) (r0 : Row) (hr0 : aX 226 2 r0.A r0.n r0.c [] r0.e) (hO : Own [(some lp, .loop rec), (some ob, bc [.slice r0.A r0.n r0.c] 224), r0.e] w) (hd1 : 0 < 1 → ∀ q off, (some ⟨b1, 0, none⟩ : Option Addr) = some ⟨q, off, none⟩ → q ∉ bS [(some lp, .loop rec), (some ob, bc [.slice r0.A r0.n r0.c] 224), r0.e]) (hd2 : 0 < 1 → ∀ q off, (some ⟨b2, 0, none⟩ : Option Addr) = some ⟨q, off, none⟩ → q ∉ bS [(some lp, .loop rec), (some ob, bc [.slice r0.A r0.n r0.c] 224), r0.e]) (hd3 : 0 < 1 → ∀ q off, (some ⟨b3, 0, none⟩ : Option Addr) = some ⟨q, off, none⟩ → q ∉ bS [(some lp, .loop rec), (some ob, bc [.slice r0.A r0.n r0.c] 224), r0.e]) :
  Calls Tryz.prog 217 #[.func (.yield lp) #[] #[], .pointer (some ⟨b1, 0, none⟩), .pointer (some ⟨b2, 0, none⟩), .pointer (some ⟨b3, 0, none⟩)] w (fun ex w' => ∃ v, ex = .returned v ∧ (fun v w' => v = .tuple #[] ∧ ∃ r : Row, aX 226 2 r.A r.n r.c ((tR ok lo hi).map cG) r.e ∧ Mem w (bS [(some lp, .loop rec), (some ob, bc [.slice r0.A r0.n r0.c] 224), r0.e]) [(some lp, .loop rec), (some ob, bc [.slice r.A r.n r.c] 224), r.e] w') v w') := by
 rw [← eN b1, ← eN b2, ← eN b3]
 have hxd : nX lo hi = (hi.1 - lo.1 + 1).toNat := rfl
 have hyd : nY lo hi = (hi.2 - lo.2 + 1).toNat := rfl
 have hlx := hlo.x
 have hly := hlo.y
 have hhx := hhi.x
 have hhy := hhi.y
 have hnx := aYw hlo hhi
 have hny := aYv hlo hhi
 refine aH #[] 32 Tryz.func217 rfl Tryz.results217 Tryz.ntmps217 rfl ?_
 have M0 := hO.mem
 refine aD (aA (wq (bR 1 yI (L1.memY M0 hd1) (Nat.lt_of_le_of_lt (Nat.zero_le _) ((L1.memY M0 hd1).below_len (show ([cG lo] : List (List Value))[0]? = some (cG lo) from rfl))) rfl) rfl (wq (eQ (o := 1) (.int _ _) aU (L1.memY M0 hd1) (show ([cG lo] : List (List Value))[0]? = some (cG lo) from rfl) rfl rfl) rfl ?_)))
 refine bJ rfl rfl (aB (aC (aS (dM (σ := Nat × Row) [0, 1, 2, 3] (fun (j, r) => [(5, .int .i32 (lo.2 + (j : Int)))]) (fun (j, r) w' => (j ≤ nY lo hi ∧ (ok = false → j = 0) ∧ aX 226 2 r.A r.n r.c ((lY lo hi j).map cG) r.e) ∧ Mem w (bS [(some lp, .loop rec), (some ob, bc [.slice r0.A r0.n r0.c] 224), r0.e]) [(some lp, .loop rec), (some ob, bc [.slice r.A r.n r.c] 224), r.e] w') (fun (j, r) => nY lo hi - j) (0, r0) (bL (iv rfl (by simp)) eV) (⟨⟨by omega, fun _ => rfl, hr0⟩, M0⟩) ?_))))
 rintro ⟨j, r⟩ ρ1 w1 ⟨⟨hj, hjz, hr⟩, hM1⟩
 refine aD (aD (aA (wq (eQ (o := 0) (.bool _) mL (L2.memY hM1 hd2) (show ([[.bool ok]] : List (List Value))[0]? = some ([.bool ok]) from rfl) rfl rfl) rfl (wq (aG (.bool _) rfl) rfl ?_))))
 refine nF 10 _ rfl (fun g10 => ?_) (fun g10 => ?_)
 ·refine aV rfl rfl (wq (bR 1 yI (L3.memY hM1 hd3) (Nat.lt_of_le_of_lt (Nat.zero_le _) ((L3.memY hM1 hd3).below_len (show ([cG hi] : List (List Value))[0]? = some (cG hi) from rfl))) rfl) rfl (wq (eQ (o := 1) (.int _ _) aU (L3.memY hM1 hd3) (show ([cG hi] : List (List Value))[0]? = some (cG hi) from rfl) rfl rfl) rfl ?_))
  refine cT rfl rfl rfl rfl (wq (bI true (.bool (decide _)) rfl rfl) rfl (aB (aC ?_)))
  refine aW rfl (fun h15 => ?_) (fun h15 => ?_)
  ·refine aK (aC (aD (aS (aD (aA (wq (bR 0 xE (L1.memY hM1 hd1) (Nat.lt_of_le_of_lt (Nat.zero_le _) ((L1.memY hM1 hd1).below_len (show ([cG lo] : List (List Value))[0]? = some (cG lo) from rfl))) rfl) rfl (wq (eQ (o := 0) (.int _ _) aU (L1.memY hM1 hd1) (show ([cG lo] : List (List Value))[0]? = some (cG lo) from rfl) rfl rfl) rfl ?_)))))))
   refine bJ rfl rfl (aB (aC (aS (dM (σ := Nat × Row) [0, 1, 2, 3, 5] (fun (i, q0) => [(6, .int .i32 (lo.1 + (i : Int)))]) (fun (i, q0) w' => (i ≤ nX lo hi ∧ aX 226 2 q0.A q0.n q0.c ((lY lo hi j ++ zF lo i j).map cG) q0.e) ∧ Mem w (bS [(some lp, .loop rec), (some ob, bc [.slice r0.A r0.n r0.c] 224), r0.e]) [(some lp, .loop rec), (some ob, bc [.slice q0.A q0.n q0.c] 224), q0.e] w') (fun (i, q0) => nX lo hi - i) (0, r) (bL (iv rfl (by simp)) eV) (⟨⟨by omega, by simpa [zF] using hr⟩, hM1⟩) ?_))))
   rintro ⟨i, q0⟩ ρ2 w2 ⟨⟨hi2, hq0⟩, hM2⟩
   have hql : (lY lo hi j).length + i = q0.n := by simpa [aGt] using hq0.1
   refine aD (aD (aA (aV rfl rfl (wq (bR 0 xE (L3.memY hM2 hd3) (Nat.lt_of_le_of_lt (Nat.zero_le _) ((L3.memY hM2 hd3).below_len (show ([cG hi] : List (List Value))[0]? = some (cG hi) from rfl))) rfl) rfl (wq (eQ (o := 0) (.int _ _) aU (L3.memY hM2 hd3) (show ([cG hi] : List (List Value))[0]? = some (cG hi) from rfl) rfl rfl) rfl ?_)))))
   refine cT rfl rfl rfl rfl (aB (aC ?_))
   refine aW rfl (fun h23 => ?_) (fun h23 => ?_)
   ·have hlt6 := aUi (lo := lo) (hi := hi) (i := i) (j := j) hnx (by omega) (by omega)
    refine aK (aC (aD (aS (aD (aBj (aAw (aG (.func _ _ _) rfl) rfl rfl (aAw (aG (.int _ _) rfl) rfl rfl (aAw (aG (.int _ _) rfl) rfl rfl (aAw (cN [(0, .int _ _), (1, .int _ _)] _ aCh rfl rfl) rfl rfl ?_)))))))))
    obtain ⟨fy, ty, ay, by1, hy1, hy2⟩ := hY _ q0 ((lY lo hi j ++ zF lo i j).map cG) (cG (lo.1 + (i : Int), lo.2 + (j : Int))) ⟨_, _, rfl⟩ (by omega) hq0 (hM2.ownSeg 0 3)
    refine aBr rfl rfl rfl rfl hy1 (hy2.mono ?_)
    rintro _ w3 ⟨rfl, q3, hqn3, hq3, hM3⟩
    have M3 : Mem _ _ [_, _, _] _ := hM2.seg 0 3 hM3
    refine ⟨_, rfl, ?_⟩
    refine aRb rfl (fun _ _ h => h) (wq (fY false rfl rfl) rfl (aB (aC (bX rfl (aK (cX ?_))))))
    refine aC (aA (aV rfl rfl (wq (iJ rfl rfl (lU _ (by omega) (by omega))) rfl (bJ rfl rfl (aB ?_)))))
    refine cQ (i + 1, q3) (bL (iv rfl (by omega)) eV) (cU rfl (cU rfl (cU rfl (cU rfl (cU rfl jS))))) ?_ ?_
    ·exact ⟨⟨by omega, by rw [aPk, ← List.append_assoc, List.map_append]; exact hq3⟩, M3⟩
    ·(show nX lo hi - (i + 1) < nX lo hi - i; omega)
   ·have hix : i = nX lo hi := by omega
    refine cP (dA (cY (eT (cX (aC (aA ?_))))))
    refine aV rfl rfl (wq (iJ rfl rfl (lU _ (by omega) (by omega))) rfl (bJ rfl rfl (aB ?_)))
    refine cQ (j + 1, q0) (bL (iv rfl (by omega)) eV) (cU rfl (cU rfl (cU rfl (cU rfl jS)))) ?_ ?_
    ·exact ⟨⟨by omega, fun h => (by rw [g10] at h; cases h), by rw [zR, ← hix]; exact hq0⟩, hM2⟩
    ·(show nY lo hi - (j + 1) < nY lo hi - j; omega)
  ·refine cP (dA (cY (eT (iP ?_))))
   exact ⟨rfl, r, by unfold tR; first | (rw [if_pos g10, show nY lo hi = j by omega]; exact hr) | (rw [if_neg (by rw [g10]; decide)]; rw [hjz g10] at hr; exact hr), hM1⟩
 ·refine aO rfl rfl (aO rfl rfl (aO rfl rfl (aO rfl rfl (wq (bI false (.bool false) rfl rfl) rfl (aB (aC ?_))))))
  refine bX rfl (cP (dA (cY (eT (iP ?_)))))
  exact ⟨rfl, r, by unfold tR; first | (rw [if_pos g10, show nY lo hi = j by omega]; exact hr) | (rw [if_neg (by rw [g10]; decide)]; rw [hjz g10] at hr; exact hr), hM1⟩
set_option maxHeartbeats 4000000 in
theorem aSx (w : World) (a : Bx) (ha : Okx a) :
  Calls Tryz.prog 161 #[(.agg (dF a).toArray)] w (fun ex w' => ∃ v, ex = .returned v ∧ (fun v w' => ∃ r : Row, v = .slice r.A r.n r.c ∧ aX 226 2 r.A r.n r.c ((fV a).map cG) r.e ∧ Mem w [] [r.e] w') v w') := by
 refine uZ #[.tmp 2] 13 Tryz.func161 rfl Tryz.results161 Tryz.ntmps161 rfl ?_
 have M0 := Mem.refl w
 refine oA (lJ (bK (.agg (List.toArray _)) M0 rfl rfl rfl (fun b1 w1 M1 => (gC rfl rfl (aB (nK ?_))))))
 refine oA (lJ (aR aVs M1 rfl rfl (fun b2 w2 M2 => (aB (nK (oA ?_))))))
 refine oA (lJ (wq (bA 0 iM M2 rfl rfl rfl) rfl (bV bDi rfl rfl (aIt _ a) ?_)))
 rintro v3 w3 ⟨bl, bk, bh, rfl, hM3⟩
 have M3 : Mem _ _ [_, _, _, _, _] _ := M2.call0 hM3
 refine aB (nK (aGo ?_))
 have M4 : Mem _ _ [_, _, _, _, _] _ := ((M3.keep [false, true, true, true, true]).dummy default).perm (List.Perm.cons _ (List.perm_append_comm (l₁ := [_, _, _]) (l₂ := [_])))
 refine aGh bBg M4 rfl (fun fnn B lp tmps w1 hρ hn M1 => ?_)
 refine wQ (P := Tryz.prog) (ob := b2) (Tsl := 224) (Te := 226) (sz := 2) (N := 1048576) (ok := (fun x => ∃ a b, x = [.int .i32 a, .int .i32 b])) M1 ?_ (fun hY => ?_)
 ·intro wr r ls x hok hlt hrow hO
  obtain ⟨xa, xb, rfl⟩ := hok
  refine ⟨_, _, _, _, aGn hO rfl rfl rfl hn (by decide) hρ ?_⟩
  have MR0 := hO.mem
  refine qG rfl (fun _ _ h => nomatch h.1) (aR nV MR0 rfl rfl (fun b5 w5 M5 => (bC 3 _ gK M5 rfl rfl rfl rfl rfl (aQ rfl) rfl (fun w6 M6 => (aB ?_)))))
  refine ⟨rfl, _, M6, rfl, fun w7 M7 => ?_⟩
  refine aHd (qG rfl (fun _ _ h => nomatch h.1) (wq (aM 1 (.slice _ _ _) aJm M7 rfl rfl rfl) rfl (wq (bA 3 gK M7 rfl rfl rfl) rfl (dC [.agg (List.toArray _)] [[.int .i32 xa, .int .i32 xb]] rfl aRj M7 rfl rfl rfl rfl (dI rfl) (by decide) (fun b8 w8 M8 => (eH 2 [[.int .i32 xa, .int .i32 xb]] aRj M8 rfl rfl rfl rfl rfl hrow rfl (by simp [Go.Bil.one]) (dD.ofMem 4 M8 rfl) (by omega) (fun A9 c9 e9 w9 M9 hR9 => ?_)))))))
  refine dH 1 (.slice _ _ _) aJm M9 rfl rfl rfl rfl rfl rfl (fun w10 M10 => (aB (cX ?_)))
  refine ⟨rfl, _, M10, rfl, fun w11 M11 => ?_⟩
  exact ⟨⟨A9, r.n + 1, c9, e9⟩, rfl, hR9, M11.keep [true, true, true, false, false]⟩
 ·refine (aHl _ (loC a) (hiC a) _ bl bk bh (lW 3 M1 rfl rfl) (lW 5 M1 rfl rfl) (lW 4 M1 rfl rfl) (aJj ha) (aKo ha) lp b2 _ hY ⟨none, 0, 0, (none, default)⟩ (aX.nil _ _ _) (M1.ownSeg 0 3) (M1.apartTake 3 3 rfl rfl) (M1.apartTake 3 5 rfl rfl) (M1.apartTake 3 4 rfl rfl)).mono ?_
  rintro _ w5 ⟨v5, rfl, rfl, r, hr, hM⟩
  have M5 : Mem _ _ (_ :: [_, _, _, _, _, _]) _ := M1.seg 0 3 hM
  refine ⟨_, rfl, _, M5, fun w6 M6 => ?_⟩
  refine aZo (nK (oA (aBn (aLs (aM 1 (.slice _ _ _) aJm M6 rfl rfl rfl) rfl rfl (aLs (aI (.slice _ _ _) rfl) rfl rfl ?_)))))
  refine aLo (nK (aQl (aYx (i := 6) (.slice _ _ _) rfl M6 rfl (fun w9 M9 => ?_))))
  exact ⟨r, rfl, hr, M9.keep [false, false, true, false, false, false, false]⟩
set_option maxHeartbeats 4000000 in
theorem aFi (w : World) (F : Rd w 2 (some ⟨0, 0, none⟩) 1 [[.int .u32 73856093, .int .u32 19349663]]) (c : Int × Int) :
  Calls Tryz.prog 162 #[(.agg (cG c).toArray)] w (fun ex w' => ∃ v, ex = .returned v ∧ (fun v w' => v = .int .i64 (dK c : Int) ∧ Below w.heap.size w w') v w') := by
 refine aH #[.tmp 2] 20 Tryz.func162 rfl Tryz.results162 Tryz.ntmps162 rfl ?_
 have M0 := Mem.refl w
 refine aD (aA (bK (.agg (List.toArray _)) M0 rfl rfl rfl (fun b1 w1 M1 => (bJ rfl rfl (aB (aC (aD (aA (wq (aE 0 xE rfl) rfl (wq (aM 0 (.int _ _) aU M1 rfl rfl rfl) rfl ?_))))))))))
 refine wq (dT fL Tryz.underlying36 rfl) rfl (wq (eX (0) aSq rfl rfl rfl (by decide)) rfl (wq (eQ (k := 0) (o := 0) (.int _ _) bZ (F.mem M1) (show ([[.int .u32 73856093, .int .u32 19349663]] : List (List Value))[0]? = some [.int .u32 73856093, .int .u32 19349663] from rfl) rfl rfl) rfl (wq (dY (.int _ _) rfl rfl rfl) rfl ?_)))
 refine wq (aE 1 yI rfl) rfl (wq (aM 0 (.int _ _) aU M1 rfl rfl rfl) rfl (wq (dT fL Tryz.underlying36 rfl) rfl (wq (eX (1) aSq rfl rfl rfl (by decide)) rfl (wq (eQ (k := 0) (o := 1) (.int _ _) bZ (F.mem M1) (show ([[.int .u32 73856093, .int .u32 19349663]] : List (List Value))[0]? = some [.int .u32 73856093, .int .u32 19349663] from rfl) rfl rfl) rfl ?_))))
 refine wq (dY (.int _ _) rfl rfl rfl) rfl (wq (dY (.int _ _) rfl rfl rfl) rfl (bJ rfl rfl (aB (aC (aD (aA (aV rfl rfl (wq (dY (.int _ _) rfl rfl rfl) rfl ?_))))))))
 refine aT 18 (.int .u32 (qE c)) rfl (wq (bU qZ Tryz.underlying3 rfl (kJ _ (by have := jX c; omega) (by have := jX c; omega))) rfl (bJ rfl rfl (aB (aC (aN (cC (.int _ _) rfl ?_))))))
 exact ⟨iE (aPs c), M1.below⟩
set_option maxHeartbeats 16000000 in
theorem aHx (w : World) (F : Rd w 2 (some ⟨0, 0, none⟩) 1 [[.int .u32 73856093, .int .u32 19349663]]) (b : Nat) (rs : List Row) (cnt : Int) (g : Nat → List Int) (hG : GridRows 36 rs g) (hcnt : 0 ≤ cnt ∧ cnt ≤ 1048576) (hgl : ∀ j, j < 1024 → (g j).length ≤ 1048576) (key : Int) (a : Bx) (ha : Okx a) (hO : Own ((some b, bc (dE rs cnt) 191) :: rs.map Row.e) w) (hdF : 0 < 1 → ∀ q off, (some ⟨0, 0, none⟩ : Option Addr) = some ⟨q, off, none⟩ → q ∉ bS ((some b, bc (dE rs cnt) 191) :: rs.map Row.e)) :
  Calls Tryz.prog 133 #[.pointer (some ⟨b, 0, none⟩), .int .u32 key, (.agg (dF a).toArray)] w (fun ex w' => ∃ v, ex = .returned v ∧ (fun v w' => v = .tuple #[] ∧ ∃ rs' : List Row, GridRows 36 rs' (qM g key ((fV a).map dK)) ∧ Mem w (bS ((some b, bc (dE rs cnt) 191) :: rs.map Row.e)) ((some b, bc (dE rs' (cnt + 1)) 191) :: rs'.map Row.e) w') v w') := by
 refine aH #[] 49 Tryz.func133 rfl Tryz.results133 Tryz.ntmps133 rfl ?_
 have M0 := hO.mem
 refine aD (aA (bK (.agg (List.toArray _)) M0 rfl rfl rfl (fun b1 w1 M1 => ?_)))
 have M2 : Mem _ _ ([_, _] ++ _) _ := Mem.front (L := [_]) M1
 refine aB (aC (aD (aD (aA (wq (aG (.pointer _) rfl) rfl (wq (eB false Tryz.underlying222 rfl rfl) rfl (aB (aC (bX rfl (aK (aC (aD (aA ?_)))))))))))))
 refine wq (aG (.pointer _) rfl) rfl (wq (aL rfl) rfl (wq (aE 1024 aEw rfl) rfl (wq (aM 0 (.int .i64 cnt) kG M2 rfl rfl (zP hG.len)) rfl (wq (bM rfl rfl (by omega) (by omega)) rfl (wq (aL rfl) rfl ?_)))))
 refine wq (aE 1024 aEw rfl) rfl (dH 0 (.int _ _) kG M2 rfl rfl rfl rfl rfl (by rw [zP hG.len]; rfl) (fun w3 M3 => ?_))
 have M3b : Mem _ _ ([(some b, bc (dE rs (cnt + 1)) 191), _] ++ rs.map Row.e) _ := Mem.cells0 M3 (zX hG.len)
 refine aB (aC (aD (aA (lL M3b rfl rfl (fun b4 w4 M4 => ?_)))))
 have M5 : Mem _ _ ([_, _, _] ++ _) _ := Mem.front (L := [_, _]) M4
 refine wq (aI (.map _) rfl) rfl (aB (aC (aD (aA (wq (bA 1 iM M5 rfl rfl rfl) rfl (bV bCl rfl rfl (aSx _ a ha) ?_))))))
 rintro v6 w6 ⟨r0, rfl, hR0, hM6⟩
 have M6 : Mem _ _ ([_, _, _, _] ++ _) _ := Mem.front (L := [_, _, _]) (M5.call0 hM6)
 have hcl : (fV a).length = r0.n := by simpa using hR0.1
 have hcb := aJv ha
 refine wq (cM Tryz.underlying224 rfl) rfl (aV rfl rfl (aB (aC (aS (dM (σ := Nat × List Row × dR) [0, 1, 6, 21, 22] (fun (i, rs1, em) => [(23, .int .i64 (i : Int))]) (fun (i, rs1, em) w' => (i ≤ r0.n ∧ GridRows 36 rs1 (qM g key (((fV a).map dK).take i)) ∧ iU .i64 Value.bool (pJ (((fV a).map dK).take i)) (some b4) em) ∧ Mem w (bS ((some b, bc (dE rs cnt) 191) :: rs.map Row.e)) ([(some b, bc (dE rs1 (cnt + 1)) 191), (some b1, bc (dF a) 193), em, r0.e] ++ rs1.map Row.e) w') (fun (i, rs1, em) => r0.n - i) (0, rs, (some b4, .map #[] 0)) (bL rfl eV) (⟨⟨by omega, by rw [List.take_zero, aUd]; exact hG, (iU.empty _ _ b4).congr (fun q => by rw [List.take_zero]; exact aPi q)⟩, M6⟩) ?_)))))
 rintro ⟨i, rs1, em⟩ ρ7 w7 ⟨⟨hi, hrs, hme⟩, hM7⟩
 refine aD (aA (cT rfl rfl rfl rfl (aB (aC (aD ?_)))))
 refine aW rfl (fun h24 => ?_) (fun h24 => ?_)
 ·obtain ⟨xc, hxc⟩ := cI (xs := fV a) (k := i) hcl (by omega)
  have hbb : ((fV a).map dK)[i]? = some (dK xc) := by rw [List.getElem?_map, hxc]; rfl
  refine aK (aC (aD (aS (aD (aA (wq (bO (i) aRj rfl rfl rfl ((hR0.rd hM7 (aZ (i := 3) rfl)).below_len (aJ cG hxc)) ((hR0.rd hM7 (aZ (i := 3) rfl)).someK (aJ cG hxc))) rfl (wq (cZ _ gK (hR0.rd hM7 (aZ (i := 3) rfl)) (aJ cG hxc) rfl) rfl ?_)))))))
  refine aR nV hM7 rfl rfl (fun b8 w8 M8 => ?_)
  have M9 : Mem _ _ ([_, _, _, _, _] ++ _) _ := Mem.front (L := [_, _, _, _]) M8
  refine bC 4 _ gK M9 rfl rfl rfl rfl rfl (aQ rfl) rfl (fun w10 M10 => (aB (aC (aD (aA (wq (bA 4 gK M10 rfl rfl rfl) rfl (bV bCs rfl rfl (aFi _ (F.memY M10 hdF) xc) ?_)))))))
  rintro v11 w11 ⟨rfl, hb11⟩
  have M11 := M10.callB hb11
  refine bJ rfl rfl (aB (aC (aD (aD (aA (wq (aG (.map _) rfl) rfl (aV rfl rfl (wq (jA (enc := Value.bool) false 2 aSh zv4 M11 rfl hme rfl rfl) rfl (aB (aC ?_))))))))))
  refine gU _ rfl (fun h31 => ?_) (fun h31 => ?_)
  ·refine cP (dA (eT (aC (aA (wq (bM rfl rfl (by omega) (by omega)) rfl (aV rfl rfl ?_))))))
   refine aB ?_
   refine cQ (i + 1, rs1, em) (bL rfl eV) (cU rfl (cU rfl (cU rfl (cU rfl (cU rfl jS))))) ?_ ?_
   ·exact ⟨⟨by omega, by rw [aRd hbb (tK.1 h31)]; exact hrs, by rw [aNq hbb (tK.1 h31)]; exact hme⟩, Mem.keepL (L := [_, _, _, _, _]) [true, true, true, true, false] M11⟩
   ·(show r0.n - (i + 1) < r0.n - i; omega)
  ·have hnb : dK xc ∉ ((fV a).map dK).take i := fun h => by have h2 := tK.2 h; rw [h2] at h31; cases h31
   refine aK (aC (aD (aA (wq (aG (.map _) rfl) rfl (aV rfl rfl (iA (enc := Value.bool) 2 aSh M11 rfl rfl hme rfl rfl rfl rfl (fun e12 w12 hm12 M12 => (aB (aC (bQ [(0, 0), (1, 0), (2, 0), (3, 0), (4, 0), (5, 0), (6, 0), (7, 1), (8, 0), (11, 0), (12, 0), (9, 2), (10, 2), (13, 0), (14, 2)] mixed rfl (by kernel_rfl) (fun w13 hb13 hh13 => ?_)))))))))))
   have M13 := M12.drew hb13 hh13
   refine aY rfl rfl rfl (fun _ => aG (.pointer _) rfl) (gG rfl rfl rfl (aY rfl rfl rfl (fun _ => aG (.pointer _) rfl) (gG rfl rfl rfl (aY rfl rfl rfl (fun _ => aL rfl) (aY rfl rfl rfl (fun _ => aE 0 yO rfl) ?_)))))
   refine aY rfl rfl rfl (fun _ => eX (dK xc) aJb rfl rfl rfl (iW xc)) ?_
   obtain ⟨rb, hrb⟩ := hrs.get (iW xc)
   have hrowb := hrs.row _ _ hrb
   have hgb : qM g key (((fV a).map dK).take i) (dK xc) = g (dK xc) := by unfold qM; rw [if_neg hnb]
   have hrn : (qM g key (((fV a).map dK).take i) (dK xc)).length = rb.n := by simpa using hrowb.1
   have hgl := hgl (dK xc) (iW xc)
   rw [hgb] at hrn
   have M14 : Mem _ _ ([_, _, _, _, _, _] ++ (rs1.eraseIdx (dK xc)).map Row.e) _ := Mem.pull (L := [_, _, _, _, _]) (rs := rs1) M13 hrb
   refine cD rfl rfl rfl (aM 0 (.slice _ _ _) aEl M14 rfl rfl (qY hrb)) (gG rfl rfl rfl (aY rfl rfl rfl (fun _ => aL rfl) (aY rfl rfl rfl (fun _ => aE 0 yO rfl) (dP [false] rfl (by kernel_rfl) (dC [.int _ _] [fA key] rfl aFc M14 rfl rfl rfl rfl (dI rfl) (by decide) (fun b15 w15 M15 => ?_))))))
   have M16 : Mem _ _ ([_, _, _, _, _, _, _] ++ _) _ := Mem.front (L := [_, _, _, _, _, _]) M15
   refine aB (aC ⟨(eK (bN rfl (aM 0 (.slice _ _ _) aEl M16 rfl rfl (qY hrb))) dQ), ?_⟩)
   refine dP [true] rfl (by kernel_rfl) (eH 5 [fA key] aFc M16 rfl rfl rfl rfl rfl hrowb rfl (aIm _) (dD.ofMem 6 M16 rfl) (by omega) (fun A17 c17 e17 w17 M17 hR17 => ?_))
   refine aB (aC ⟨dQ, ?_⟩)
   refine aY rfl rfl rfl (fun _ => eX (dK xc) aJb rfl rfl rfl (iW xc)) (dP [] rfl (by kernel_rfl) (dH 0 (.slice _ _ _) aEl M17 rfl rfl rfl rfl rfl (by rw [qY hrb]; rfl) (fun w18 M18 => ?_)))
   have M18b : Mem _ _ ([(some b, bc (dE (rs1.set (dK xc) (⟨A17, rb.n + 1, c17, e17⟩ : Row)) (cnt + 1)) 191), _, _, _, _, _, _] ++ (rs1.eraseIdx (dK xc)).map Row.e) _ := Mem.cells0 M18 (aAe (⟨A17, rb.n + 1, c17, e17⟩ : Row) (by rw [hrs.len]; exact iW xc))
   refine aB (aC ⟨dQ, ?_⟩)
   refine cF (cX (aC (aA (wq (bM rfl rfl (by omega) (by omega)) rfl (aV rfl rfl (aB ?_))))))
   refine cQ (i + 1, rs1.set (dK xc) (⟨A17, rb.n + 1, c17, e17⟩ : Row), e12) (bL rfl eV) (cU rfl (cU rfl (cU rfl (cU rfl (cU rfl jS))))) ?_ ?_
   ·exact ⟨⟨by omega, by rw [aRk hbb hnb]; exact hrs.put (r := (⟨A17, rb.n + 1, c17, e17⟩ : Row)) (iW xc) (by simpa using hR17), hm12.congr (fun q => aBe hbb q)⟩, Mem.push (L := [_, _, _, _]) (rs := rs1) (⟨A17, rb.n + 1, c17, e17⟩ : Row) (Mem.keepL (L := [_, _, _, _, _, _, _]) [true, true, true, true, false, true, false] M18b) (by rw [hrs.len]; exact iW xc)⟩
   ·(show r0.n - (i + 1) < r0.n - i; omega)
 ·have hin : i = r0.n := by omega
  rw [List.take_of_length_le (by simp; omega)] at hrs
  refine cP (dA (cY (eT (iP ?_))))
  exact ⟨rfl, rs1, hrs, Mem.keepL (L := [_, _, _, _]) [true, false, false, false] hM7⟩
end Go.Proofs.YtlmcphcgiclanaaGreatDoor
