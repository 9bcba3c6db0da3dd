/- Part of the proof of the laws of this seat: B8, C9, G10. No conditions. -/
import Derived.Test.YtlmcphcgiclanaaGreatDoorK2
import Derived.Test.YtlmcphcgiclanaaGreatDoorK5
import Derived.Test.YtlmcphcgiclanaaGreatDoorK6
import Derived.Test.YtlmcphcgiclanaaGreatDoorK11
import Derived.Test.YtlmcphcgiclanaaGreatDoorK15
set_option linter.unusedVariables false
set_option linter.unusedSimpArgs false
set_option linter.unnecessarySimpa false
namespace Go.Proofs.YtlmcphcgiclanaaGreatDoor
open Go.Bil
open Go.RowKit (Below)
open Go.Proofs
set_option maxHeartbeats 4000000 in
theorem aHc (w : World) (x : Int) (h0 : -2147483647 ≤ x) (h1 : x ≤ 2147483647) :
  Calls Tryz.prog 215 #[.int .i32 x] w (fun ex w' => ∃ v, ex = .returned v ∧ (fun v w' => v = .int .i32 (max x (-x)) ∧ Below w.heap.size w w') v w') := by
 refine aH #[.tmp 2] 7 Tryz.func215 rfl Tryz.results215 Tryz.ntmps215 rfl ?_
 have M0 := Mem.refl w
 refine aD (aA (bI rfl rfl (aB (aC (aD (aA (aV rfl rfl (aV rfl rfl (wq (aIj rfl (lI _ (by omega) (by omega))) rfl ?_)))))))))
 refine wq (nM rfl rfl ) rfl (bI rfl rfl (aB (aC (aN (bV (.int _ _) rfl ?_)))))
 exact ⟨iE (by omega), M0.below⟩
set_option maxHeartbeats 4000000 in
theorem aFz (w : World) (b : Body) (hb : Okb b) :
  Calls Tryz.prog 190 #[(.agg (aF b).toArray)] w (fun ex w' => ∃ v, ex = .returned v ∧ (fun v w' => v = .tuple #[.int .i32 (aNz b), .int .i32 (aMz b)] ∧ Below w.heap.size w w') v w') := by
 have hr := hb.r
 have ha := hb.a
 have hp := hb.p
 refine aH #[.tmp 2, .tmp 3] 18 Tryz.func190 rfl Tryz.results190 Tryz.ntmps190 rfl ?_
 have M0 := Mem.refl w
 refine aD (aA (bN (.agg (List.toArray _)) M0 rfl rfl rfl (fun b1 w1 M1 => (bI rfl rfl (bI rfl rfl (aB (aC (aD (bX [(0, 0), (1, 0), (2, 1), (4, 0), (5, 1), (7, 0), (8, 0), (9, 1), (11, 0), (12, 1), (3, 2), (6, 0), (10, 2), (13, 0), (14, 0), (15, 0)] mixed rfl (by kernel_rfl) (fun w2 hb2 hh2 => ?_))))))))))
 have M2 := M1.drew hb2 hh2
 refine bA rfl rfl rfl (fun _ => aE 2 jK rfl) (bA rfl rfl rfl (fun _ => aE 0 dJ rfl) (cD rfl rfl rfl (aO 0 (.int _ _) aT M2 rfl rfl rfl) (bA rfl rfl rfl (fun _ => aE 1 kQ rfl) (cD rfl rfl rfl (aO 0 (.int _ _) aT M2 rfl rfl rfl) (bA rfl rfl rfl (fun _ => aE 2 jK rfl) ?_)))))
 refine bA rfl rfl rfl (fun _ => aE 1 dB rfl) (cD rfl rfl rfl (aO 0 (.int _ _) aT M2 rfl rfl rfl) (bA rfl rfl rfl (fun _ => aE 1 kQ rfl) (cD rfl rfl rfl (aO 0 (.int _ _) aT M2 rfl rfl rfl) (dU [false, false, false, true] rfl (by kernel_rfl) (cA aPi rfl rfl (aHc _ _ (by omega) (by omega)) ?_)))))
 rintro v3 w3 ⟨rfl, hb3⟩
 have M3 := M2.callB hb3
 refine aB (aC ⟨(eX (bQ rfl (aO 0 (.int _ _) aT M3 rfl rfl rfl)) (eX (bQ rfl (aO 0 (.int _ _) aT M3 rfl rfl rfl)) (eX (bQ rfl (aO 0 (.int _ _) aT M3 rfl rfl rfl)) dS))), ?_⟩)
 refine bA rfl rfl rfl (fun _ => iI rfl rfl (lI _ (by omega) (by omega))) (dU [false, true, false] rfl (by kernel_rfl) (cA aPi rfl rfl (aHc _ _ (by omega) (by omega)) ?_))
 rintro v4 w4 ⟨rfl, hb4⟩
 have M4 := M3.callB hb4
 refine aB (aC ⟨(eX (bQ rfl (aO 0 (.int _ _) aT M4 rfl rfl rfl)) (eX (bQ rfl (aO 0 (.int _ _) aT M4 rfl rfl rfl)) dS)), ?_⟩)
 refine bA rfl rfl rfl (fun _ => iI rfl rfl (lI _ (by omega) (by omega))) (qC rfl rfl rfl (qC rfl rfl rfl (cH (aC (aN (gY (.int _ _) (.int _ _) rfl rfl ?_))))))
 exact ⟨rfl, M4.below⟩
set_option maxHeartbeats 4000000 in
theorem bBk (w : World) (b : Body) (hb : Okb b) :
  Calls Tryz.prog 160 #[(.agg (aF b).toArray)] w (fun ex w' => ∃ v, ex = .returned v ∧ (fun v w' => v = (.agg (dE (iG b)).toArray) ∧ Below w.heap.size w w') v w') := by
 have hr := hb.r
 have ha := hb.a
 have hp := hb.p
 have he := aSs hb
 refine aH #[.cell 2 193] 31 Tryz.func160 rfl Tryz.results160 Tryz.ntmps160 rfl ?_
 have M0 := Mem.refl w
 refine aD (aA (bN (.agg (List.toArray _)) M0 rfl rfl rfl (fun b1 w1 M1 => (aR aDk M1 rfl rfl (fun b2 w2 M2 => (aB (aC (aD (aA (wq (bB 0 bO M2 rfl rfl rfl) rfl (cA bBd rfl rfl (aFz _ b hb) ?_)))))))))))
 rintro v3 w3 ⟨rfl, hb3⟩
 have M3 := M2.callB hb3
 refine wq (aG (.tuple (List.toArray _)) rfl) rfl (wq (bH (.int _ _) rfl rfl) rfl (wq (bH (.int _ _) rfl rfl) rfl (bI rfl rfl (bI rfl rfl (aB (aC (aD (aA ?_))))))))
 refine wq (aE 6 fJ rfl) rfl (wq (aE 0 dJ rfl) rfl (wq (aO 0 (.int _ _) aT M3 rfl rfl rfl) rfl (aV rfl rfl (wq (kW rfl rfl (lI _ (by omega) (by omega))) rfl (wq (aE 6 fJ rfl) rfl ?_)))))
 refine wq (aE 1 dB rfl) rfl (wq (aO 0 (.int _ _) aT M3 rfl rfl rfl) rfl (aV rfl rfl (wq (kW rfl rfl (lI _ (by omega) (by omega))) rfl (wq (aE 6 fJ rfl) rfl (wq (aE 0 dJ rfl) rfl ?_)))))
 refine wq (aO 0 (.int _ _) aT M3 rfl rfl rfl) rfl (aV rfl rfl (wq (iI rfl rfl (lI _ (by omega) (by omega))) rfl (wq (aE 6 fJ rfl) rfl (wq (aE 1 dB rfl) rfl (wq (aO 0 (.int _ _) aT M3 rfl rfl rfl) rfl ?_)))))
 refine aV rfl rfl (wq (iI rfl rfl (lI _ (by omega) (by omega))) rfl (wq (cN [(0, .int _ _), (1, .int _ _), (2, .int _ _), (3, .int _ _)] _ aAo rfl rfl) rfl (bE 1 _ iL M3 rfl rfl rfl rfl rfl (aQ rfl) rfl (fun w4 M4 => (aB (aC (aN (fU 1 iL M4 rfl rfl rfl ?_))))))))
 exact ⟨rfl, M4.below⟩
set_option maxHeartbeats 4000000 in
theorem tF (w : World) (a : Bx) :
  Calls Tryz.prog 192 #[(.agg (dE a).toArray)] w (fun ex w' => ∃ v, ex = .returned v ∧ (fun v w' => v = .bool (decide (gI a)) ∧ Below w.heap.size w w') v w') := by
 refine aH #[.tmp 2] 15 Tryz.func192 rfl Tryz.results192 Tryz.ntmps192 rfl ?_
 have M0 := Mem.refl w
 refine aD (aA (bN (.agg (List.toArray _)) M0 rfl rfl rfl (fun b1 w1 M1 => (wq (aI (.bool false) rfl) rfl (aB (aC (aD (aA (wq (aE 0 sM rfl) rfl (wq (aO 0 (.int _ _) aT M1 rfl rfl rfl) rfl ?_))))))))))
 refine wq (aE 2 sC rfl) rfl (wq (aO 0 (.int _ _) aT M1 rfl rfl rfl) rfl (cQ rfl rfl rfl rfl (wq (aG (.bool (decide _)) rfl) rfl ?_)))
 refine cC 8 rfl (fun g8 => ?_) (fun g8 => ?_)
 ·refine aK rfl rfl (aK rfl rfl (aK rfl rfl (aK rfl rfl (aK rfl rfl (wq (aX true (.bool true) rfl rfl) rfl ?_)))))
  refine wq (aI (.bool true) rfl) rfl (aB (aC (aN (bV (.bool true) rfl ?_))))
  exact ⟨by unfold gI; first | exact bT (by omega) | exact bD (by omega), M1.below⟩
 ·refine wq (aE 1 rO rfl) rfl (wq (aO 0 (.int _ _) aT M1 rfl rfl rfl) rfl (wq (aE 3 rT rfl) rfl (wq (aO 0 (.int _ _) aT M1 rfl rfl rfl) rfl (cQ rfl rfl rfl rfl (wq (aX false (.bool (decide _)) rfl rfl) rfl ?_)))))
  refine wq (aI (.bool (decide _)) rfl) rfl (aB (aC (aN (bV (.bool (decide _)) rfl ?_))))
  exact ⟨by unfold gI; first | exact bT (by omega) | exact bD (by omega), M1.below⟩
set_option maxHeartbeats 4000000 in
theorem aQm (w : World) (N : Rd w 4 (some ⟨3, 0, none⟩) 1 [dE iW]) (a b : Bx) :
  Calls Tryz.prog 193 #[(.agg (dE a).toArray), (.agg (dE b).toArray)] w (fun ex w' => ∃ v, ex = .returned v ∧ (fun v w' => v = (.agg (dE (aAt a b)).toArray) ∧ Below w.heap.size w w') v w') := by
 refine aH #[.cell 4 193] 31 Tryz.func193 rfl Tryz.results193 Tryz.ntmps193 rfl ?_
 have M0 := Mem.refl w
 refine aD (aA (bN (.agg (List.toArray _)) M0 rfl rfl rfl (fun b1 w1 M1 => (bN (.agg (List.toArray _)) M1 rfl rfl rfl (fun b2 w2 M2 => (aR aDk M2 rfl rfl (fun b3 w3 M3 => (aB (aC (aD (aA (wq (aE 0 sM rfl) rfl ?_))))))))))))
 refine wq (aO 0 (.int _ _) aT M3 rfl rfl rfl) rfl (wq (aE 0 sM rfl) rfl (wq (aO 1 (.int _ _) aT M3 rfl rfl rfl) rfl (wq (nM rfl rfl ) rfl (wq (aE 1 rO rfl) rfl (wq (aO 0 (.int _ _) aT M3 rfl rfl rfl) rfl ?_)))))
 refine wq (aE 1 rO rfl) rfl (wq (aO 1 (.int _ _) aT M3 rfl rfl rfl) rfl (wq (nM rfl rfl ) rfl (wq (aE 2 sC rfl) rfl (wq (aO 0 (.int _ _) aT M3 rfl rfl rfl) rfl (wq (aE 2 sC rfl) rfl ?_)))))
 refine wq (aO 1 (.int _ _) aT M3 rfl rfl rfl) rfl (wq (yI rfl rfl ) rfl (wq (aE 3 rT rfl) rfl (wq (aO 0 (.int _ _) aT M3 rfl rfl rfl) rfl (wq (aE 3 rT rfl) rfl (wq (aO 1 (.int _ _) aT M3 rfl rfl rfl) rfl ?_)))))
 refine wq (yI rfl rfl ) rfl (wq (cN [(0, .int _ _), (1, .int _ _), (2, .int _ _), (3, .int _ _)] _ aAo rfl rfl) rfl (aR aDk M3 rfl rfl (fun b4 w4 M4 => (bE 3 _ iL M4 rfl rfl rfl rfl rfl (aQ rfl) rfl (fun w5 M5 => (aB (aC (aD (aD (aA (wq (bB 3 iL M5 rfl rfl rfl) rfl ?_)))))))))))
 refine cA aIw rfl rfl (tF _ ⟨max a.x0 b.x0, max a.y0 b.y0, min a.x1 b.x1, min a.y1 b.y1⟩) ?_
 rintro v6 w6 ⟨rfl, hb6⟩
 have M6 := M5.callB hb6
 refine aB (aC ?_)
 refine aW rfl (fun h28 => ?_) (fun h28 => ?_)
 ·refine aD (aA (wq (xH (k := 0) (o := 0) _ iL (N.mem M6) (show ([dE iW] : List (List Value))[0]? = some (dE iW) from rfl) rfl rfl rfl) rfl (bE 2 _ iL M6 rfl rfl rfl rfl rfl (aQ rfl) rfl (fun w7 M7 => (aB (aC (aN (bZ (fU 2 iL M7 rfl rfl rfl ?_)))))))))
  exact ⟨by unfold aAt; rw [if_pos h28]; rfl, M7.below⟩
 ·refine aL (aC (aD (aA (wq (bB 3 iL M6 rfl rfl rfl) rfl (bE 2 _ iL M6 rfl rfl rfl rfl rfl (aQ rfl) rfl (fun w8 M8 => (aB (aC (aN (fU 2 iL M8 rfl rfl rfl ?_))))))))))
  exact ⟨by unfold aAt; rw [if_neg h28]; rfl, M8.below⟩
set_option maxHeartbeats 4000000 in
theorem aEh (w : World) (N : Rd w 4 (some ⟨3, 0, none⟩) 1 [dE iW]) (a b : Bx) :
  Calls Tryz.prog 164 #[(.agg (dE a).toArray), (.agg (dE b).toArray)] w (fun ex w' => ∃ v, ex = .returned v ∧ (fun v w' => v = .bool (decide (ovl a b)) ∧ Below w.heap.size w w') v w') := by
 refine aH #[.tmp 4] 10 Tryz.func164 rfl Tryz.results164 Tryz.ntmps164 rfl ?_
 have M0 := Mem.refl w
 refine aD (aA (bN (.agg (List.toArray _)) M0 rfl rfl rfl (fun b1 w1 M1 => (bN (.agg (List.toArray _)) M1 rfl rfl rfl (fun b2 w2 M2 => (wq (aI (.bool false) rfl) rfl (aB (aC (aD (aA (wq (bB 0 iL M2 rfl rfl rfl) rfl ?_)))))))))))
 refine wq (bB 1 iL M2 rfl rfl rfl) rfl (cA bCm rfl rfl (aQm _ (N.mem M2) a b) ?_)
 rintro v3 w3 ⟨rfl, hb3⟩
 have M3 := M2.callB hb3
 refine cA aIw rfl rfl (tF _ (aAt a b)) ?_
 rintro v4 w4 ⟨rfl, hb4⟩
 have M4 := M3.callB hb4
 refine wq (kP rfl) rfl (wq (aI (.bool (decide _)) rfl) rfl (aB (aC (aN (bV (.bool (decide _)) rfl ?_)))))
 exact ⟨bD (aSh a b), M4.below⟩
set_option maxHeartbeats 4000000 in
theorem aKl (w : World) (x y : Int) :
  Calls Tryz.prog 229 #[.agg [.int .i32 x, .int .i32 y].toArray] w (fun ex w' => ∃ v, ex = .returned v ∧ (fun v w' => v = (.agg (cE (lL x, lL y)).toArray) ∧ Below w.heap.size w w') v w') := by
 refine aH #[.cell 2 226] 10 Tryz.func229 rfl Tryz.results229 Tryz.ntmps229 rfl ?_
 have M0 := Mem.refl w
 refine aD (aA (bN (.agg (List.toArray _)) M0 rfl rfl rfl (fun b1 w1 M1 => (aR nK M1 rfl rfl (fun b2 w2 M2 => (aB (aC (aD (aA (wq (aE 0 dJ rfl) rfl (wq (aO 0 (.int _ _) aT M2 rfl rfl rfl) rfl ?_)))))))))))
 refine wq (gG rfl rfl (by decide)) rfl (aS 5 (.int .i32 (lL x)) (iE (aYa x)) (wq (aE 1 dB rfl) rfl (wq (aO 0 (.int _ _) aT M2 rfl rfl rfl) rfl (wq (gG rfl rfl (by decide)) rfl (aS 8 (.int .i32 (lL y)) (iE (aYa y)) ?_)))))
 refine wq (cN [(0, .int _ _), (1, .int _ _)] _ aAi rfl rfl) rfl (bE 1 _ gJ M2 rfl rfl rfl rfl rfl (aQ rfl) rfl (fun w3 M3 => (aB (aC (aN (fU 1 gJ M3 rfl rfl rfl ?_))))))
 exact ⟨rfl, M3.below⟩
set_option maxHeartbeats 4000000 in
theorem aOr (w : World) (a : Bx) :
  Calls Tryz.prog 216 #[(.agg (dE a).toArray)] w (fun ex w' => ∃ v, ex = .returned v ∧ (fun v w' => v = .tuple #[(.agg (cE (loC a)).toArray), (.agg (cE (hiC a)).toArray), .bool (decide (¬ gI a))] ∧ Below w.heap.size w w') v w') := by
 refine aH #[.cell 2 226, .cell 3 226, .tmp 4] 21 Tryz.func216 rfl Tryz.results216 Tryz.ntmps216 rfl ?_
 have M0 := Mem.refl w
 refine aD (aA (bN (.agg (List.toArray _)) M0 rfl rfl rfl (fun b1 w1 M1 => (aR nK M1 rfl rfl (fun b2 w2 M2 => (aR nK M2 rfl rfl (fun b3 w3 M3 => (wq (aI (.bool false) rfl) rfl (aB (aC (aD (aD (aA ?_)))))))))))))
 refine wq (bB 0 iL M3 rfl rfl rfl) rfl (cA aIw rfl rfl (tF _ a) ?_)
 rintro v4 w4 ⟨rfl, hb4⟩
 have M4 := M3.callB hb4
 refine aB (aC ?_)
 refine aW rfl (fun h6 => ?_) (fun h6 => ?_)
 ·refine aD (bX [(0, 1), (1, 1), (2, 2), (3, 2), (4, 0)] mixed rfl (by kernel_rfl) (fun w5 hb5 hh5 => ?_))
  have M5 := M4.drew hb5 hh5
  refine cD rfl rfl rfl (bB 1 gJ M5 rfl rfl rfl) (cD rfl rfl rfl (bB 2 gJ M5 rfl rfl rfl) (dU [false, true] rfl (by kernel_rfl) (bE 1 _ gJ M5 rfl rfl rfl rfl rfl (aQ rfl) rfl (fun w6 M6 => ?_))))
  refine aB (aC ⟨(eX (bQ rfl (bB 2 gJ M6 rfl rfl rfl)) dS), ?_⟩)
  refine dU [true] rfl (by kernel_rfl) (bE 2 _ gJ M6 rfl rfl rfl rfl rfl (aQ rfl) rfl (fun w7 M7 => ?_))
  refine aB (aC ⟨dS, ?_⟩)
  refine bA rfl rfl rfl (fun _ => aI (.bool false) rfl) (cH (aC (aN (bZ (aYr (v3 := .bool false) 1 2 gJ M7 rfl rfl rfl rfl rfl rfl rfl ?_)))))
  exact ⟨by unfold loC hiC; rw [if_pos h6, if_pos h6, decide_eq_false (fun h => h h6)]; rfl, M7.below⟩
 ·refine aL (aC (aD (bX [(0, 0), (1, 1), (2, 0), (3, 1), (4, 0), (6, 0), (7, 1), (8, 0), (9, 1), (10, 0), (5, 2), (11, 2), (12, 2), (13, 2), (14, 0)] mixed rfl (by kernel_rfl) (fun w8 hb8 hh8 => ?_))))
  have M8 := M4.drew hb8 hh8
  refine bA rfl rfl rfl (fun _ => aE 0 sM rfl) (cD rfl rfl rfl (aO 0 (.int _ _) aT M8 rfl rfl rfl) (bA rfl rfl rfl (fun _ => aE 1 rO rfl) (cD rfl rfl rfl (aO 0 (.int _ _) aT M8 rfl rfl rfl) (bA rfl rfl rfl (fun _ => cN [(0, .int _ _), (1, .int _ _)] _ eM rfl rfl) ?_))))
  refine bA rfl rfl rfl (fun _ => aE 2 sC rfl) (cD rfl rfl rfl (aO 0 (.int _ _) aT M8 rfl rfl rfl) (bA rfl rfl rfl (fun _ => aE 3 rT rfl) (cD rfl rfl rfl (aO 0 (.int _ _) aT M8 rfl rfl rfl) (bA rfl rfl rfl (fun _ => cN [(0, .int _ _), (1, .int _ _)] _ eM rfl rfl) ?_))))
  refine dU [false, false, true, true] rfl (by kernel_rfl) (cA aQk rfl rfl (aKl _ a.x0 a.y0) ?_)
  rintro v9 w9 ⟨rfl, hb9⟩
  have M9 := M8.callB hb9
  refine aB (aC ⟨(eX (bQ rfl (aO 0 (.int _ _) aT M9 rfl rfl rfl)) (eX (bQ rfl (aO 0 (.int _ _) aT M9 rfl rfl rfl)) dS)), ?_⟩)
  refine dU [true, true] rfl (by kernel_rfl) (cA aQk rfl rfl (aKl _ a.x1 a.y1) ?_)
  rintro v10 w10 ⟨rfl, hb10⟩
  have M10 := M9.callB hb10
  refine aB (aC ⟨dS, ?_⟩)
  refine dU [] rfl (by kernel_rfl) (bE 1 _ gJ M10 rfl rfl rfl rfl rfl (aQ rfl) rfl (fun w11 M11 => ?_))
  refine aB (aC ⟨dS, ?_⟩)
  refine dU [] rfl (by kernel_rfl) (bE 2 _ gJ M11 rfl rfl rfl rfl rfl (aQ rfl) rfl (fun w12 M12 => ?_))
  refine aB (aC ⟨dS, ?_⟩)
  refine bA rfl rfl rfl (fun _ => aI (.bool true) rfl) (cH (aC (aN (aYr (v3 := .bool true) 1 2 gJ M12 rfl rfl rfl rfl rfl rfl rfl ?_))))
  exact ⟨by unfold loC hiC; rw [if_neg h6, if_neg h6, decide_eq_true h6], M12.below⟩
set_option maxHeartbeats 4000000 in
theorem aJo (w : World) (a : Bx) :
  Calls Tryz.prog 191 #[(.agg (dE a).toArray)] w (fun ex w' => ∃ v, ex = .returned v ∧ (fun v w' => ∃ b1 b2 b3, v = .func (.func 217) #[] #[.pointer (some ⟨b1, 0, none⟩), .pointer (some ⟨b2, 0, none⟩), .pointer (some ⟨b3, 0, none⟩)] ∧ Mem w [] [(some b1, bc (cE (loC a)) 226), (some b3, bc (cE (hiC a)) 226), (some b2, bc [.bool (decide (¬ gI a))] 4)] w') v w') := by
 refine aH #[.tmp 2] 13 Tryz.func191 rfl Tryz.results191 Tryz.ntmps191 rfl ?_
 have M0 := Mem.refl w
 refine aD (aA (bN (.agg (List.toArray _)) M0 rfl rfl rfl (fun b1 w1 M1 => (wq (aI (_) rfl) rfl (aB (aC (aD (aA (wq (bB 0 iL M1 rfl rfl rfl) rfl (cA aZu rfl rfl (aOr _ a) ?_))))))))))
 rintro v2 w2 ⟨rfl, hb2⟩
 have M2 := M1.callB hb2
 refine wq (aG (.tuple (List.toArray _)) rfl) rfl (wq (bH (.agg (List.toArray _)) rfl rfl) rfl (wq (bH (.agg (List.toArray _)) rfl rfl) rfl (wq (bH (.bool (decide _)) rfl rfl) rfl (aR nK M2 rfl rfl (fun b3 w3 M3 => (aR nK M3 rfl rfl (fun b4 w4 M4 => ?_)))))))
 refine aR aKi M4 rfl rfl (fun b5 w5 M5 => (bE 1 _ gJ M5 rfl rfl rfl rfl rfl (aQ rfl) rfl (fun w6 M6 => (bE 2 _ gJ M6 rfl rfl rfl rfl rfl (aQ rfl) rfl (fun w7 M7 => (dF 3 (.bool (decide _)) nF M7 rfl rfl rfl rfl rfl rfl (fun w8 M8 => (aB (aC (aD (aA (wq (cR [] [.pointer _, .pointer _, .pointer _] rfl rfl) rfl ?_))))))))))))
 refine wq (aI (.func _ _ _) rfl) rfl (aB (aC (aN (bV (.func _ _ _) rfl ?_))))
 exact ⟨b3, b5, b4, rfl, M8.keep [false, true, true, true]⟩
set_option maxHeartbeats 4000000 in
theorem aFq (w : World) (lo hi : Int × Int) (ok : Bool) (b1 b2 b3 : Nat) (L1 : Rd w 2 (some ⟨b1, 0, none⟩) 1 [cE lo]) (L2 : Rd w 1 (some ⟨b2, 0, none⟩) 1 [[.bool ok]]) (L3 : Rd w 2 (some ⟨b3, 0, none⟩) 1 [cE hi]) (hlo : Okc lo) (hhi : Okc hi) (lp ob : Nat) (rec : Loop) (hY : sN Tryz.prog lp ob rec 224 226 2 1048576 (fun x => ∃ a b, x = [.int .i32 a, .int .i32 b])) (r0 : Row) (hr0 : aY 226 2 r0.A r0.n r0.c [] r0.e) (hO : Own [(some lp, .loop rec), (some ob, bc [.slice r0.A r0.n r0.c] 224), r0.e] w) (hd1 : 0 < 1 → ∀ q off, (some ⟨b1, 0, none⟩ : Option Addr) = some ⟨q, off, none⟩ → q ∉ bS [(some lp, .loop rec), (some ob, bc [.slice r0.A r0.n r0.c] 224), r0.e]) (hd2 : 0 < 1 → ∀ q off, (some ⟨b2, 0, none⟩ : Option Addr) = some ⟨q, off, none⟩ → q ∉ bS [(some lp, .loop rec), (some ob, bc [.slice r0.A r0.n r0.c] 224), r0.e]) (hd3 : 0 < 1 → ∀ q off, (some ⟨b3, 0, none⟩ : Option Addr) = some ⟨q, off, none⟩ → q ∉ bS [(some lp, .loop rec), (some ob, bc [.slice r0.A r0.n r0.c] 224), r0.e]) :
  Calls Tryz.prog 217 #[.func (.yield lp) #[] #[], .pointer (some ⟨b1, 0, none⟩), .pointer (some ⟨b2, 0, none⟩), .pointer (some ⟨b3, 0, none⟩)] w (fun ex w' => ∃ v, ex = .returned v ∧ (fun v w' => v = .tuple #[] ∧ ∃ r : Row, aY 226 2 r.A r.n r.c ((tQ ok lo hi).map cE) r.e ∧ Mem w (bS [(some lp, .loop rec), (some ob, bc [.slice r0.A r0.n r0.c] 224), r0.e]) [(some lp, .loop rec), (some ob, bc [.slice r.A r.n r.c] 224), r.e] w') v w') := by
 rw [← eN b1, ← eN b2, ← eN b3]
 have hxd : nX lo hi = (hi.1 - lo.1 + 1).toNat := rfl
 have hyd : nY lo hi = (hi.2 - lo.2 + 1).toNat := rfl
 have hlx := hlo.x
 have hly := hlo.y
 have hhx := hhi.x
 have hhy := hhi.y
 have hnx := aYq hlo hhi
 have hny := aYd hlo hhi
 refine aH #[] 32 Tryz.func217 rfl Tryz.results217 Tryz.ntmps217 rfl ?_
 have M0 := hO.mem
 refine aD (aA (wq (bG 1 yE (L1.memY M0 hd1) (Nat.lt_of_le_of_lt (Nat.zero_le _) ((L1.memY M0 hd1).below_len (show ([cE lo] : List (List Value))[0]? = some (cE lo) from rfl))) rfl) rfl (wq (dR (o := 1) (.int _ _) aT (L1.memY M0 hd1) (show ([cE lo] : List (List Value))[0]? = some (cE lo) from rfl) rfl rfl) rfl ?_)))
 refine bI rfl rfl (aB (aC (aU (dO (σ := Nat × Row) [0, 1, 2, 3] (fun (j, r) => [(5, .int .i32 (lo.2 + (j : Int)))]) (fun (j, r) w' => (j ≤ nY lo hi ∧ (ok = false → j = 0) ∧ aY 226 2 r.A r.n r.c ((lW lo hi j).map cE) r.e) ∧ Mem w (bS [(some lp, .loop rec), (some ob, bc [.slice r0.A r0.n r0.c] 224), r0.e]) [(some lp, .loop rec), (some ob, bc [.slice r.A r.n r.c] 224), r.e] w') (fun (j, r) => nY lo hi - j) (0, r0) (bM (iv rfl (by simp)) eP) (⟨⟨by omega, fun _ => rfl, hr0⟩, M0⟩) ?_))))
 rintro ⟨j, r⟩ ρ1 w1 ⟨⟨hj, hjz, hr⟩, hM1⟩
 refine aD (aD (aA (wq (dR (o := 0) (.bool _) nF (L2.memY hM1 hd2) (show ([[.bool ok]] : List (List Value))[0]? = some ([.bool ok]) from rfl) rfl rfl) rfl (wq (aG (.bool _) rfl) rfl ?_))))
 refine mY 10 _ rfl (fun g10 => ?_) (fun g10 => ?_)
 ·refine aV rfl rfl (wq (bG 1 yE (L3.memY hM1 hd3) (Nat.lt_of_le_of_lt (Nat.zero_le _) ((L3.memY hM1 hd3).below_len (show ([cE hi] : List (List Value))[0]? = some (cE hi) from rfl))) rfl) rfl (wq (dR (o := 1) (.int _ _) aT (L3.memY hM1 hd3) (show ([cE hi] : List (List Value))[0]? = some (cE hi) from rfl) rfl rfl) rfl ?_))
  refine cQ rfl rfl rfl rfl (wq (aX true (.bool (decide _)) rfl rfl) rfl (aB (aC ?_)))
  refine aW rfl (fun h15 => ?_) (fun h15 => ?_)
  ·refine aL (aC (aD (aU (aD (aA (wq (bG 0 yY (L1.memY hM1 hd1) (Nat.lt_of_le_of_lt (Nat.zero_le _) ((L1.memY hM1 hd1).below_len (show ([cE lo] : List (List Value))[0]? = some (cE lo) from rfl))) rfl) rfl (wq (dR (o := 0) (.int _ _) aT (L1.memY hM1 hd1) (show ([cE lo] : List (List Value))[0]? = some (cE lo) from rfl) rfl rfl) rfl ?_)))))))
   refine bI rfl rfl (aB (aC (aU (dO (σ := Nat × Row) [0, 1, 2, 3, 5] (fun (i, q0) => [(6, .int .i32 (lo.1 + (i : Int)))]) (fun (i, q0) w' => (i ≤ nX lo hi ∧ aY 226 2 q0.A q0.n q0.c ((lW lo hi j ++ yA lo i j).map cE) q0.e) ∧ Mem w (bS [(some lp, .loop rec), (some ob, bc [.slice r0.A r0.n r0.c] 224), r0.e]) [(some lp, .loop rec), (some ob, bc [.slice q0.A q0.n q0.c] 224), q0.e] w') (fun (i, q0) => nX lo hi - i) (0, r) (bM (iv rfl (by simp)) eP) (⟨⟨by omega, by simpa [yA] using hr⟩, hM1⟩) ?_))))
   rintro ⟨i, q0⟩ ρ2 w2 ⟨⟨hi2, hq0⟩, hM2⟩
   have hql : (lW lo hi j).length + i = q0.n := by simpa [aEi] using hq0.1
   refine aD (aD (aA (aV rfl rfl (wq (bG 0 yY (L3.memY hM2 hd3) (Nat.lt_of_le_of_lt (Nat.zero_le _) ((L3.memY hM2 hd3).below_len (show ([cE hi] : List (List Value))[0]? = some (cE hi) from rfl))) rfl) rfl (wq (dR (o := 0) (.int _ _) aT (L3.memY hM2 hd3) (show ([cE hi] : List (List Value))[0]? = some (cE hi) from rfl) rfl rfl) rfl ?_)))))
   refine cQ rfl rfl rfl rfl (aB (aC ?_))
   refine aW rfl (fun h23 => ?_) (fun h23 => ?_)
   ·have hlt6 := aQl (lo := lo) (hi := hi) (i := i) (j := j) hnx (by omega) (by omega)
    refine aL (aC (aD (aU (aD (aBc (aAg (aG (.func _ _ _) rfl) rfl rfl (aAg (aG (.int _ _) rfl) rfl rfl (aAg (aG (.int _ _) rfl) rfl rfl (aAg (cN [(0, .int _ _), (1, .int _ _)] _ aAi rfl rfl) rfl rfl ?_)))))))))
    obtain ⟨fy, ty, ay, by1, hy1, hy2⟩ := hY _ q0 ((lW lo hi j ++ yA lo i j).map cE) (cE (lo.1 + (i : Int), lo.2 + (j : Int))) ⟨_, _, rfl⟩ (by omega) hq0 (hM2.ownSeg 0 3)
    refine aBp rfl rfl rfl rfl hy1 (hy2.mono ?_)
    rintro _ w3 ⟨rfl, q3, hqn3, hq3, hM3⟩
    have M3 : Mem _ _ [_, _, _] _ := hM2.seg 0 3 hM3
    refine ⟨_, rfl, ?_⟩
    refine aPj rfl (fun _ _ h => h) (wq (fF false rfl rfl) rfl (aB (aC (bR rfl (aL (cU ?_))))))
    refine aC (aA (aV rfl rfl (wq (iI rfl rfl (lI _ (by omega) (by omega))) rfl (bI rfl rfl (aB ?_)))))
    refine cI (i + 1, q3) (bM (iv rfl (by omega)) eP) (cV rfl (cV rfl (cV rfl (cV rfl (cV rfl iZ))))) ?_ ?_
    ·exact ⟨⟨by omega, by rw [aNf, ← List.append_assoc, List.map_append]; exact hq3⟩, M3⟩
    ·(show nX lo hi - (i + 1) < nX lo hi - i; omega)
   ·have hix : i = nX lo hi := by omega
    refine cP (cZ (cX (fA (cU (aC (aA ?_))))))
    refine aV rfl rfl (wq (iI rfl rfl (lI _ (by omega) (by omega))) rfl (bI rfl rfl (aB ?_)))
    refine cI (j + 1, q0) (bM (iv rfl (by omega)) eP) (cV rfl (cV rfl (cV rfl (cV rfl iZ)))) ?_ ?_
    ·exact ⟨⟨by omega, fun h => (by rw [g10] at h; cases h), by rw [yK, ← hix]; exact hq0⟩, hM2⟩
    ·(show nY lo hi - (j + 1) < nY lo hi - j; omega)
  ·refine cP (cZ (cX (fA (iO ?_))))
   exact ⟨rfl, r, by unfold tQ; first | (rw [if_pos g10, show nY lo hi = j by omega]; exact hr) | (rw [if_neg (by rw [g10]; decide)]; rw [hjz g10] at hr; exact hr), hM1⟩
 ·refine aK rfl rfl (aK rfl rfl (aK rfl rfl (aK rfl rfl (wq (aX false (.bool false) rfl rfl) rfl (aB (aC ?_))))))
  refine bR rfl (cP (cZ (cX (fA (iO ?_)))))
  exact ⟨rfl, r, by unfold tQ; first | (rw [if_pos g10, show nY lo hi = j by omega]; exact hr) | (rw [if_neg (by rw [g10]; decide)]; rw [hjz g10] at hr; exact hr), hM1⟩
set_option maxHeartbeats 4000000 in
theorem aSa (w : World) (a : Bx) (ha : Okx a) :
  Calls Tryz.prog 161 #[(.agg (dE a).toArray)] w (fun ex w' => ∃ v, ex = .returned v ∧ (fun v w' => ∃ r : Row, v = .slice r.A r.n r.c ∧ aY 226 2 r.A r.n r.c ((fV a).map cE) r.e ∧ Mem w [] [r.e] w') v w') := by
 refine uH #[.tmp 2] 13 Tryz.func161 rfl Tryz.results161 Tryz.ntmps161 rfl ?_
 have M0 := Mem.refl w
 refine nU (lF (bN (.agg (List.toArray _)) M0 rfl rfl rfl (fun b1 w1 M1 => (fZ rfl rfl (aB (nP ?_))))))
 refine nU (lF (aR aVi M1 rfl rfl (fun b2 w2 M2 => (aB (nP (nU ?_))))))
 refine nU (lF (wq (bB 0 iL M2 rfl rfl rfl) rfl (cA bCv rfl rfl (aJo _ a) ?_)))
 rintro v3 w3 ⟨bl, bk, bh, rfl, hM3⟩
 have M3 : Mem _ _ [_, _, _, _, _] _ := M2.call0 hM3
 refine aB (nP (aEf ?_))
 have M4 : Mem _ _ [_, _, _, _, _] _ := ((M3.keep [false, true, true, true, true]).dummy default).perm (List.Perm.cons _ (List.perm_append_comm (l₁ := [_, _, _]) (l₂ := [_])))
 refine aGh aZz M4 rfl (fun fnn B lp tmps w1 hρ hn M1 => ?_)
 refine zC (P := Tryz.prog) (ob := b2) (Tsl := 224) (Te := 226) (sz := 2) (N := 1048576) (ok := (fun x => ∃ a b, x = [.int .i32 a, .int .i32 b])) M1 ?_ (fun hY => ?_)
 ·intro wr r ls x hok hlt hrow hO
  obtain ⟨xa, xb, rfl⟩ := hok
  refine ⟨_, _, _, _, aEr hO rfl rfl rfl hn (by decide) hρ ?_⟩
  have MR0 := hO.mem
  refine pK rfl (fun _ _ h => nomatch h.1) (aR nK MR0 rfl rfl (fun b5 w5 M5 => (bE 3 _ gJ M5 rfl rfl rfl rfl rfl (aQ rfl) rfl (fun w6 M6 => (aB ?_)))))
  refine ⟨rfl, _, M6, rfl, fun w7 M7 => ?_⟩
  refine aGm (pK rfl (fun _ _ h => nomatch h.1) (wq (aO 1 (.slice _ _ _) aJl M7 rfl rfl rfl) rfl (wq (bB 3 gJ M7 rfl rfl rfl) rfl (dA [.agg (List.toArray _)] [[.int .i32 xa, .int .i32 xb]] rfl aSq M7 rfl rfl rfl rfl (dI rfl) (by decide) (fun b8 w8 M8 => (eF 2 [[.int .i32 xa, .int .i32 xb]] aSq M8 rfl rfl rfl rfl rfl hrow rfl (by simp [Go.Bil.one]) (dC.ofMem 4 M8 rfl) (by omega) (fun A9 c9 e9 w9 M9 hR9 => ?_)))))))
  refine dF 1 (.slice _ _ _) aJl M9 rfl rfl rfl rfl rfl rfl (fun w10 M10 => (aB (cU ?_)))
  refine ⟨rfl, _, M10, rfl, fun w11 M11 => ?_⟩
  exact ⟨⟨A9, r.n + 1, c9, e9⟩, rfl, hR9, M11.keep [true, true, true, false, false]⟩
 ·refine (aFq _ (loC a) (hiC a) _ bl bk bh (lR 3 M1 rfl rfl) (lR 5 M1 rfl rfl) (lR 4 M1 rfl rfl) (aIu ha) (aIv ha) lp b2 _ hY ⟨none, 0, 0, (none, default)⟩ (aY.nil _ _ _) (M1.ownSeg 0 3) (M1.apartTake 3 3 rfl rfl) (M1.apartTake 3 5 rfl rfl) (M1.apartTake 3 4 rfl rfl)).mono ?_
  rintro _ w5 ⟨v5, rfl, rfl, r, hr, hM⟩
  have M5 : Mem _ _ (_ :: [_, _, _, _, _, _]) _ := M1.seg 0 3 hM
  refine ⟨_, rfl, _, M5, fun w6 M6 => ?_⟩
  refine aYu (nP (nU (aBh (aLm (aO 1 (.slice _ _ _) aJl M6 rfl rfl rfl) rfl rfl (aLm (aI (.slice _ _ _) rfl) rfl rfl ?_)))))
  refine aKz (nP (aRy (aZf (i := 6) (.slice _ _ _) rfl M6 rfl (fun w9 M9 => ?_))))
  exact ⟨r, rfl, hr, M9.keep [false, false, true, false, false, false, false]⟩
set_option maxHeartbeats 4000000 in
theorem aFx (w : World) (F : Rd w 2 (some ⟨0, 0, none⟩) 1 [[.int .u32 73856093, .int .u32 19349663]]) (c : Int × Int) :
  Calls Tryz.prog 162 #[(.agg (cE c).toArray)] w (fun ex w' => ∃ v, ex = .returned v ∧ (fun v w' => v = .int .i64 (dH c : Int) ∧ Below w.heap.size w w') v w') := by
 refine aH #[.tmp 2] 20 Tryz.func162 rfl Tryz.results162 Tryz.ntmps162 rfl ?_
 have M0 := Mem.refl w
 refine aD (aA (bN (.agg (List.toArray _)) M0 rfl rfl rfl (fun b1 w1 M1 => (bI rfl rfl (aB (aC (aD (aA (wq (aE 0 yY rfl) rfl (wq (aO 0 (.int _ _) aT M1 rfl rfl rfl) rfl ?_))))))))))
 refine wq (dQ fO Tryz.underlying36 rfl) rfl (wq (fB (0) aTk rfl rfl rfl (by decide)) rfl (wq (dR (k := 0) (o := 0) (.int _ _) bY (F.mem M1) (show ([[.int .u32 73856093, .int .u32 19349663]] : List (List Value))[0]? = some [.int .u32 73856093, .int .u32 19349663] from rfl) rfl rfl) rfl (wq (dV (.int _ _) rfl rfl rfl) rfl ?_)))
 refine wq (aE 1 yE rfl) rfl (wq (aO 0 (.int _ _) aT M1 rfl rfl rfl) rfl (wq (dQ fO Tryz.underlying36 rfl) rfl (wq (fB (1) aTk rfl rfl rfl (by decide)) rfl (wq (dR (k := 0) (o := 1) (.int _ _) bY (F.mem M1) (show ([[.int .u32 73856093, .int .u32 19349663]] : List (List Value))[0]? = some [.int .u32 73856093, .int .u32 19349663] from rfl) rfl rfl) rfl ?_))))
 refine wq (dV (.int _ _) rfl rfl rfl) rfl (wq (dV (.int _ _) rfl rfl rfl) rfl (bI rfl rfl (aB (aC (aD (aA (aV rfl rfl (wq (dV (.int _ _) rfl rfl rfl) rfl ?_))))))))
 refine aS 18 (.int .u32 (pT c)) rfl (wq (bU rD Tryz.underlying3 rfl (kH _ (by have := kA c; omega) (by have := kA c; omega))) rfl (bI rfl rfl (aB (aC (aN (bV (.int _ _) rfl ?_))))))
 exact ⟨iE (aNp c), M1.below⟩
set_option maxHeartbeats 16000000 in
theorem aFl (w : World) (F : Rd w 2 (some ⟨0, 0, none⟩) 1 [[.int .u32 73856093, .int .u32 19349663]]) (b : Nat) (rs : List Row) (cnt : Int) (g : Nat → List Int) (hG : GridRows 36 rs g) (hcnt : 0 ≤ cnt ∧ cnt ≤ 1048576) (hgl : ∀ j, j < 1024 → (g j).length ≤ 1048576) (key : Int) (a : Bx) (ha : Okx a) (hO : Own ((some b, bc (dD rs cnt) 191) :: rs.map Row.e) w) (hdF : 0 < 1 → ∀ q off, (some ⟨0, 0, none⟩ : Option Addr) = some ⟨q, off, none⟩ → q ∉ bS ((some b, bc (dD rs cnt) 191) :: rs.map Row.e)) :
  Calls Tryz.prog 133 #[.pointer (some ⟨b, 0, none⟩), .int .u32 key, (.agg (dE a).toArray)] w (fun ex w' => ∃ v, ex = .returned v ∧ (fun v w' => v = .tuple #[] ∧ ∃ rs' : List Row, GridRows 36 rs' (qF g key ((fV a).map dH)) ∧ Mem w (bS ((some b, bc (dD rs cnt) 191) :: rs.map Row.e)) ((some b, bc (dD rs' (cnt + 1)) 191) :: rs'.map Row.e) w') v w') := by
 refine aH #[] 49 Tryz.func133 rfl Tryz.results133 Tryz.ntmps133 rfl ?_
 have M0 := hO.mem
 refine aD (aA (bN (.agg (List.toArray _)) M0 rfl rfl rfl (fun b1 w1 M1 => ?_)))
 have M2 : Mem _ _ ([_, _] ++ _) _ := Mem.front (L := [_]) M1
 refine aB (aC (aD (aD (aA (wq (aG (.pointer _) rfl) rfl (wq (dX false Tryz.underlying222 rfl rfl) rfl (aB (aC (bR rfl (aL (aC (aD (aA ?_)))))))))))))
 refine wq (aG (.pointer _) rfl) rfl (wq (aM rfl) rfl (wq (aE 1024 aFn rfl) rfl (wq (aO 0 (.int .i64 cnt) iT M2 rfl rfl (wR hG.len)) rfl (wq (bL rfl rfl (by omega) (by omega)) rfl (wq (aM rfl) rfl ?_)))))
 refine wq (aE 1024 aFn rfl) rfl (dF 0 (.int _ _) iT M2 rfl rfl rfl rfl rfl (by rw [wR hG.len]; rfl) (fun w3 M3 => ?_))
 have M3b : Mem _ _ ([(some b, bc (dD rs (cnt + 1)) 191), _] ++ rs.map Row.e) _ := Mem.cells0 M3 (zY hG.len)
 refine aB (aC (aD (aA (lC M3b rfl rfl (fun b4 w4 M4 => ?_)))))
 have M5 : Mem _ _ ([_, _, _] ++ _) _ := Mem.front (L := [_, _]) M4
 refine wq (aI (.map _) rfl) rfl (aB (aC (aD (aA (wq (bB 1 iL M5 rfl rfl rfl) rfl (cA bAm rfl rfl (aSa _ a ha) ?_))))))
 rintro v6 w6 ⟨r0, rfl, hR0, hM6⟩
 have M6 : Mem _ _ ([_, _, _, _] ++ _) _ := Mem.front (L := [_, _, _]) (M5.call0 hM6)
 have hcl : (fV a).length = r0.n := by simpa using hR0.1
 have hcb := aJg ha
 refine wq (cS Tryz.underlying224 rfl) rfl (aV rfl rfl (aB (aC (aU (dO (σ := Nat × List Row × dN) [0, 1, 6, 21, 22] (fun (i, rs1, em) => [(23, .int .i64 (i : Int))]) (fun (i, rs1, em) w' => (i ≤ r0.n ∧ GridRows 36 rs1 (qF g key (((fV a).map dH).take i)) ∧ iU .i64 Value.bool (oE (((fV a).map dH).take i)) (some b4) em) ∧ Mem w (bS ((some b, bc (dD rs cnt) 191) :: rs.map Row.e)) ([(some b, bc (dD rs1 (cnt + 1)) 191), (some b1, bc (dE a) 193), em, r0.e] ++ rs1.map Row.e) w') (fun (i, rs1, em) => r0.n - i) (0, rs, (some b4, .map #[] 0)) (bM rfl eP) (⟨⟨by omega, by rw [List.take_zero, aTu]; exact hG, (iU.empty _ _ b4).congr (fun q => by rw [List.take_zero]; exact aMb q)⟩, M6⟩) ?_)))))
 rintro ⟨i, rs1, em⟩ ρ7 w7 ⟨⟨hi, hrs, hme⟩, hM7⟩
 refine aD (aA (cQ rfl rfl rfl rfl (aB (aC (aD ?_)))))
 refine aW rfl (fun h24 => ?_) (fun h24 => ?_)
 ·obtain ⟨xc, hxc⟩ := cM (xs := fV a) (k := i) hcl (by omega)
  have hbb : ((fV a).map dH)[i]? = some (dH xc) := by rw [List.getElem?_map, hxc]; rfl
  refine aL (aC (aD (aU (aD (aA (wq (bP (i) aSq rfl rfl rfl ((hR0.rd hM7 (aZ (i := 3) rfl)).below_len (aJ cE hxc)) ((hR0.rd hM7 (aZ (i := 3) rfl)).someK (aJ cE hxc))) rfl (wq (dW _ gJ (hR0.rd hM7 (aZ (i := 3) rfl)) (aJ cE hxc) rfl) rfl ?_)))))))
  refine aR nK hM7 rfl rfl (fun b8 w8 M8 => ?_)
  have M9 : Mem _ _ ([_, _, _, _, _] ++ _) _ := Mem.front (L := [_, _, _, _]) M8
  refine bE 4 _ gJ M9 rfl rfl rfl rfl rfl (aQ rfl) rfl (fun w10 M10 => (aB (aC (aD (aA (wq (bB 4 gJ M10 rfl rfl rfl) rfl (cA bCa rfl rfl (aFx _ (F.memY M10 hdF) xc) ?_)))))))
  rintro v11 w11 ⟨rfl, hb11⟩
  have M11 := M10.callB hb11
  refine bI rfl rfl (aB (aC (aD (aD (aA (wq (aG (.map _) rfl) rfl (aV rfl rfl (wq (jC (enc := Value.bool) false 2 aSl zv4 M11 rfl hme rfl rfl) rfl (aB (aC ?_))))))))))
  refine gO _ rfl (fun h31 => ?_) (fun h31 => ?_)
  ·refine cP (cZ (fA (aC (aA (wq (bL rfl rfl (by omega) (by omega)) rfl (aV rfl rfl ?_))))))
   refine aB ?_
   refine cI (i + 1, rs1, em) (bM rfl eP) (cV rfl (cV rfl (cV rfl (cV rfl (cV rfl iZ))))) ?_ ?_
   ·exact ⟨⟨by omega, by rw [aTb hbb (tV.1 h31)]; exact hrs, by rw [aNg hbb (tV.1 h31)]; exact hme⟩, Mem.keepL (L := [_, _, _, _, _]) [true, true, true, true, false] M11⟩
   ·(show r0.n - (i + 1) < r0.n - i; omega)
  ·have hnb : dH xc ∉ ((fV a).map dH).take i := fun h => by have h2 := tV.2 h; rw [h2] at h31; cases h31
   refine aL (aC (aD (aA (wq (aG (.map _) rfl) rfl (aV rfl rfl (iC (enc := Value.bool) 2 aSl M11 rfl rfl hme rfl rfl rfl rfl (fun e12 w12 hm12 M12 => (aB (aC (bX [(0, 0), (1, 0), (2, 0), (3, 0), (4, 0), (5, 0), (6, 0), (7, 1), (8, 0), (11, 0), (12, 0), (9, 2), (10, 2), (13, 0), (14, 2)] mixed rfl (by kernel_rfl) (fun w13 hb13 hh13 => ?_)))))))))))
   have M13 := M12.drew hb13 hh13
   refine bA rfl rfl rfl (fun _ => aG (.pointer _) rfl) (gW rfl rfl rfl (bA rfl rfl rfl (fun _ => aG (.pointer _) rfl) (gW rfl rfl rfl (bA rfl rfl rfl (fun _ => aM rfl) (bA rfl rfl rfl (fun _ => aE 0 xC rfl) ?_)))))
   refine bA rfl rfl rfl (fun _ => fB (dH xc) aHv rfl rfl rfl (jD xc)) ?_
   obtain ⟨rb, hrb⟩ := hrs.get (jD xc)
   have hrowb := hrs.row _ _ hrb
   have hgb : qF g key (((fV a).map dH).take i) (dH xc) = g (dH xc) := by unfold qF; rw [if_neg hnb]
   have hrn : (qF g key (((fV a).map dH).take i) (dH xc)).length = rb.n := by simpa using hrowb.1
   have hgl := hgl (dH xc) (jD xc)
   rw [hgb] at hrn
   have M14 : Mem _ _ ([_, _, _, _, _, _] ++ (rs1.eraseIdx (dH xc)).map Row.e) _ := Mem.pull (L := [_, _, _, _, _]) (rs := rs1) M13 hrb
   refine cD rfl rfl rfl (aO 0 (.slice _ _ _) aCp M14 rfl rfl (rH hrb)) (gW rfl rfl rfl (bA rfl rfl rfl (fun _ => aM rfl) (bA rfl rfl rfl (fun _ => aE 0 xC rfl) (dU [false] rfl (by kernel_rfl) (dA [.int _ _] [eZ key] rfl aGp M14 rfl rfl rfl rfl (dI rfl) (by decide) (fun b15 w15 M15 => ?_))))))
   have M16 : Mem _ _ ([_, _, _, _, _, _, _] ++ _) _ := Mem.front (L := [_, _, _, _, _, _]) M15
   refine aB (aC ⟨(eX (bQ rfl (aO 0 (.slice _ _ _) aCp M16 rfl rfl (rH hrb))) dS), ?_⟩)
   refine dU [true] rfl (by kernel_rfl) (eF 5 [eZ key] aGp M16 rfl rfl rfl rfl rfl hrowb rfl (aIy _) (dC.ofMem 6 M16 rfl) (by omega) (fun A17 c17 e17 w17 M17 hR17 => ?_))
   refine aB (aC ⟨dS, ?_⟩)
   refine bA rfl rfl rfl (fun _ => fB (dH xc) aHv rfl rfl rfl (jD xc)) (dU [] rfl (by kernel_rfl) (dF 0 (.slice _ _ _) aCp M17 rfl rfl rfl rfl rfl (by rw [rH hrb]; rfl) (fun w18 M18 => ?_)))
   have M18b : Mem _ _ ([(some b, bc (dD (rs1.set (dH xc) (⟨A17, rb.n + 1, c17, e17⟩ : Row)) (cnt + 1)) 191), _, _, _, _, _, _] ++ (rs1.eraseIdx (dH xc)).map Row.e) _ := Mem.cells0 M18 (zW (⟨A17, rb.n + 1, c17, e17⟩ : Row) (by rw [hrs.len]; exact jD xc))
   refine aB (aC ⟨dS, ?_⟩)
   refine cH (cU (aC (aA (wq (bL rfl rfl (by omega) (by omega)) rfl (aV rfl rfl (aB ?_))))))
   refine cI (i + 1, rs1.set (dH xc) (⟨A17, rb.n + 1, c17, e17⟩ : Row), e12) (bM rfl eP) (cV rfl (cV rfl (cV rfl (cV rfl (cV rfl iZ))))) ?_ ?_
   ·exact ⟨⟨by omega, by rw [aPn hbb hnb]; exact hrs.put (r := (⟨A17, rb.n + 1, c17, e17⟩ : Row)) (jD xc) (by simpa using hR17), hm12.congr (fun q => aAn hbb q)⟩, Mem.push (L := [_, _, _, _]) (rs := rs1) (⟨A17, rb.n + 1, c17, e17⟩ : Row) (Mem.keepL (L := [_, _, _, _, _, _, _]) [true, true, true, true, false, true, false] M18b) (by rw [hrs.len]; exact jD xc)⟩
   ·(show r0.n - (i + 1) < r0.n - i; omega)
 ·have hin : i = r0.n := by omega
  rw [List.take_of_length_le (by simp; omega)] at hrs
  refine cP (cZ (cX (fA (iO ?_))))
  exact ⟨rfl, rs1, hrs, Mem.keepL (L := [_, _, _, _]) [true, false, false, false] hM7⟩
end Go.Proofs.YtlmcphcgiclanaaGreatDoor
