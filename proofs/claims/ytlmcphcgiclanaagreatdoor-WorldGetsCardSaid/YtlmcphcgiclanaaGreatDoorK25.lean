/- Part of the proof of the laws of this seat: B8, C9, G10. No conditions. -/
import Derived.Test.YtlmcphcgiclanaaGreatDoorK2
import Derived.Test.YtlmcphcgiclanaaGreatDoorK5
import Derived.Test.YtlmcphcgiclanaaGreatDoorK6
import Derived.Test.YtlmcphcgiclanaaGreatDoorK11
import Derived.Test.YtlmcphcgiclanaaGreatDoorK15
set_option linter.unusedVariables false
set_option linter.unusedSimpArgs false
set_option linter.unnecessarySimpa false
namespace Go.Proofs.YtlmcphcgiclanaaGreatDoor
open Go.Bil
open Go.RowKit (Below)
open Go.Proofs
set_option maxHeartbeats 4000000 in
theorem aFr (w : World) (x : Int) (h0 : -2147483647 ≤ x) (h1 : x ≤ 2147483647) :
  Calls Tryz.prog 215 #[.int .i32 x] w (fun ex w' => ∃ v, ex = .returned v ∧ (fun v w' => v = .int .i32 (max x (-x)) ∧ Below w.heap.size w w') v w') := by
 refine aH #[.tmp 2] 7 Tryz.func215 rfl Tryz.results215 Tryz.ntmps215 rfl ?_
 have M0 := Mem.refl w
 refine aD (aA (bI rfl rfl (aB (aC (aD (aA (aV rfl rfl (aV rfl rfl (wq (aIi rfl (lH _ (by omega) (by omega))) rfl ?_)))))))))
 refine wq (mY rfl rfl ) rfl (bI rfl rfl (aB (aC (aN (cA (.int _ _) rfl ?_)))))
 exact ⟨iE (by omega), M0.below⟩
set_option maxHeartbeats 4000000 in
theorem aFh (w : World) (b : Body) (hb : Okb b) :
  Calls Tryz.prog 190 #[(.agg (aF b).toArray)] w (fun ex w' => ∃ v, ex = .returned v ∧ (fun v w' => v = .tuple #[.int .i32 (aMp b), .int .i32 (aNu b)] ∧ Below w.heap.size w w') v w') := by
 have hr := hb.r
 have ha := hb.a
 have hp := hb.p
 refine aH #[.tmp 2, .tmp 3] 18 Tryz.func190 rfl Tryz.results190 Tryz.ntmps190 rfl ?_
 have M0 := Mem.refl w
 refine aD (aA (bJ (.agg (List.toArray _)) M0 rfl rfl rfl (fun b1 w1 M1 => (bI rfl rfl (bI rfl rfl (aB (aC (aD (bV [(0, 0), (1, 0), (2, 1), (4, 0), (5, 1), (7, 0), (8, 0), (9, 1), (11, 0), (12, 1), (3, 2), (6, 0), (10, 2), (13, 0), (14, 0), (15, 0)] mixed rfl (by kernel_rfl) (fun w2 hb2 hh2 => ?_))))))))))
 have M2 := M1.drew hb2 hh2
 refine aZ rfl rfl rfl (fun _ => aE 2 kH rfl) (aZ rfl rfl rfl (fun _ => aE 0 dP rfl) (cB rfl rfl rfl (aM 0 (.int _ _) aU M2 rfl rfl rfl) (aZ rfl rfl rfl (fun _ => aE 1 nA rfl) (cB rfl rfl rfl (aM 0 (.int _ _) aU M2 rfl rfl rfl) (aZ rfl rfl rfl (fun _ => aE 2 kH rfl) ?_)))))
 refine aZ rfl rfl rfl (fun _ => aE 1 dJ rfl) (cB rfl rfl rfl (aM 0 (.int _ _) aU M2 rfl rfl rfl) (aZ rfl rfl rfl (fun _ => aE 1 nA rfl) (cB rfl rfl rfl (aM 0 (.int _ _) aU M2 rfl rfl rfl) (dR [false, false, false, true] rfl (by kernel_rfl) (bY aPb rfl rfl (aFr _ _ (by omega) (by omega)) ?_)))))
 rintro v3 w3 ⟨rfl, hb3⟩
 have M3 := M2.callB hb3
 refine aB (aC ⟨(eQ (bP rfl (aM 0 (.int _ _) aU M3 rfl rfl rfl)) (eQ (bP rfl (aM 0 (.int _ _) aU M3 rfl rfl rfl)) (eQ (bP rfl (aM 0 (.int _ _) aU M3 rfl rfl rfl)) dS))), ?_⟩)
 refine aZ rfl rfl rfl (fun _ => iD rfl rfl (lH _ (by omega) (by omega))) (dR [false, true, false] rfl (by kernel_rfl) (bY aPb rfl rfl (aFr _ _ (by omega) (by omega)) ?_))
 rintro v4 w4 ⟨rfl, hb4⟩
 have M4 := M3.callB hb4
 refine aB (aC ⟨(eQ (bP rfl (aM 0 (.int _ _) aU M4 rfl rfl rfl)) (eQ (bP rfl (aM 0 (.int _ _) aU M4 rfl rfl rfl)) dS)), ?_⟩)
 refine aZ rfl rfl rfl (fun _ => iD rfl rfl (lH _ (by omega) (by omega))) (pP rfl rfl rfl (pP rfl rfl rfl (cG (aC (aN (gV (.int _ _) (.int _ _) rfl rfl ?_))))))
 exact ⟨rfl, M4.below⟩
set_option maxHeartbeats 4000000 in
theorem bAw (w : World) (b : Body) (hb : Okb b) :
  Calls Tryz.prog 160 #[(.agg (aF b).toArray)] w (fun ex w' => ∃ v, ex = .returned v ∧ (fun v w' => v = (.agg (dD (gZ b)).toArray) ∧ Below w.heap.size w w') v w') := by
 have hr := hb.r
 have ha := hb.a
 have hp := hb.p
 have he := aTn hb
 refine aH #[.cell 2 193] 31 Tryz.func160 rfl Tryz.results160 Tryz.ntmps160 rfl ?_
 have M0 := Mem.refl w
 refine aD (aA (bJ (.agg (List.toArray _)) M0 rfl rfl rfl (fun b1 w1 M1 => (aQ aCj M1 rfl rfl (fun b2 w2 M2 => (aB (aC (aD (aA (wq (aY 0 bL M2 rfl rfl rfl) rfl (bY aZm rfl rfl (aFh _ b hb) ?_)))))))))))
 rintro v3 w3 ⟨rfl, hb3⟩
 have M3 := M2.callB hb3
 refine wq (aG (.tuple (List.toArray _)) rfl) rfl (wq (bE (.int _ _) rfl rfl) rfl (wq (bE (.int _ _) rfl rfl) rfl (bI rfl rfl (bI rfl rfl (aB (aC (aD (aA ?_))))))))
 refine wq (aE 6 fW rfl) rfl (wq (aE 0 dP rfl) rfl (wq (aM 0 (.int _ _) aU M3 rfl rfl rfl) rfl (aV rfl rfl (wq (lC rfl rfl (lH _ (by omega) (by omega))) rfl (wq (aE 6 fW rfl) rfl ?_)))))
 refine wq (aE 1 dJ rfl) rfl (wq (aM 0 (.int _ _) aU M3 rfl rfl rfl) rfl (aV rfl rfl (wq (lC rfl rfl (lH _ (by omega) (by omega))) rfl (wq (aE 6 fW rfl) rfl (wq (aE 0 dP rfl) rfl ?_)))))
 refine wq (aM 0 (.int _ _) aU M3 rfl rfl rfl) rfl (aV rfl rfl (wq (iD rfl rfl (lH _ (by omega) (by omega))) rfl (wq (aE 6 fW rfl) rfl (wq (aE 1 dJ rfl) rfl (wq (aM 0 (.int _ _) aU M3 rfl rfl rfl) rfl ?_)))))
 refine aV rfl rfl (wq (iD rfl rfl (lH _ (by omega) (by omega))) rfl (wq (cI [(0, .int _ _), (1, .int _ _), (2, .int _ _), (3, .int _ _)] _ zZ rfl rfl) rfl (bB 1 _ iF M3 rfl rfl rfl rfl rfl (aP rfl) rfl (fun w4 M4 => (aB (aC (aN (fP 1 iF M4 rfl rfl rfl ?_))))))))
 exact ⟨rfl, M4.below⟩
set_option maxHeartbeats 4000000 in
theorem tM (w : World) (a : Bx) :
  Calls Tryz.prog 192 #[(.agg (dD a).toArray)] w (fun ex w' => ∃ v, ex = .returned v ∧ (fun v w' => v = .bool (decide (gE a)) ∧ Below w.heap.size w w') v w') := by
 refine aH #[.tmp 2] 15 Tryz.func192 rfl Tryz.results192 Tryz.ntmps192 rfl ?_
 have M0 := Mem.refl w
 refine aD (aA (bJ (.agg (List.toArray _)) M0 rfl rfl rfl (fun b1 w1 M1 => (wq (aI (.bool false) rfl) rfl (aB (aC (aD (aA (wq (aE 0 rX rfl) rfl (wq (aM 0 (.int _ _) aU M1 rfl rfl rfl) rfl ?_))))))))))
 refine wq (aE 2 rO rfl) rfl (wq (aM 0 (.int _ _) aU M1 rfl rfl rfl) rfl (cS rfl rfl rfl rfl (wq (aG (.bool (decide _)) rfl) rfl ?_)))
 refine dE 8 rfl (fun g8 => ?_) (fun g8 => ?_)
 ·refine aR rfl rfl (aR rfl rfl (aR rfl rfl (aR rfl rfl (aR rfl rfl (wq (bN true (.bool true) rfl rfl) rfl ?_)))))
  refine wq (aI (.bool true) rfl) rfl (aB (aC (aN (cA (.bool true) rfl ?_))))
  exact ⟨by unfold gE; first | exact bT (by omega) | exact bD (by omega), M1.below⟩
 ·refine wq (aE 1 sH rfl) rfl (wq (aM 0 (.int _ _) aU M1 rfl rfl rfl) rfl (wq (aE 3 sG rfl) rfl (wq (aM 0 (.int _ _) aU M1 rfl rfl rfl) rfl (cS rfl rfl rfl rfl (wq (bN false (.bool (decide _)) rfl rfl) rfl ?_)))))
  refine wq (aI (.bool (decide _)) rfl) rfl (aB (aC (aN (cA (.bool (decide _)) rfl ?_))))
  exact ⟨by unfold gE; first | exact bT (by omega) | exact bD (by omega), M1.below⟩
set_option maxHeartbeats 4000000 in
theorem aQm (w : World) (N : Rd w 4 (some ⟨3, 0, none⟩) 1 [dD iS]) (a b : Bx) :
  Calls Tryz.prog 193 #[(.agg (dD a).toArray), (.agg (dD b).toArray)] w (fun ex w' => ∃ v, ex = .returned v ∧ (fun v w' => v = (.agg (dD (aAt a b)).toArray) ∧ Below w.heap.size w w') v w') := by
 refine aH #[.cell 4 193] 31 Tryz.func193 rfl Tryz.results193 Tryz.ntmps193 rfl ?_
 have M0 := Mem.refl w
 refine aD (aA (bJ (.agg (List.toArray _)) M0 rfl rfl rfl (fun b1 w1 M1 => (bJ (.agg (List.toArray _)) M1 rfl rfl rfl (fun b2 w2 M2 => (aQ aCj M2 rfl rfl (fun b3 w3 M3 => (aB (aC (aD (aA (wq (aE 0 rX rfl) rfl ?_))))))))))))
 refine wq (aM 0 (.int _ _) aU M3 rfl rfl rfl) rfl (wq (aE 0 rX rfl) rfl (wq (aM 1 (.int _ _) aU M3 rfl rfl rfl) rfl (wq (mY rfl rfl ) rfl (wq (aE 1 sH rfl) rfl (wq (aM 0 (.int _ _) aU M3 rfl rfl rfl) rfl ?_)))))
 refine wq (aE 1 sH rfl) rfl (wq (aM 1 (.int _ _) aU M3 rfl rfl rfl) rfl (wq (mY rfl rfl ) rfl (wq (aE 2 rO rfl) rfl (wq (aM 0 (.int _ _) aU M3 rfl rfl rfl) rfl (wq (aE 2 rO rfl) rfl ?_)))))
 refine wq (aM 1 (.int _ _) aU M3 rfl rfl rfl) rfl (wq (wU rfl rfl ) rfl (wq (aE 3 sG rfl) rfl (wq (aM 0 (.int _ _) aU M3 rfl rfl rfl) rfl (wq (aE 3 sG rfl) rfl (wq (aM 1 (.int _ _) aU M3 rfl rfl rfl) rfl ?_)))))
 refine wq (wU rfl rfl ) rfl (wq (cI [(0, .int _ _), (1, .int _ _), (2, .int _ _), (3, .int _ _)] _ zZ rfl rfl) rfl (aQ aCj M3 rfl rfl (fun b4 w4 M4 => (bB 3 _ iF M4 rfl rfl rfl rfl rfl (aP rfl) rfl (fun w5 M5 => (aB (aC (aD (aD (aA (wq (aY 3 iF M5 rfl rfl rfl) rfl ?_)))))))))))
 refine bY aIf rfl rfl (tM _ ⟨max a.x0 b.x0, max a.y0 b.y0, min a.x1 b.x1, min a.y1 b.y1⟩) ?_
 rintro v6 w6 ⟨rfl, hb6⟩
 have M6 := M5.callB hb6
 refine aB (aC ?_)
 refine aX rfl (fun h28 => ?_) (fun h28 => ?_)
 ·refine aD (aA (wq (xX (k := 0) (o := 0) _ iF (N.mem M6) (show ([dD iS] : List (List Value))[0]? = some (dD iS) from rfl) rfl rfl rfl) rfl (bB 2 _ iF M6 rfl rfl rfl rfl rfl (aP rfl) rfl (fun w7 M7 => (aB (aC (aN (cH (fP 2 iF M7 rfl rfl rfl ?_)))))))))
  exact ⟨by unfold aAt; rw [if_pos h28]; rfl, M7.below⟩
 ·refine aL (aC (aD (aA (wq (aY 3 iF M6 rfl rfl rfl) rfl (bB 2 _ iF M6 rfl rfl rfl rfl rfl (aP rfl) rfl (fun w8 M8 => (aB (aC (aN (fP 2 iF M8 rfl rfl rfl ?_))))))))))
  exact ⟨by unfold aAt; rw [if_neg h28]; rfl, M8.below⟩
set_option maxHeartbeats 4000000 in
theorem aDu (w : World) (N : Rd w 4 (some ⟨3, 0, none⟩) 1 [dD iS]) (a b : Bx) :
  Calls Tryz.prog 164 #[(.agg (dD a).toArray), (.agg (dD b).toArray)] w (fun ex w' => ∃ v, ex = .returned v ∧ (fun v w' => v = .bool (decide (ovl a b)) ∧ Below w.heap.size w w') v w') := by
 refine aH #[.tmp 4] 10 Tryz.func164 rfl Tryz.results164 Tryz.ntmps164 rfl ?_
 have M0 := Mem.refl w
 refine aD (aA (bJ (.agg (List.toArray _)) M0 rfl rfl rfl (fun b1 w1 M1 => (bJ (.agg (List.toArray _)) M1 rfl rfl rfl (fun b2 w2 M2 => (wq (aI (.bool false) rfl) rfl (aB (aC (aD (aA (wq (aY 0 iF M2 rfl rfl rfl) rfl ?_)))))))))))
 refine wq (aY 1 iF M2 rfl rfl rfl) rfl (bY bBh rfl rfl (aQm _ (N.mem M2) a b) ?_)
 rintro v3 w3 ⟨rfl, hb3⟩
 have M3 := M2.callB hb3
 refine bY aIf rfl rfl (tM _ (aAt a b)) ?_
 rintro v4 w4 ⟨rfl, hb4⟩
 have M4 := M3.callB hb4
 refine wq (qC rfl) rfl (wq (aI (.bool (decide _)) rfl) rfl (aB (aC (aN (cA (.bool (decide _)) rfl ?_)))))
 exact ⟨bD (aTr a b), M4.below⟩
set_option maxHeartbeats 4000000 in
theorem aKj (w : World) (x y : Int) :
  Calls Tryz.prog 229 #[.agg [.int .i32 x, .int .i32 y].toArray] w (fun ex w' => ∃ v, ex = .returned v ∧ (fun v w' => v = (.agg (cD (kV x, kV y)).toArray) ∧ Below w.heap.size w w') v w') := by
 refine aH #[.cell 2 226] 10 Tryz.func229 rfl Tryz.results229 Tryz.ntmps229 rfl ?_
 have M0 := Mem.refl w
 refine aD (aA (bJ (.agg (List.toArray _)) M0 rfl rfl rfl (fun b1 w1 M1 => (aQ mX M1 rfl rfl (fun b2 w2 M2 => (aB (aC (aD (aA (wq (aE 0 dP rfl) rfl (wq (aM 0 (.int _ _) aU M2 rfl rfl rfl) rfl ?_)))))))))))
 refine wq (gB rfl rfl (by decide)) rfl (aS 5 (.int .i32 (kV x)) (iE (aXy x)) (wq (aE 1 dJ rfl) rfl (wq (aM 0 (.int _ _) aU M2 rfl rfl rfl) rfl (wq (gB rfl rfl (by decide)) rfl (aS 8 (.int .i32 (kV y)) (iE (aXy y)) ?_)))))
 refine wq (cI [(0, .int _ _), (1, .int _ _)] _ aAn rfl rfl) rfl (bB 1 _ gC M2 rfl rfl rfl rfl rfl (aP rfl) rfl (fun w3 M3 => (aB (aC (aN (fP 1 gC M3 rfl rfl rfl ?_))))))
 exact ⟨rfl, M3.below⟩
set_option maxHeartbeats 4000000 in
theorem aNr (w : World) (a : Bx) :
  Calls Tryz.prog 216 #[(.agg (dD a).toArray)] w (fun ex w' => ∃ v, ex = .returned v ∧ (fun v w' => v = .tuple #[(.agg (cD (loC a)).toArray), (.agg (cD (hiC a)).toArray), .bool (decide (¬ gE a))] ∧ Below w.heap.size w w') v w') := by
 refine aH #[.cell 2 226, .cell 3 226, .tmp 4] 21 Tryz.func216 rfl Tryz.results216 Tryz.ntmps216 rfl ?_
 have M0 := Mem.refl w
 refine aD (aA (bJ (.agg (List.toArray _)) M0 rfl rfl rfl (fun b1 w1 M1 => (aQ mX M1 rfl rfl (fun b2 w2 M2 => (aQ mX M2 rfl rfl (fun b3 w3 M3 => (wq (aI (.bool false) rfl) rfl (aB (aC (aD (aD (aA ?_)))))))))))))
 refine wq (aY 0 iF M3 rfl rfl rfl) rfl (bY aIf rfl rfl (tM _ a) ?_)
 rintro v4 w4 ⟨rfl, hb4⟩
 have M4 := M3.callB hb4
 refine aB (aC ?_)
 refine aX rfl (fun h6 => ?_) (fun h6 => ?_)
 ·refine aD (bV [(0, 1), (1, 1), (2, 2), (3, 2), (4, 0)] mixed rfl (by kernel_rfl) (fun w5 hb5 hh5 => ?_))
  have M5 := M4.drew hb5 hh5
  refine cB rfl rfl rfl (aY 1 gC M5 rfl rfl rfl) (cB rfl rfl rfl (aY 2 gC M5 rfl rfl rfl) (dR [false, true] rfl (by kernel_rfl) (bB 1 _ gC M5 rfl rfl rfl rfl rfl (aP rfl) rfl (fun w6 M6 => ?_))))
  refine aB (aC ⟨(eQ (bP rfl (aY 2 gC M6 rfl rfl rfl)) dS), ?_⟩)
  refine dR [true] rfl (by kernel_rfl) (bB 2 _ gC M6 rfl rfl rfl rfl rfl (aP rfl) rfl (fun w7 M7 => ?_))
  refine aB (aC ⟨dS, ?_⟩)
  refine aZ rfl rfl rfl (fun _ => aI (.bool false) rfl) (cG (aC (aN (cH (aYp (v3 := .bool false) 1 2 gC M7 rfl rfl rfl rfl rfl rfl rfl ?_)))))
  exact ⟨by unfold loC hiC; rw [if_pos h6, if_pos h6, decide_eq_false (fun h => h h6)]; rfl, M7.below⟩
 ·refine aL (aC (aD (bV [(0, 0), (1, 1), (2, 0), (3, 1), (4, 0), (6, 0), (7, 1), (8, 0), (9, 1), (10, 0), (5, 2), (11, 2), (12, 2), (13, 2), (14, 0)] mixed rfl (by kernel_rfl) (fun w8 hb8 hh8 => ?_))))
  have M8 := M4.drew hb8 hh8
  refine aZ rfl rfl rfl (fun _ => aE 0 rX rfl) (cB rfl rfl rfl (aM 0 (.int _ _) aU M8 rfl rfl rfl) (aZ rfl rfl rfl (fun _ => aE 1 sH rfl) (cB rfl rfl rfl (aM 0 (.int _ _) aU M8 rfl rfl rfl) (aZ rfl rfl rfl (fun _ => cI [(0, .int _ _), (1, .int _ _)] _ eL rfl rfl) ?_))))
  refine aZ rfl rfl rfl (fun _ => aE 2 rO rfl) (cB rfl rfl rfl (aM 0 (.int _ _) aU M8 rfl rfl rfl) (aZ rfl rfl rfl (fun _ => aE 3 sG rfl) (cB rfl rfl rfl (aM 0 (.int _ _) aU M8 rfl rfl rfl) (aZ rfl rfl rfl (fun _ => cI [(0, .int _ _), (1, .int _ _)] _ eL rfl rfl) ?_))))
  refine dR [false, false, true, true] rfl (by kernel_rfl) (bY aSm rfl rfl (aKj _ a.x0 a.y0) ?_)
  rintro v9 w9 ⟨rfl, hb9⟩
  have M9 := M8.callB hb9
  refine aB (aC ⟨(eQ (bP rfl (aM 0 (.int _ _) aU M9 rfl rfl rfl)) (eQ (bP rfl (aM 0 (.int _ _) aU M9 rfl rfl rfl)) dS)), ?_⟩)
  refine dR [true, true] rfl (by kernel_rfl) (bY aSm rfl rfl (aKj _ a.x1 a.y1) ?_)
  rintro v10 w10 ⟨rfl, hb10⟩
  have M10 := M9.callB hb10
  refine aB (aC ⟨dS, ?_⟩)
  refine dR [] rfl (by kernel_rfl) (bB 1 _ gC M10 rfl rfl rfl rfl rfl (aP rfl) rfl (fun w11 M11 => ?_))
  refine aB (aC ⟨dS, ?_⟩)
  refine dR [] rfl (by kernel_rfl) (bB 2 _ gC M11 rfl rfl rfl rfl rfl (aP rfl) rfl (fun w12 M12 => ?_))
  refine aB (aC ⟨dS, ?_⟩)
  refine aZ rfl rfl rfl (fun _ => aI (.bool true) rfl) (cG (aC (aN (aYp (v3 := .bool true) 1 2 gC M12 rfl rfl rfl rfl rfl rfl rfl ?_))))
  exact ⟨by unfold loC hiC; rw [if_neg h6, if_neg h6, decide_eq_true h6], M12.below⟩
set_option maxHeartbeats 4000000 in
theorem aHw (w : World) (a : Bx) :
  Calls Tryz.prog 191 #[(.agg (dD a).toArray)] w (fun ex w' => ∃ v, ex = .returned v ∧ (fun v w' => ∃ b1 b2 b3, v = .func (.func 217) #[] #[.pointer (some ⟨b1, 0, none⟩), .pointer (some ⟨b2, 0, none⟩), .pointer (some ⟨b3, 0, none⟩)] ∧ Mem w [] [(some b1, bc (cD (loC a)) 226), (some b3, bc (cD (hiC a)) 226), (some b2, bc [.bool (decide (¬ gE a))] 4)] w') v w') := by
 refine aH #[.tmp 2] 13 Tryz.func191 rfl Tryz.results191 Tryz.ntmps191 rfl ?_
 have M0 := Mem.refl w
 refine aD (aA (bJ (.agg (List.toArray _)) M0 rfl rfl rfl (fun b1 w1 M1 => (wq (aI (_) rfl) rfl (aB (aC (aD (aA (wq (aY 0 iF M1 rfl rfl rfl) rfl (bY aZj rfl rfl (aNr _ a) ?_))))))))))
 rintro v2 w2 ⟨rfl, hb2⟩
 have M2 := M1.callB hb2
 refine wq (aG (.tuple (List.toArray _)) rfl) rfl (wq (bE (.agg (List.toArray _)) rfl rfl) rfl (wq (bE (.agg (List.toArray _)) rfl rfl) rfl (wq (bE (.bool (decide _)) rfl rfl) rfl (aQ mX M2 rfl rfl (fun b3 w3 M3 => (aQ mX M3 rfl rfl (fun b4 w4 M4 => ?_)))))))
 refine aQ aKq M4 rfl rfl (fun b5 w5 M5 => (bB 1 _ gC M5 rfl rfl rfl rfl rfl (aP rfl) rfl (fun w6 M6 => (bB 2 _ gC M6 rfl rfl rfl rfl rfl (aP rfl) rfl (fun w7 M7 => (dF 3 (.bool (decide _)) nG M7 rfl rfl rfl rfl rfl rfl (fun w8 M8 => (aB (aC (aD (aA (wq (cM [] [.pointer _, .pointer _, .pointer _] rfl rfl) rfl ?_))))))))))))
 refine wq (aI (.func _ _ _) rfl) rfl (aB (aC (aN (cA (.func _ _ _) rfl ?_))))
 exact ⟨b3, b5, b4, rfl, M8.keep [false, true, true, true]⟩
set_option maxHeartbeats 4000000 in
theorem aGb (w : World) (lo hi : Int × Int) (ok : Bool) (b1 b2 b3 : Nat) (L1 : Rd w 2 (some ⟨b1, 0, none⟩) 1 [cD lo]) (L2 : Rd w 1 (some ⟨b2, 0, none⟩) 1 [[.bool ok]]) (L3 : Rd w 2 (some ⟨b3, 0, none⟩) 1 [cD hi]) (hlo : Okc lo) (hhi : Okc hi) (lp ob : Nat) (rec : Loop) (hY : rJ Tryz.prog lp ob rec 224 226 2 1048576 (fun x => ∃ a b, x = [.int .i32 a, .int .i32 b])) (r0 : Row) (hr0 : aW 226 2 r0.A r0.n r0.c [] r0.e) (hO : Own [(some lp, .loop rec), (some ob, bc [.slice r0.A r0.n r0.c] 224), r0.e] w) (hd1 : 0 < 1 → ∀ q off, (some ⟨b1, 0, none⟩ : Option Addr) = some ⟨q, off, none⟩ → q ∉ bQ [(some lp, .loop rec), (some ob, bc [.slice r0.A r0.n r0.c] 224), r0.e]) (hd2 : 0 < 1 → ∀ q off, (some ⟨b2, 0, none⟩ : Option Addr) = some ⟨q, off, none⟩ → q ∉ bQ [(some lp, .loop rec), (some ob, bc [.slice r0.A r0.n r0.c] 224), r0.e]) (hd3 : 0 < 1 → ∀ q off, (some ⟨b3, 0, none⟩ : Option Addr) = some ⟨q, off, none⟩ → q ∉ bQ [(some lp, .loop rec), (some ob, bc [.slice r0.A r0.n r0.c] 224), r0.e]) :
  Calls Tryz.prog 217 #[.func (.yield lp) #[] #[], .pointer (some ⟨b1, 0, none⟩), .pointer (some ⟨b2, 0, none⟩), .pointer (some ⟨b3, 0, none⟩)] w (fun ex w' => ∃ v, ex = .returned v ∧ (fun v w' => v = .tuple #[] ∧ ∃ r : Row, aW 226 2 r.A r.n r.c ((sT ok lo hi).map cD) r.e ∧ Mem w (bQ [(some lp, .loop rec), (some ob, bc [.slice r0.A r0.n r0.c] 224), r0.e]) [(some lp, .loop rec), (some ob, bc [.slice r.A r.n r.c] 224), r.e] w') v w') := by
 rw [← eO b1, ← eO b2, ← eO b3]
 have hxd : nX lo hi = (hi.1 - lo.1 + 1).toNat := rfl
 have hyd : nY lo hi = (hi.2 - lo.2 + 1).toNat := rfl
 have hlx := hlo.x
 have hly := hlo.y
 have hhx := hhi.x
 have hhy := hhi.y
 have hnx := aXr hlo hhi
 have hny := aXo hlo hhi
 refine aH #[] 32 Tryz.func217 rfl Tryz.results217 Tryz.ntmps217 rfl ?_
 have M0 := hO.mem
 refine aD (aA (wq (bO 1 xQ (L1.memY M0 hd1) (Nat.lt_of_le_of_lt (Nat.zero_le _) ((L1.memY M0 hd1).below_len (show ([cD lo] : List (List Value))[0]? = some (cD lo) from rfl))) rfl) rfl (wq (eH (o := 1) (.int _ _) aU (L1.memY M0 hd1) (show ([cD lo] : List (List Value))[0]? = some (cD lo) from rfl) rfl rfl) rfl ?_)))
 refine bI rfl rfl (aB (aC (aT (dN (σ := Nat × Row) [0, 1, 2, 3] (fun (j, r) => [(5, .int .i32 (lo.2 + (j : Int)))]) (fun (j, r) w' => (j ≤ nY lo hi ∧ (ok = false → j = 0) ∧ aW 226 2 r.A r.n r.c ((lR lo hi j).map cD) r.e) ∧ Mem w (bQ [(some lp, .loop rec), (some ob, bc [.slice r0.A r0.n r0.c] 224), r0.e]) [(some lp, .loop rec), (some ob, bc [.slice r.A r.n r.c] 224), r.e] w') (fun (j, r) => nY lo hi - j) (0, r0) (bK (iv rfl (by simp)) fC) (⟨⟨by omega, fun _ => rfl, hr0⟩, M0⟩) ?_))))
 rintro ⟨j, r⟩ ρ1 w1 ⟨⟨hj, hjz, hr⟩, hM1⟩
 refine aD (aD (aA (wq (eH (o := 0) (.bool _) nG (L2.memY hM1 hd2) (show ([[.bool ok]] : List (List Value))[0]? = some ([.bool ok]) from rfl) rfl rfl) rfl (wq (aG (.bool _) rfl) rfl ?_))))
 refine mH 10 _ rfl (fun g10 => ?_) (fun g10 => ?_)
 ·refine aV rfl rfl (wq (bO 1 xQ (L3.memY hM1 hd3) (Nat.lt_of_le_of_lt (Nat.zero_le _) ((L3.memY hM1 hd3).below_len (show ([cD hi] : List (List Value))[0]? = some (cD hi) from rfl))) rfl) rfl (wq (eH (o := 1) (.int _ _) aU (L3.memY hM1 hd3) (show ([cD hi] : List (List Value))[0]? = some (cD hi) from rfl) rfl rfl) rfl ?_))
  refine cS rfl rfl rfl rfl (wq (bN true (.bool (decide _)) rfl rfl) rfl (aB (aC ?_)))
  refine aX rfl (fun h15 => ?_) (fun h15 => ?_)
  ·refine aL (aC (aD (aT (aD (aA (wq (bO 0 vX (L1.memY hM1 hd1) (Nat.lt_of_le_of_lt (Nat.zero_le _) ((L1.memY hM1 hd1).below_len (show ([cD lo] : List (List Value))[0]? = some (cD lo) from rfl))) rfl) rfl (wq (eH (o := 0) (.int _ _) aU (L1.memY hM1 hd1) (show ([cD lo] : List (List Value))[0]? = some (cD lo) from rfl) rfl rfl) rfl ?_)))))))
   refine bI rfl rfl (aB (aC (aT (dN (σ := Nat × Row) [0, 1, 2, 3, 5] (fun (i, q0) => [(6, .int .i32 (lo.1 + (i : Int)))]) (fun (i, q0) w' => (i ≤ nX lo hi ∧ aW 226 2 q0.A q0.n q0.c ((lR lo hi j ++ xO lo i j).map cD) q0.e) ∧ Mem w (bQ [(some lp, .loop rec), (some ob, bc [.slice r0.A r0.n r0.c] 224), r0.e]) [(some lp, .loop rec), (some ob, bc [.slice q0.A q0.n q0.c] 224), q0.e] w') (fun (i, q0) => nX lo hi - i) (0, r) (bK (iv rfl (by simp)) fC) (⟨⟨by omega, by simpa [xO] using hr⟩, hM1⟩) ?_))))
   rintro ⟨i, q0⟩ ρ2 w2 ⟨⟨hi2, hq0⟩, hM2⟩
   have hql : (lR lo hi j).length + i = q0.n := by simpa [aGk] using hq0.1
   refine aD (aD (aA (aV rfl rfl (wq (bO 0 vX (L3.memY hM2 hd3) (Nat.lt_of_le_of_lt (Nat.zero_le _) ((L3.memY hM2 hd3).below_len (show ([cD hi] : List (List Value))[0]? = some (cD hi) from rfl))) rfl) rfl (wq (eH (o := 0) (.int _ _) aU (L3.memY hM2 hd3) (show ([cD hi] : List (List Value))[0]? = some (cD hi) from rfl) rfl rfl) rfl ?_)))))
   refine cS rfl rfl rfl rfl (aB (aC ?_))
   refine aX rfl (fun h23 => ?_) (fun h23 => ?_)
   ·have hlt6 := aQs (lo := lo) (hi := hi) (i := i) (j := j) hnx (by omega) (by omega)
    refine aL (aC (aD (aT (aD (aAo (aBk (aG (.func _ _ _) rfl) rfl rfl (aBk (aG (.int _ _) rfl) rfl rfl (aBk (aG (.int _ _) rfl) rfl rfl (aBk (cI [(0, .int _ _), (1, .int _ _)] _ aAn rfl rfl) rfl rfl ?_)))))))))
    obtain ⟨fy, ty, ay, by1, hy1, hy2⟩ := hY _ q0 ((lR lo hi j ++ xO lo i j).map cD) (cD (lo.1 + (i : Int), lo.2 + (j : Int))) ⟨_, _, rfl⟩ (by omega) hq0 (hM2.ownSeg 0 3)
    refine aBl rfl rfl rfl rfl hy1 (hy2.mono ?_)
    rintro _ w3 ⟨rfl, q3, hqn3, hq3, hM3⟩
    have M3 : Mem _ _ [_, _, _] _ := hM2.seg 0 3 hM3
    refine ⟨_, rfl, ?_⟩
    refine aTb rfl (fun _ _ h => h) (wq (jJ false rfl rfl) rfl (aB (aC (cC rfl (aL (cV ?_))))))
    refine aC (aA (aV rfl rfl (wq (iD rfl rfl (lH _ (by omega) (by omega))) rfl (bI rfl rfl (aB ?_)))))
    refine cQ (i + 1, q3) (bK (iv rfl (by omega)) fC) (cU rfl (cU rfl (cU rfl (cU rfl (cU rfl kE))))) ?_ ?_
    ·exact ⟨⟨by omega, by rw [aMi, ← List.append_assoc, List.map_append]; exact hq3⟩, M3⟩
    ·(show nX lo hi - (i + 1) < nX lo hi - i; omega)
   ·have hix : i = nX lo hi := by omega
    refine cN (dB (cZ (eZ (cV (aC (aA ?_))))))
    refine aV rfl rfl (wq (iD rfl rfl (lH _ (by omega) (by omega))) rfl (bI rfl rfl (aB ?_)))
    refine cQ (j + 1, q0) (bK (iv rfl (by omega)) fC) (cU rfl (cU rfl (cU rfl (cU rfl kE)))) ?_ ?_
    ·exact ⟨⟨by omega, fun h => (by rw [g10] at h; cases h), by rw [yJ, ← hix]; exact hq0⟩, hM2⟩
    ·(show nY lo hi - (j + 1) < nY lo hi - j; omega)
  ·refine cN (dB (cZ (eZ (iI ?_))))
   exact ⟨rfl, r, by unfold sT; first | (rw [if_pos g10, show nY lo hi = j by omega]; exact hr) | (rw [if_neg (by rw [g10]; decide)]; rw [hjz g10] at hr; exact hr), hM1⟩
 ·refine aR rfl rfl (aR rfl rfl (aR rfl rfl (aR rfl rfl (wq (bN false (.bool false) rfl rfl) rfl (aB (aC ?_))))))
  refine cC rfl (cN (dB (cZ (eZ (iI ?_)))))
  exact ⟨rfl, r, by unfold sT; first | (rw [if_pos g10, show nY lo hi = j by omega]; exact hr) | (rw [if_neg (by rw [g10]; decide)]; rw [hjz g10] at hr; exact hr), hM1⟩
set_option maxHeartbeats 4000000 in
theorem aPc (w : World) (a : Bx) (ha : Okx a) :
  Calls Tryz.prog 161 #[(.agg (dD a).toArray)] w (fun ex w' => ∃ v, ex = .returned v ∧ (fun v w' => ∃ r : Row, v = .slice r.A r.n r.c ∧ aW 226 2 r.A r.n r.c ((fT a).map cD) r.e ∧ Mem w [] [r.e] w') v w') := by
 refine uJ #[.tmp 2] 13 Tryz.func161 rfl Tryz.results161 Tryz.ntmps161 rfl ?_
 have M0 := Mem.refl w
 refine nJ (kY (bJ (.agg (List.toArray _)) M0 rfl rfl rfl (fun b1 w1 M1 => (fZ rfl rfl (aB (nK ?_))))))
 refine nJ (kY (aQ aXd M1 rfl rfl (fun b2 w2 M2 => (aB (nK (nJ ?_))))))
 refine nJ (kY (wq (aY 0 iF M2 rfl rfl rfl) rfl (bY bAz rfl rfl (aHw _ a) ?_)))
 rintro v3 w3 ⟨bl, bk, bh, rfl, hM3⟩
 have M3 : Mem _ _ [_, _, _, _, _] _ := M2.call0 hM3
 refine aB (nK (aGs ?_))
 have M4 : Mem _ _ [_, _, _, _, _] _ := ((M3.keep [false, true, true, true, true]).dummy default).perm (List.Perm.cons _ (List.perm_append_comm (l₁ := [_, _, _]) (l₂ := [_])))
 refine aEq aZl M4 rfl (fun fnn B lp tmps w1 hρ hn M1 => ?_)
 refine wF (P := Tryz.prog) (ob := b2) (Tsl := 224) (Te := 226) (sz := 2) (N := 1048576) (ok := (fun x => ∃ a b, x = [.int .i32 a, .int .i32 b])) M1 ?_ (fun hY => ?_)
 ·intro wr r ls x hok hlt hrow hO
  obtain ⟨xa, xb, rfl⟩ := hok
  refine ⟨_, _, _, _, aGp hO rfl rfl rfl hn (by decide) hρ ?_⟩
  have MR0 := hO.mem
  refine pN rfl (fun _ _ h => nomatch h.1) (aQ mX MR0 rfl rfl (fun b5 w5 M5 => (bB 3 _ gC M5 rfl rfl rfl rfl rfl (aP rfl) rfl (fun w6 M6 => (aB ?_)))))
  refine ⟨rfl, _, M6, rfl, fun w7 M7 => ?_⟩
  refine aEh (pN rfl (fun _ _ h => nomatch h.1) (wq (aM 1 (.slice _ _ _) aHr M7 rfl rfl rfl) rfl (wq (aY 3 gC M7 rfl rfl rfl) rfl (cY [.agg (List.toArray _)] [[.int .i32 xa, .int .i32 xb]] rfl aTc M7 rfl rfl rfl rfl (dG rfl) (by decide) (fun b8 w8 M8 => (eG 2 [[.int .i32 xa, .int .i32 xb]] aTc M8 rfl rfl rfl rfl rfl hrow rfl (by simp [Go.Bil.one]) (dA.ofMem 4 M8 rfl) (by omega) (fun A9 c9 e9 w9 M9 hR9 => ?_)))))))
  refine dF 1 (.slice _ _ _) aHr M9 rfl rfl rfl rfl rfl rfl (fun w10 M10 => (aB (cV ?_)))
  refine ⟨rfl, _, M10, rfl, fun w11 M11 => ?_⟩
  exact ⟨⟨A9, r.n + 1, c9, e9⟩, rfl, hR9, M11.keep [true, true, true, false, false]⟩
 ·refine (aGb _ (loC a) (hiC a) _ bl bk bh (lJ 3 M1 rfl rfl) (lJ 5 M1 rfl rfl) (lJ 4 M1 rfl rfl) (aJc ha) (aIw ha) lp b2 _ hY ⟨none, 0, 0, (none, default)⟩ (aW.nil _ _ _) (M1.ownSeg 0 3) (M1.apartTake 3 3 rfl rfl) (M1.apartTake 3 5 rfl rfl) (M1.apartTake 3 4 rfl rfl)).mono ?_
  rintro _ w5 ⟨v5, rfl, rfl, r, hr, hM⟩
  have M5 : Mem _ _ (_ :: [_, _, _, _, _, _]) _ := M1.seg 0 3 hM
  refine ⟨_, rfl, _, M5, fun w6 M6 => ?_⟩
  refine aYi (nK (nJ (aBh (aJx (aM 1 (.slice _ _ _) aHr M6 rfl rfl rfl) rfl rfl (aJx (aI (.slice _ _ _) rfl) rfl rfl ?_)))))
  refine aJv (nK (aOw (aYu (i := 6) (.slice _ _ _) rfl M6 rfl (fun w9 M9 => ?_))))
  exact ⟨r, rfl, hr, M9.keep [false, false, true, false, false, false, false]⟩
set_option maxHeartbeats 4000000 in
theorem aFd (w : World) (F : Rd w 2 (some ⟨0, 0, none⟩) 1 [[.int .u32 73856093, .int .u32 19349663]]) (c : Int × Int) :
  Calls Tryz.prog 162 #[(.agg (cD c).toArray)] w (fun ex w' => ∃ v, ex = .returned v ∧ (fun v w' => v = .int .i64 (dH c : Int) ∧ Below w.heap.size w w') v w') := by
 refine aH #[.tmp 2] 20 Tryz.func162 rfl Tryz.results162 Tryz.ntmps162 rfl ?_
 have M0 := Mem.refl w
 refine aD (aA (bJ (.agg (List.toArray _)) M0 rfl rfl rfl (fun b1 w1 M1 => (bI rfl rfl (aB (aC (aD (aA (wq (aE 0 vX rfl) rfl (wq (aM 0 (.int _ _) aU M1 rfl rfl rfl) rfl ?_))))))))))
 refine wq (dO fK Tryz.underlying36 rfl) rfl (wq (eT (0) aSt rfl rfl rfl (by decide)) rfl (wq (eH (k := 0) (o := 0) (.int _ _) bU (F.mem M1) (show ([[.int .u32 73856093, .int .u32 19349663]] : List (List Value))[0]? = some [.int .u32 73856093, .int .u32 19349663] from rfl) rfl rfl) rfl (wq (dT (.int _ _) rfl rfl rfl) rfl ?_)))
 refine wq (aE 1 xQ rfl) rfl (wq (aM 0 (.int _ _) aU M1 rfl rfl rfl) rfl (wq (dO fK Tryz.underlying36 rfl) rfl (wq (eT (1) aSt rfl rfl rfl (by decide)) rfl (wq (eH (k := 0) (o := 1) (.int _ _) bU (F.mem M1) (show ([[.int .u32 73856093, .int .u32 19349663]] : List (List Value))[0]? = some [.int .u32 73856093, .int .u32 19349663] from rfl) rfl rfl) rfl ?_))))
 refine wq (dT (.int _ _) rfl rfl rfl) rfl (wq (dT (.int _ _) rfl rfl rfl) rfl (bI rfl rfl (aB (aC (aD (aA (aV rfl rfl (wq (dT (.int _ _) rfl rfl rfl) rfl ?_))))))))
 refine aS 18 (.int .u32 (pF c)) rfl (wq (bR qT Tryz.underlying3 rfl (kB _ (by have := jN c; omega) (by have := jN c; omega))) rfl (bI rfl rfl (aB (aC (aN (cA (.int _ _) rfl ?_))))))
 exact ⟨iE (aOq c), M1.below⟩
set_option maxHeartbeats 16000000 in
theorem aDs (w : World) (F : Rd w 2 (some ⟨0, 0, none⟩) 1 [[.int .u32 73856093, .int .u32 19349663]]) (b : Nat) (rs : List Row) (cnt : Int) (g : Nat → List Int) (hG : GridRows 36 rs g) (hcnt : 0 ≤ cnt ∧ cnt ≤ 1048576) (hgl : ∀ j, j < 1024 → (g j).length ≤ 1048576) (key : Int) (a : Bx) (ha : Okx a) (hO : Own ((some b, bc (dC rs cnt) 191) :: rs.map Row.e) w) (hdF : 0 < 1 → ∀ q off, (some ⟨0, 0, none⟩ : Option Addr) = some ⟨q, off, none⟩ → q ∉ bQ ((some b, bc (dC rs cnt) 191) :: rs.map Row.e)) :
  Calls Tryz.prog 133 #[.pointer (some ⟨b, 0, none⟩), .int .u32 key, (.agg (dD a).toArray)] w (fun ex w' => ∃ v, ex = .returned v ∧ (fun v w' => v = .tuple #[] ∧ ∃ rs' : List Row, GridRows 36 rs' (pT g key ((fT a).map dH)) ∧ Mem w (bQ ((some b, bc (dC rs cnt) 191) :: rs.map Row.e)) ((some b, bc (dC rs' (cnt + 1)) 191) :: rs'.map Row.e) w') v w') := by
 refine aH #[] 49 Tryz.func133 rfl Tryz.results133 Tryz.ntmps133 rfl ?_
 have M0 := hO.mem
 refine aD (aA (bJ (.agg (List.toArray _)) M0 rfl rfl rfl (fun b1 w1 M1 => ?_)))
 have M2 : Mem _ _ ([_, _] ++ _) _ := Mem.front (L := [_]) M1
 refine aB (aC (aD (aD (aA (wq (aG (.pointer _) rfl) rfl (wq (dV false Tryz.underlying222 rfl rfl) rfl (aB (aC (cC rfl (aL (aC (aD (aA ?_)))))))))))))
 refine wq (aG (.pointer _) rfl) rfl (wq (aK rfl) rfl (wq (aE 1024 aDz rfl) rfl (wq (aM 0 (.int .i64 cnt) mA M2 rfl rfl (wV hG.len)) rfl (wq (bM rfl rfl (by omega) (by omega)) rfl (wq (aK rfl) rfl ?_)))))
 refine wq (aE 1024 aDz rfl) rfl (dF 0 (.int _ _) mA M2 rfl rfl rfl rfl rfl (by rw [wV hG.len]; rfl) (fun w3 M3 => ?_))
 have M3b : Mem _ _ ([(some b, bc (dC rs (cnt + 1)) 191), _] ++ rs.map Row.e) _ := Mem.cells0 M3 (zP hG.len)
 refine aB (aC (aD (aA (kS M3b rfl rfl (fun b4 w4 M4 => ?_)))))
 have M5 : Mem _ _ ([_, _, _] ++ _) _ := Mem.front (L := [_, _]) M4
 refine wq (aI (.map _) rfl) rfl (aB (aC (aD (aA (wq (aY 1 iF M5 rfl rfl rfl) rfl (bY bAu rfl rfl (aPc _ a ha) ?_))))))
 rintro v6 w6 ⟨r0, rfl, hR0, hM6⟩
 have M6 : Mem _ _ ([_, _, _, _] ++ _) _ := Mem.front (L := [_, _, _]) (M5.call0 hM6)
 have hcl : (fT a).length = r0.n := by simpa using hR0.1
 have hcb := aIz ha
 refine wq (cR Tryz.underlying224 rfl) rfl (aV rfl rfl (aB (aC (aT (dN (σ := Nat × List Row × dL) [0, 1, 6, 21, 22] (fun (i, rs1, em) => [(23, .int .i64 (i : Int))]) (fun (i, rs1, em) w' => (i ≤ r0.n ∧ GridRows 36 rs1 (pT g key (((fT a).map dH).take i)) ∧ iP .i64 Value.bool (oY (((fT a).map dH).take i)) (some b4) em) ∧ Mem w (bQ ((some b, bc (dC rs cnt) 191) :: rs.map Row.e)) ([(some b, bc (dC rs1 (cnt + 1)) 191), (some b1, bc (dD a) 193), em, r0.e] ++ rs1.map Row.e) w') (fun (i, rs1, em) => r0.n - i) (0, rs, (some b4, .map #[] 0)) (bK rfl fC) (⟨⟨by omega, by rw [List.take_zero, aQi]; exact hG, (iP.empty _ _ b4).congr (fun q => by rw [List.take_zero]; exact aOk q)⟩, M6⟩) ?_)))))
 rintro ⟨i, rs1, em⟩ ρ7 w7 ⟨⟨hi, hrs, hme⟩, hM7⟩
 refine aD (aA (cS rfl rfl rfl rfl (aB (aC (aD ?_)))))
 refine aX rfl (fun h24 => ?_) (fun h24 => ?_)
 ·obtain ⟨xc, hxc⟩ := cL (xs := fT a) (k := i) hcl (by omega)
  have hbb : ((fT a).map dH)[i]? = some (dH xc) := by rw [List.getElem?_map, hxc]; rfl
  refine aL (aC (aD (aT (aD (aA (wq (bX (i) aTc rfl rfl rfl ((hR0.rd hM7 (bC (i := 3) rfl)).below_len (aJ cD hxc)) ((hR0.rd hM7 (bC (i := 3) rfl)).someK (aJ cD hxc))) rfl (wq (eB _ gC (hR0.rd hM7 (bC (i := 3) rfl)) (aJ cD hxc) rfl) rfl ?_)))))))
  refine aQ mX hM7 rfl rfl (fun b8 w8 M8 => ?_)
  have M9 : Mem _ _ ([_, _, _, _, _] ++ _) _ := Mem.front (L := [_, _, _, _]) M8
  refine bB 4 _ gC M9 rfl rfl rfl rfl rfl (aP rfl) rfl (fun w10 M10 => (aB (aC (aD (aA (wq (aY 4 gC M10 rfl rfl rfl) rfl (bY aZg rfl rfl (aFd _ (F.memY M10 hdF) xc) ?_)))))))
  rintro v11 w11 ⟨rfl, hb11⟩
  have M11 := M10.callB hb11
  refine bI rfl rfl (aB (aC (aD (aD (aA (wq (aG (.map _) rfl) rfl (aV rfl rfl (wq (iR (enc := Value.bool) false 2 aTi zv4 M11 rfl hme rfl rfl) rfl (aB (aC ?_))))))))))
  refine gJ _ rfl (fun h31 => ?_) (fun h31 => ?_)
  ·refine cN (dB (eZ (aC (aA (wq (bM rfl rfl (by omega) (by omega)) rfl (aV rfl rfl ?_))))))
   refine aB ?_
   refine cQ (i + 1, rs1, em) (bK rfl fC) (cU rfl (cU rfl (cU rfl (cU rfl (cU rfl kE))))) ?_ ?_
   ·exact ⟨⟨by omega, by rw [aPu hbb (sP.1 h31)]; exact hrs, by rw [aNd hbb (sP.1 h31)]; exact hme⟩, Mem.keepL (L := [_, _, _, _, _]) [true, true, true, true, false] M11⟩
   ·(show r0.n - (i + 1) < r0.n - i; omega)
  ·have hnb : dH xc ∉ ((fT a).map dH).take i := fun h => by have h2 := sP.2 h; rw [h2] at h31; cases h31
   refine aL (aC (aD (aA (wq (aG (.map _) rfl) rfl (aV rfl rfl (gS (enc := Value.bool) 2 aTi M11 rfl rfl hme rfl rfl rfl rfl (fun e12 w12 hm12 M12 => (aB (aC (bV [(0, 0), (1, 0), (2, 0), (3, 0), (4, 0), (5, 0), (6, 0), (7, 1), (8, 0), (11, 0), (12, 0), (9, 2), (10, 2), (13, 0), (14, 2)] mixed rfl (by kernel_rfl) (fun w13 hb13 hh13 => ?_)))))))))))
   have M13 := M12.drew hb13 hh13
   refine aZ rfl rfl rfl (fun _ => aG (.pointer _) rfl) (iB rfl rfl rfl (aZ rfl rfl rfl (fun _ => aG (.pointer _) rfl) (iB rfl rfl rfl (aZ rfl rfl rfl (fun _ => aK rfl) (aZ rfl rfl rfl (fun _ => aE 0 wI rfl) ?_)))))
   refine aZ rfl rfl rfl (fun _ => eT (dH xc) aJd rfl rfl rfl (iU xc)) ?_
   obtain ⟨rb, hrb⟩ := hrs.get (iU xc)
   have hrowb := hrs.row _ _ hrb
   have hgb : pT g key (((fT a).map dH).take i) (dH xc) = g (dH xc) := by unfold pT; rw [if_neg hnb]
   have hrn : (pT g key (((fT a).map dH).take i) (dH xc)).length = rb.n := by simpa using hrowb.1
   have hgl := hgl (dH xc) (iU xc)
   rw [hgb] at hrn
   have M14 : Mem _ _ ([_, _, _, _, _, _] ++ (rs1.eraseIdx (dH xc)).map Row.e) _ := Mem.pull (L := [_, _, _, _, _]) (rs := rs1) M13 hrb
   refine cB rfl rfl rfl (aM 0 (.slice _ _ _) aDd M14 rfl rfl (qL hrb)) (iB rfl rfl rfl (aZ rfl rfl rfl (fun _ => aK rfl) (aZ rfl rfl rfl (fun _ => aE 0 wI rfl) (dR [false] rfl (by kernel_rfl) (cY [.int _ _] [eS key] rfl aEg M14 rfl rfl rfl rfl (dG rfl) (by decide) (fun b15 w15 M15 => ?_))))))
   have M16 : Mem _ _ ([_, _, _, _, _, _, _] ++ _) _ := Mem.front (L := [_, _, _, _, _, _]) M15
   refine aB (aC ⟨(eQ (bP rfl (aM 0 (.slice _ _ _) aDd M16 rfl rfl (qL hrb))) dS), ?_⟩)
   refine dR [true] rfl (by kernel_rfl) (eG 5 [eS key] aEg M16 rfl rfl rfl rfl rfl hrowb rfl (aIs _) (dA.ofMem 6 M16 rfl) (by omega) (fun A17 c17 e17 w17 M17 hR17 => ?_))
   refine aB (aC ⟨dS, ?_⟩)
   refine aZ rfl rfl rfl (fun _ => eT (dH xc) aJd rfl rfl rfl (iU xc)) (dR [] rfl (by kernel_rfl) (dF 0 (.slice _ _ _) aDd M17 rfl rfl rfl rfl rfl (by rw [qL hrb]; rfl) (fun w18 M18 => ?_)))
   have M18b : Mem _ _ ([(some b, bc (dC (rs1.set (dH xc) (⟨A17, rb.n + 1, c17, e17⟩ : Row)) (cnt + 1)) 191), _, _, _, _, _, _] ++ (rs1.eraseIdx (dH xc)).map Row.e) _ := Mem.cells0 M18 (zE (⟨A17, rb.n + 1, c17, e17⟩ : Row) (by rw [hrs.len]; exact iU xc))
   refine aB (aC ⟨dS, ?_⟩)
   refine cG (cV (aC (aA (wq (bM rfl rfl (by omega) (by omega)) rfl (aV rfl rfl (aB ?_))))))
   refine cQ (i + 1, rs1.set (dH xc) (⟨A17, rb.n + 1, c17, e17⟩ : Row), e12) (bK rfl fC) (cU rfl (cU rfl (cU rfl (cU rfl (cU rfl kE))))) ?_ ?_
   ·exact ⟨⟨by omega, by rw [aRn hbb hnb]; exact hrs.put (r := (⟨A17, rb.n + 1, c17, e17⟩ : Row)) (iU xc) (by simpa using hR17), hm12.congr (fun q => aAp hbb q)⟩, Mem.push (L := [_, _, _, _]) (rs := rs1) (⟨A17, rb.n + 1, c17, e17⟩ : Row) (Mem.keepL (L := [_, _, _, _, _, _, _]) [true, true, true, true, false, true, false] M18b) (by rw [hrs.len]; exact iU xc)⟩
   ·(show r0.n - (i + 1) < r0.n - i; omega)
 ·have hin : i = r0.n := by omega
  rw [List.take_of_length_le (by simp; omega)] at hrs
  refine cN (dB (cZ (eZ (iI ?_))))
  exact ⟨rfl, rs1, hrs, Mem.keepL (L := [_, _, _, _]) [true, false, false, false] hM7⟩
end Go.Proofs.YtlmcphcgiclanaaGreatDoor
