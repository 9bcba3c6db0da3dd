/- Part of the proof of the laws of this seat: B8, C9, G10. No conditions. -/
import Derived.Test.YtlmcphcgiclanaaGreatDoorK5
import Derived.Test.YtlmcphcgiclanaaGreatDoorK6
import Derived.Test.YtlmcphcgiclanaaGreatDoorK11
import Derived.Test.YtlmcphcgiclanaaGreatDoorK15
set_option linter.unusedVariables false
set_option linter.unusedSimpArgs false
set_option linter.unnecessarySimpa false
namespace Go.Proofs.YtlmcphcgiclanaaGreatDoor
open Go.Bil
open Go.RowKit (Below)
open Go.Proofs
set_option maxHeartbeats 4000000 in
theorem aCb (w : World) (x : Int) (h0 : -2147483647 ≤ x) (h1 : x ≤ 2147483647) :
    Calls Tryz.prog 215 #[.int .i32 x] w (fun ex w' => ∃ v, ex = .returned v ∧ (fun v w' => v = .int .i32 (max x (-x)) ∧ Below w.heap.size w w') v w') := by
  refine aK #[.tmp 2] 7 Tryz.func215 rfl Tryz.results215 Tryz.ntmps215 rfl ?_
  have M0 := Mem.refl w
  refine aH (aB ?_)
  refine aA (aE (.int _ _) rfl) rfl rfl ?_
  refine aD (aF (aH (aB ?_)))
  refine aA (aC (.int _ _) rfl) rfl rfl ?_
  refine aA (aC (.int _ _) rfl) rfl rfl ?_
  refine aA (zL rfl (iP _ (by omega) (by omega))) rfl rfl ?_
  refine aA (lL rfl rfl ) rfl rfl ?_
  refine aA (aE (.int _ _) rfl) rfl rfl ?_
  refine aD (aF (aS ?_))
  refine cG (.int _ _) rfl ?_
  exact ⟨iE (by omega), M0.below⟩
set_option maxHeartbeats 4000000 in
theorem yN (w : World) (x : Int) (h0 : -2147483647 ≤ x) (h1 : x ≤ 2147483647) :
    Calls Tryz.prog 81 #[.int .i32 x] w (fun ex w' => ∃ v, ex = .returned v ∧ (fun v w' => v = .int .i32 (max x (-x)) ∧ Below w.heap.size w w') v w') := by
  refine aK #[.tmp 2] 8 Tryz.func81 rfl Tryz.results81 Tryz.ntmps81 rfl ?_
  have M0 := Mem.refl w
  refine aH (aB ?_)
  refine aA (aE (.int _ _) rfl) rfl rfl ?_
  refine aD (aF (aH (aH (aB ?_))))
  refine aA (aC (.int _ _) rfl) rfl rfl ?_
  refine aA (aO (.bool (decide _)) rfl rfl rfl) rfl rfl ?_
  refine aD (aF ?_)
  refine aY rfl (fun h4 => ?_) (fun h4 => ?_)
  · refine aH (aB ?_)
    refine aA (aC (.int _ _) rfl) rfl rfl ?_
    refine aA (zL rfl (iP _ (by omega) (by omega))) rfl rfl ?_
    refine aA (aE (.int _ _) rfl) rfl rfl ?_
    refine aD (aF (aS (cN ?_)))
    refine cG (.int _ _) rfl ?_
    exact ⟨iE (by omega), M0.below⟩
  · refine aP (aF (aH (aB ?_)))
    refine aA (aC (.int _ _) rfl) rfl rfl ?_
    refine aA (aE (.int _ _) rfl) rfl rfl ?_
    refine aD (aF (aS ?_))
    refine cG (.int _ _) rfl ?_
    exact ⟨iE (by omega), M0.below⟩
set_option maxHeartbeats 4000000 in
theorem aCf (w : World) (b : Body) (hb : Okb b) :
    Calls Tryz.prog 190 #[(.agg (aG b).toArray)] w (fun ex w' => ∃ v, ex = .returned v ∧ (fun v w' => v = .tuple #[.int .i32 (aFx b), .int .i32 (aEr b)] ∧ Below w.heap.size w w') v w') := by
  have hr := hb.r
  have ha := hb.a
  have hp := hb.p
  refine aK #[.tmp 2, .tmp 3] 18 Tryz.func190 rfl Tryz.results190 Tryz.ntmps190 rfl ?_
  have M0 := Mem.refl w
  refine aH (aB ?_)
  refine bM (.agg (List.toArray _)) M0 rfl rfl rfl (fun b1 w1 M1 => ?_)
  refine aA (aE (.int _ _) rfl) rfl rfl ?_
  refine aA (aE (.int _ _) rfl) rfl rfl ?_
  refine aD (aF (aH ?_))
  refine bP [(0, 0), (1, 0), (2, 1), (4, 0), (5, 1), (7, 0), (8, 0), (9, 1), (11, 0), (12, 1), (3, 2), (6, 0), (10, 2), (13, 0), (14, 0), (15, 0)] mixed rfl (by kernel_rfl) (fun w2 hb2 hh2 => ?_)
  have M2 := M1.drew hb2 hh2
  refine aR rfl rfl rfl (fun _ => aI 2 jE rfl) ?_
  refine aR rfl rfl rfl (fun _ => aI 0 dO rfl) ?_
  refine cD rfl rfl rfl (aV 0 (.int _ _) aZ M2 rfl rfl rfl) ?_
  refine aR rfl rfl rfl (fun _ => aI 1 kW rfl) ?_
  refine cD rfl rfl rfl (aV 0 (.int _ _) aZ M2 rfl rfl rfl) ?_
  refine aR rfl rfl rfl (fun _ => aI 2 jE rfl) ?_
  refine aR rfl rfl rfl (fun _ => aI 1 dJ rfl) ?_
  refine cD rfl rfl rfl (aV 0 (.int _ _) aZ M2 rfl rfl rfl) ?_
  refine aR rfl rfl rfl (fun _ => aI 1 kW rfl) ?_
  refine cD rfl rfl rfl (aV 0 (.int _ _) aZ M2 rfl rfl rfl) ?_
  refine dM [false, false, false, true] rfl (by kernel_rfl) ?_
  refine aL aOm rfl rfl rfl ?_
  refine (aCb _ _ (by omega) (by omega)).mono ?_
  rintro _ w3 ⟨v3, rfl, ⟨rfl, hb3⟩⟩
  refine ⟨_, rfl, ?_⟩
  have M3 := M2.callB hb3
  refine aD (aF ⟨(iQ (cU rfl (aV 0 (.int _ _) aZ M3 rfl rfl rfl)) (iQ (cU rfl (aV 0 (.int _ _) aZ M3 rfl rfl rfl)) (iQ (cU rfl (aV 0 (.int _ _) aZ M3 rfl rfl rfl)) cX))), ?_⟩)
  refine aR rfl rfl rfl (fun _ => fG rfl rfl (iP _ (by omega) (by omega))) ?_
  refine dM [false, true, false] rfl (by kernel_rfl) ?_
  refine aL aOm rfl rfl rfl ?_
  refine (aCb _ _ (by omega) (by omega)).mono ?_
  rintro _ w4 ⟨v4, rfl, ⟨rfl, hb4⟩⟩
  refine ⟨_, rfl, ?_⟩
  have M4 := M3.callB hb4
  refine aD (aF ⟨(iQ (cU rfl (aV 0 (.int _ _) aZ M4 rfl rfl rfl)) (iQ (cU rfl (aV 0 (.int _ _) aZ M4 rfl rfl rfl)) cX)), ?_⟩)
  refine aR rfl rfl rfl (fun _ => fG rfl rfl (iP _ (by omega) (by omega))) ?_
  refine aR rfl rfl rfl (fun _ => aE (.int _ _) rfl) ?_
  refine aR rfl rfl rfl (fun _ => aE (.int _ _) rfl) ?_
  refine cB ?_
  refine aF (aS ?_)
  refine fV (.int _ _) (.int _ _) rfl rfl ?_
  exact ⟨rfl, M4.below⟩
set_option maxHeartbeats 4000000 in
theorem aWu (w : World) (b : Body) (hb : Okb b) :
    Calls Tryz.prog 160 #[(.agg (aG b).toArray)] w (fun ex w' => ∃ v, ex = .returned v ∧ (fun v w' => v = (.agg (cT (dQ b)).toArray) ∧ Below w.heap.size w w') v w') := by
  have hr := hb.r
  have ha := hb.a
  have hp := hb.p
  have he := aBe hb
  refine aK #[.cell 2 193] 31 Tryz.func160 rfl Tryz.results160 Tryz.ntmps160 rfl ?_
  have M0 := Mem.refl w
  refine aH (aB ?_)
  refine bM (.agg (List.toArray _)) M0 rfl rfl rfl (fun b1 w1 M1 => ?_)
  refine aU zY M1 rfl rfl (fun b2 w2 M2 => ?_)
  refine aD (aF (aH (aB ?_)))
  refine aA (bE 0 bO M2 rfl rfl rfl) rfl rfl ?_
  refine aL aWi rfl rfl rfl ?_
  refine (aCf _ b hb).mono ?_
  rintro _ w3 ⟨v3, rfl, ⟨rfl, hb3⟩⟩
  refine ⟨_, rfl, ?_⟩
  have M3 := M2.callB hb3
  refine aA (aC (.tuple (List.toArray _)) rfl) rfl rfl ?_
  refine aA (bB (.int _ _) rfl rfl) rfl rfl ?_
  refine aA (bB (.int _ _) rfl rfl) rfl rfl ?_
  refine aA (aE (.int _ _) rfl) rfl rfl ?_
  refine aA (aE (.int _ _) rfl) rfl rfl ?_
  refine aD (aF (aH (aB ?_)))
  refine aA (aI 6 eK rfl) rfl rfl ?_
  refine aA (aI 0 dO rfl) rfl rfl ?_
  refine aA (aV 0 (.int _ _) aZ M3 rfl rfl rfl) rfl rfl ?_
  refine aA (aC (.int _ _) rfl) rfl rfl ?_
  refine aA (iZ rfl rfl (iP _ (by omega) (by omega))) rfl rfl ?_
  refine aA (aI 6 eK rfl) rfl rfl ?_
  refine aA (aI 1 dJ rfl) rfl rfl ?_
  refine aA (aV 0 (.int _ _) aZ M3 rfl rfl rfl) rfl rfl ?_
  refine aA (aC (.int _ _) rfl) rfl rfl ?_
  refine aA (iZ rfl rfl (iP _ (by omega) (by omega))) rfl rfl ?_
  refine aA (aI 6 eK rfl) rfl rfl ?_
  refine aA (aI 0 dO rfl) rfl rfl ?_
  refine aA (aV 0 (.int _ _) aZ M3 rfl rfl rfl) rfl rfl ?_
  refine aA (aC (.int _ _) rfl) rfl rfl ?_
  refine aA (fG rfl rfl (iP _ (by omega) (by omega))) rfl rfl ?_
  refine aA (aI 6 eK rfl) rfl rfl ?_
  refine aA (aI 1 dJ rfl) rfl rfl ?_
  refine aA (aV 0 (.int _ _) aZ M3 rfl rfl rfl) rfl rfl ?_
  refine aA (aC (.int _ _) rfl) rfl rfl ?_
  refine aA (fG rfl rfl (iP _ (by omega) (by omega))) rfl rfl ?_
  refine aA (cI [(0, .int _ _), (1, .int _ _), (2, .int _ _), (3, .int _ _)] _ yP rfl rfl) rfl rfl ?_
  refine bL 1 _ gK M3 rfl rfl rfl rfl rfl (aW rfl) rfl (fun w4 M4 => ?_)
  refine aD (aF (aS ?_))
  refine kC 1 gK M4 rfl rfl rfl ?_
  exact ⟨rfl, M4.below⟩
set_option maxHeartbeats 4000000 in
theorem aDm (w : World) (b : Body) (hb : Okb b) :
    Calls Tryz.prog 52 #[(.agg (aG b).toArray)] w (fun ex w' => ∃ v, ex = .returned v ∧ (fun v w' => v = (.agg (cT (dQ b)).toArray) ∧ Below w.heap.size w w') v w') := by
  have hr := hb.r
  have ha := hb.a
  have hp := hb.p
  have he := aBe hb
  refine aK #[.cell 2 94] 40 Tryz.func52 rfl Tryz.results52 Tryz.ntmps52 rfl ?_
  have M0 := Mem.refl w
  refine aH (aB ?_)
  refine bM (.agg (List.toArray _)) M0 rfl rfl rfl (fun b1 w1 M1 => ?_)
  refine aU aWb M1 rfl rfl (fun b2 w2 M2 => ?_)
  refine aD (aF (aH ?_))
  refine bP [(0, 0), (1, 0), (2, 1), (4, 0), (5, 1), (3, 2), (6, 0), (7, 0)] mixed rfl (by kernel_rfl) (fun w3 hb3 hh3 => ?_)
  have M3 := M2.drew hb3 hh3
  refine aR rfl rfl rfl (fun _ => aI 2 jE rfl) ?_
  refine aR rfl rfl rfl (fun _ => aI 0 dO rfl) ?_
  refine cD rfl rfl rfl (aV 0 (.int _ _) aZ M3 rfl rfl rfl) ?_
  refine aR rfl rfl rfl (fun _ => aI 1 kW rfl) ?_
  refine cD rfl rfl rfl (aV 0 (.int _ _) aZ M3 rfl rfl rfl) ?_
  refine dM [false, true] rfl (by kernel_rfl) ?_
  refine aL aTk rfl rfl rfl ?_
  refine (yN _ _ (by omega) (by omega)).mono ?_
  rintro _ w4 ⟨v4, rfl, ⟨rfl, hb4⟩⟩
  refine ⟨_, rfl, ?_⟩
  have M4 := M3.callB hb4
  refine aD (aF ⟨(iQ (cU rfl (aV 0 (.int _ _) aZ M4 rfl rfl rfl)) cX), ?_⟩)
  refine aR rfl rfl rfl (fun _ => fG rfl rfl (iP _ (by omega) (by omega))) ?_
  refine gM 11 (.int .i32 (aFx b)) (iE rfl) ?_
  refine aR rfl rfl rfl (fun _ => aE (.int _ _) rfl) ?_
  refine cB ?_
  refine aF (aH ?_)
  refine bP [(0, 0), (1, 0), (2, 1), (4, 0), (5, 1), (3, 2), (6, 0), (7, 0)] mixed rfl (by kernel_rfl) (fun w5 hb5 hh5 => ?_)
  have M5 := M4.drew hb5 hh5
  refine aR rfl rfl rfl (fun _ => aI 2 jE rfl) ?_
  refine aR rfl rfl rfl (fun _ => aI 1 dJ rfl) ?_
  refine cD rfl rfl rfl (aV 0 (.int _ _) aZ M5 rfl rfl rfl) ?_
  refine aR rfl rfl rfl (fun _ => aI 1 kW rfl) ?_
  refine cD rfl rfl rfl (aV 0 (.int _ _) aZ M5 rfl rfl rfl) ?_
  refine dM [false, true] rfl (by kernel_rfl) ?_
  refine aL aTk rfl rfl rfl ?_
  refine (yN _ _ (by omega) (by omega)).mono ?_
  rintro _ w6 ⟨v6, rfl, ⟨rfl, hb6⟩⟩
  refine ⟨_, rfl, ?_⟩
  have M6 := M5.callB hb6
  refine aD (aF ⟨(iQ (cU rfl (aV 0 (.int _ _) aZ M6 rfl rfl rfl)) cX), ?_⟩)
  refine aR rfl rfl rfl (fun _ => fG rfl rfl (iP _ (by omega) (by omega))) ?_
  refine gM 18 (.int .i32 (aEr b)) (iE rfl) ?_
  refine aR rfl rfl rfl (fun _ => aE (.int _ _) rfl) ?_
  refine cB ?_
  refine aF (aH (aB ?_))
  refine aA (aI 6 eK rfl) rfl rfl ?_
  refine aA (aI 0 dO rfl) rfl rfl ?_
  refine aA (aV 0 (.int _ _) aZ M6 rfl rfl rfl) rfl rfl ?_
  refine aA (aC (.int _ _) rfl) rfl rfl ?_
  refine aA (iZ rfl rfl (iP _ (by omega) (by omega))) rfl rfl ?_
  refine aA (aI 6 eK rfl) rfl rfl ?_
  refine aA (aI 1 dJ rfl) rfl rfl ?_
  refine aA (aV 0 (.int _ _) aZ M6 rfl rfl rfl) rfl rfl ?_
  refine aA (aC (.int _ _) rfl) rfl rfl ?_
  refine aA (iZ rfl rfl (iP _ (by omega) (by omega))) rfl rfl ?_
  refine aA (aI 6 eK rfl) rfl rfl ?_
  refine aA (aI 0 dO rfl) rfl rfl ?_
  refine aA (aV 0 (.int _ _) aZ M6 rfl rfl rfl) rfl rfl ?_
  refine aA (aC (.int _ _) rfl) rfl rfl ?_
  refine aA (fG rfl rfl (iP _ (by omega) (by omega))) rfl rfl ?_
  refine aA (aI 6 eK rfl) rfl rfl ?_
  refine aA (aI 1 dJ rfl) rfl rfl ?_
  refine aA (aV 0 (.int _ _) aZ M6 rfl rfl rfl) rfl rfl ?_
  refine aA (aC (.int _ _) rfl) rfl rfl ?_
  refine aA (fG rfl rfl (iP _ (by omega) (by omega))) rfl rfl ?_
  refine aA (cI [(0, .int _ _), (1, .int _ _), (2, .int _ _), (3, .int _ _)] _ aPj rfl rfl) rfl rfl ?_
  refine bL 1 _ aIe M6 rfl rfl rfl rfl rfl (aW rfl) rfl (fun w7 M7 => ?_)
  refine aD (aF (aS ?_))
  refine kC 1 aIe M7 rfl rfl rfl ?_
  exact ⟨rfl, M7.below⟩
set_option maxHeartbeats 4000000 in
theorem qX (w : World) (a : Bx) :
    Calls Tryz.prog 192 #[(.agg (cT a).toArray)] w (fun ex w' => ∃ v, ex = .returned v ∧ (fun v w' => v = .bool (decide (dY a)) ∧ Below w.heap.size w w') v w') := by
  refine aK #[.tmp 2] 15 Tryz.func192 rfl Tryz.results192 Tryz.ntmps192 rfl ?_
  have M0 := Mem.refl w
  refine aH (aB ?_)
  refine bM (.agg (List.toArray _)) M0 rfl rfl rfl (fun b1 w1 M1 => ?_)
  refine aA (aE (.bool false) rfl) rfl rfl ?_
  refine aD (aF (aH (aB ?_)))
  refine aA (aI 0 pO rfl) rfl rfl ?_
  refine aA (aV 0 (.int _ _) aZ M1 rfl rfl rfl) rfl rfl ?_
  refine aA (aI 2 qC rfl) rfl rfl ?_
  refine aA (aV 0 (.int _ _) aZ M1 rfl rfl rfl) rfl rfl ?_
  refine aA (aO (.bool (decide _)) rfl rfl rfl) rfl rfl ?_
  refine aA (aC (.bool (decide _)) rfl) rfl rfl ?_
  refine cW 8 rfl (fun g8 => ?_) (fun g8 => ?_)
  · refine aN rfl rfl ?_
    refine aN rfl rfl ?_
    refine aN rfl rfl ?_
    refine aN rfl rfl ?_
    refine aN rfl rfl ?_
    refine aA (bI true (.bool true) rfl rfl) rfl rfl ?_
    refine aA (aE (.bool true) rfl) rfl rfl ?_
    refine aD (aF (aS ?_))
    refine cG (.bool true) rfl ?_
    exact ⟨by unfold dY; first | exact bT (by omega) | exact bD (by omega), M1.below⟩
  · refine aA (aI 1 pN rfl) rfl rfl ?_
    refine aA (aV 0 (.int _ _) aZ M1 rfl rfl rfl) rfl rfl ?_
    refine aA (aI 3 pU rfl) rfl rfl ?_
    refine aA (aV 0 (.int _ _) aZ M1 rfl rfl rfl) rfl rfl ?_
    refine aA (aO (.bool (decide _)) rfl rfl rfl) rfl rfl ?_
    refine aA (bI false (.bool (decide _)) rfl rfl) rfl rfl ?_
    refine aA (aE (.bool (decide _)) rfl) rfl rfl ?_
    refine aD (aF (aS ?_))
    refine cG (.bool (decide _)) rfl ?_
    exact ⟨by unfold dY; first | exact bT (by omega) | exact bD (by omega), M1.below⟩
set_option maxHeartbeats 4000000 in
theorem sC (w : World) (a : Bx) :
    Calls Tryz.prog 80 #[(.agg (cT a).toArray)] w (fun ex w' => ∃ v, ex = .returned v ∧ (fun v w' => v = .bool (decide (dY a)) ∧ Below w.heap.size w w') v w') := by
  refine aK #[.tmp 2] 15 Tryz.func80 rfl Tryz.results80 Tryz.ntmps80 rfl ?_
  have M0 := Mem.refl w
  refine aH (aB ?_)
  refine bM (.agg (List.toArray _)) M0 rfl rfl rfl (fun b1 w1 M1 => ?_)
  refine aA (aE (.bool false) rfl) rfl rfl ?_
  refine aD (aF (aH (aB ?_)))
  refine aA (aI 0 aAn rfl) rfl rfl ?_
  refine aA (aV 0 (.int _ _) aZ M1 rfl rfl rfl) rfl rfl ?_
  refine aA (aI 2 zN rfl) rfl rfl ?_
  refine aA (aV 0 (.int _ _) aZ M1 rfl rfl rfl) rfl rfl ?_
  refine aA (aO (.bool (decide _)) rfl rfl rfl) rfl rfl ?_
  refine aA (aC (.bool (decide _)) rfl) rfl rfl ?_
  refine cW 8 rfl (fun g8 => ?_) (fun g8 => ?_)
  · refine aN rfl rfl ?_
    refine aN rfl rfl ?_
    refine aN rfl rfl ?_
    refine aN rfl rfl ?_
    refine aN rfl rfl ?_
    refine aA (bI true (.bool true) rfl rfl) rfl rfl ?_
    refine aA (aE (.bool true) rfl) rfl rfl ?_
    refine aD (aF (aS ?_))
    refine cG (.bool true) rfl ?_
    exact ⟨by unfold dY; first | exact bT (by omega) | exact bD (by omega), M1.below⟩
  · refine aA (aI 1 aAs rfl) rfl rfl ?_
    refine aA (aV 0 (.int _ _) aZ M1 rfl rfl rfl) rfl rfl ?_
    refine aA (aI 3 aAa rfl) rfl rfl ?_
    refine aA (aV 0 (.int _ _) aZ M1 rfl rfl rfl) rfl rfl ?_
    refine aA (aO (.bool (decide _)) rfl rfl rfl) rfl rfl ?_
    refine aA (bI false (.bool (decide _)) rfl rfl) rfl rfl ?_
    refine aA (aE (.bool (decide _)) rfl) rfl rfl ?_
    refine aD (aF (aS ?_))
    refine cG (.bool (decide _)) rfl ?_
    exact ⟨by unfold dY; first | exact bT (by omega) | exact bD (by omega), M1.below⟩
set_option maxHeartbeats 4000000 in
theorem aOr (w : World) (N : Rd w 4 (some ⟨3, 0, none⟩) 1 [cT iJ]) (a b : Bx) :
    Calls Tryz.prog 193 #[(.agg (cT a).toArray), (.agg (cT b).toArray)] w (fun ex w' => ∃ v, ex = .returned v ∧ (fun v w' => v = (.agg (cT (xY a b)).toArray) ∧ Below w.heap.size w w') v w') := by
  refine aK #[.cell 4 193] 31 Tryz.func193 rfl Tryz.results193 Tryz.ntmps193 rfl ?_
  have M0 := Mem.refl w
  refine aH (aB ?_)
  refine bM (.agg (List.toArray _)) M0 rfl rfl rfl (fun b1 w1 M1 => ?_)
  refine bM (.agg (List.toArray _)) M1 rfl rfl rfl (fun b2 w2 M2 => ?_)
  refine aU zY M2 rfl rfl (fun b3 w3 M3 => ?_)
  refine aD (aF (aH (aB ?_)))
  refine aA (aI 0 pO rfl) rfl rfl ?_
  refine aA (aV 0 (.int _ _) aZ M3 rfl rfl rfl) rfl rfl ?_
  refine aA (aI 0 pO rfl) rfl rfl ?_
  refine aA (aV 1 (.int _ _) aZ M3 rfl rfl rfl) rfl rfl ?_
  refine aA (lL rfl rfl ) rfl rfl ?_
  refine aA (aI 1 pN rfl) rfl rfl ?_
  refine aA (aV 0 (.int _ _) aZ M3 rfl rfl rfl) rfl rfl ?_
  refine aA (aI 1 pN rfl) rfl rfl ?_
  refine aA (aV 1 (.int _ _) aZ M3 rfl rfl rfl) rfl rfl ?_
  refine aA (lL rfl rfl ) rfl rfl ?_
  refine aA (aI 2 qC rfl) rfl rfl ?_
  refine aA (aV 0 (.int _ _) aZ M3 rfl rfl rfl) rfl rfl ?_
  refine aA (aI 2 qC rfl) rfl rfl ?_
  refine aA (aV 1 (.int _ _) aZ M3 rfl rfl rfl) rfl rfl ?_
  refine aA (wC rfl rfl ) rfl rfl ?_
  refine aA (aI 3 pU rfl) rfl rfl ?_
  refine aA (aV 0 (.int _ _) aZ M3 rfl rfl rfl) rfl rfl ?_
  refine aA (aI 3 pU rfl) rfl rfl ?_
  refine aA (aV 1 (.int _ _) aZ M3 rfl rfl rfl) rfl rfl ?_
  refine aA (wC rfl rfl ) rfl rfl ?_
  refine aA (cI [(0, .int _ _), (1, .int _ _), (2, .int _ _), (3, .int _ _)] _ yP rfl rfl) rfl rfl ?_
  refine aU zY M3 rfl rfl (fun b4 w4 M4 => ?_)
  refine bL 3 _ gK M4 rfl rfl rfl rfl rfl (aW rfl) rfl (fun w5 M5 => ?_)
  refine aD (aF (aH (aH (aB ?_))))
  refine aA (bE 3 gK M5 rfl rfl rfl) rfl rfl ?_
  refine aL aFt rfl rfl rfl ?_
  refine (qX _ ⟨max a.x0 b.x0, max a.y0 b.y0, min a.x1 b.x1, min a.y1 b.y1⟩).mono ?_
  rintro _ w6 ⟨v6, rfl, ⟨rfl, hb6⟩⟩
  refine ⟨_, rfl, ?_⟩
  have M6 := M5.callB hb6
  refine aD (aF ?_)
  refine aY rfl (fun h28 => ?_) (fun h28 => ?_)
  · refine aH (aB ?_)
    refine aA (pB (k := 0) (o := 0) _ gK (N.mem M6) (show ([cT iJ] : List (List Value))[0]? = some (cT iJ) from rfl) rfl rfl rfl) rfl rfl ?_
    refine bL 2 _ gK M6 rfl rfl rfl rfl rfl (aW rfl) rfl (fun w7 M7 => ?_)
    refine aD (aF (aS (cN ?_)))
    refine kC 2 gK M7 rfl rfl rfl ?_
    exact ⟨by unfold xY; rw [if_pos h28]; rfl, M7.below⟩
  · refine aP (aF (aH (aB ?_)))
    refine aA (bE 3 gK M6 rfl rfl rfl) rfl rfl ?_
    refine bL 2 _ gK M6 rfl rfl rfl rfl rfl (aW rfl) rfl (fun w8 M8 => ?_)
    refine aD (aF (aS ?_))
    refine kC 2 gK M8 rfl rfl rfl ?_
    exact ⟨by unfold xY; rw [if_neg h28]; rfl, M8.below⟩
set_option maxHeartbeats 4000000 in
theorem aCt (w : World) (N : Rd w 4 (some ⟨3, 0, none⟩) 1 [cT iJ]) (a b : Bx) :
    Calls Tryz.prog 164 #[(.agg (cT a).toArray), (.agg (cT b).toArray)] w (fun ex w' => ∃ v, ex = .returned v ∧ (fun v w' => v = .bool (decide (qU a b)) ∧ Below w.heap.size w w') v w') := by
  refine aK #[.tmp 4] 10 Tryz.func164 rfl Tryz.results164 Tryz.ntmps164 rfl ?_
  have M0 := Mem.refl w
  refine aH (aB ?_)
  refine bM (.agg (List.toArray _)) M0 rfl rfl rfl (fun b1 w1 M1 => ?_)
  refine bM (.agg (List.toArray _)) M1 rfl rfl rfl (fun b2 w2 M2 => ?_)
  refine aA (aE (.bool false) rfl) rfl rfl ?_
  refine aD (aF (aH (aB ?_)))
  refine aA (bE 0 gK M2 rfl rfl rfl) rfl rfl ?_
  refine aA (bE 1 gK M2 rfl rfl rfl) rfl rfl ?_
  refine aL aWz rfl rfl rfl ?_
  refine (aOr _ (N.mem M2) a b).mono ?_
  rintro _ w3 ⟨v3, rfl, ⟨rfl, hb3⟩⟩
  refine ⟨_, rfl, ?_⟩
  have M3 := M2.callB hb3
  refine aL aFt rfl rfl rfl ?_
  refine (qX _ (xY a b)).mono ?_
  rintro _ w4 ⟨v4, rfl, ⟨rfl, hb4⟩⟩
  refine ⟨_, rfl, ?_⟩
  have M4 := M3.callB hb4
  refine aA (oS rfl) rfl rfl ?_
  refine aA (aE (.bool (decide _)) rfl) rfl rfl ?_
  refine aD (aF (aS ?_))
  refine cG (.bool (decide _)) rfl ?_
  exact ⟨bD (aMu a b), M4.below⟩
set_option maxHeartbeats 4000000 in
theorem xC (w : World) (a b : Bx) :
    Calls Tryz.prog 51 #[(.agg (cT a).toArray), (.agg (cT b).toArray)] w (fun ex w' => ∃ v, ex = .returned v ∧ (fun v w' => v = .bool (decide (qU a b)) ∧ Below w.heap.size w w') v w') := by
  refine aK #[.tmp 4] 37 Tryz.func51 rfl Tryz.results51 Tryz.ntmps51 rfl ?_
  have M0 := Mem.refl w
  refine aH (aB ?_)
  refine bM (.agg (List.toArray _)) M0 rfl rfl rfl (fun b1 w1 M1 => ?_)
  refine bM (.agg (List.toArray _)) M1 rfl rfl rfl (fun b2 w2 M2 => ?_)
  refine aA (aE (.bool false) rfl) rfl rfl ?_
  refine aD (aF (aH (aH (aB ?_))))
  refine aA (bE 0 aIe M2 rfl rfl rfl) rfl rfl ?_
  refine aL aTb rfl rfl rfl ?_
  refine (sC _ a).mono ?_
  rintro _ w3 ⟨v3, rfl, ⟨rfl, hb3⟩⟩
  refine ⟨_, rfl, ?_⟩
  have M3 := M2.callB hb3
  refine aA (aC (.bool (decide _)) rfl) rfl rfl ?_
  refine cW 7 rfl (fun g7 => ?_) (fun g7 => ?_)
  · refine aN rfl rfl ?_
    refine aN rfl rfl ?_
    refine aA (bI true (.bool true) rfl rfl) rfl rfl ?_
    refine aD (aF ?_)
    refine dS rfl ?_
    refine aH (aB ?_)
    refine aA (aE (.bool false) rfl) rfl rfl ?_
    refine aD (aF (aS (cN ?_)))
    refine cG (.bool false) rfl ?_
    exact ⟨by unfold qU; unfold dY at *; first | exact bF (by omega) | exact bT (by omega) | exact bD (by omega), M3.below⟩
  · refine aA (bE 1 aIe M3 rfl rfl rfl) rfl rfl ?_
    refine aL aTb rfl rfl rfl ?_
    refine (sC _ b).mono ?_
    rintro _ w4 ⟨v4, rfl, ⟨rfl, hb4⟩⟩
    refine ⟨_, rfl, ?_⟩
    have M4 := M3.callB hb4
    refine aA (bI false (.bool (decide _)) rfl rfl) rfl rfl ?_
    refine aD (aF ?_)
    refine aY rfl (fun h10 => ?_) (fun h10 => ?_)
    · refine aH (aB ?_)
      refine aA (aE (.bool false) rfl) rfl rfl ?_
      refine aD (aF (aS (cN ?_)))
      refine cG (.bool false) rfl ?_
      exact ⟨by unfold qU; unfold dY at *; first | exact bF (by omega) | exact bT (by omega) | exact bD (by omega), M4.below⟩
    · refine aP (aF (aH (aB ?_)))
      refine aA (aI 0 aAn rfl) rfl rfl ?_
      refine aA (aV 0 (.int _ _) aZ M4 rfl rfl rfl) rfl rfl ?_
      refine aA (aI 2 zN rfl) rfl rfl ?_
      refine aA (aV 1 (.int _ _) aZ M4 rfl rfl rfl) rfl rfl ?_
      refine aA (aO (.bool (decide _)) rfl rfl rfl) rfl rfl ?_
      refine aA (aC (.bool (decide _)) rfl) rfl rfl ?_
      refine cW 16 rfl (fun g16 => ?_) (fun g16 => ?_)
      · refine aA (aI 0 aAn rfl) rfl rfl ?_
        refine aA (aV 1 (.int _ _) aZ M4 rfl rfl rfl) rfl rfl ?_
        refine aA (aI 2 zN rfl) rfl rfl ?_
        refine aA (aV 0 (.int _ _) aZ M4 rfl rfl rfl) rfl rfl ?_
        refine aA (aO (.bool (decide _)) rfl rfl rfl) rfl rfl ?_
        refine aA (bI true (.bool (decide _)) rfl rfl) rfl rfl ?_
        refine aA (aC (.bool (decide _)) rfl) rfl rfl ?_
        refine cW 23 rfl (fun g23 => ?_) (fun g23 => ?_)
        · refine aA (aI 1 aAs rfl) rfl rfl ?_
          refine aA (aV 0 (.int _ _) aZ M4 rfl rfl rfl) rfl rfl ?_
          refine aA (aI 3 aAa rfl) rfl rfl ?_
          refine aA (aV 1 (.int _ _) aZ M4 rfl rfl rfl) rfl rfl ?_
          refine aA (aO (.bool (decide _)) rfl rfl rfl) rfl rfl ?_
          refine aA (bI true (.bool (decide _)) rfl rfl) rfl rfl ?_
          refine aA (aC (.bool (decide _)) rfl) rfl rfl ?_
          refine cW 30 rfl (fun g30 => ?_) (fun g30 => ?_)
          · refine aA (aI 1 aAs rfl) rfl rfl ?_
            refine aA (aV 1 (.int _ _) aZ M4 rfl rfl rfl) rfl rfl ?_
            refine aA (aI 3 aAa rfl) rfl rfl ?_
            refine aA (aV 0 (.int _ _) aZ M4 rfl rfl rfl) rfl rfl ?_
            refine aA (aO (.bool (decide _)) rfl rfl rfl) rfl rfl ?_
            refine aA (bI true (.bool (decide _)) rfl rfl) rfl rfl ?_
            refine aA (aE (.bool (decide _)) rfl) rfl rfl ?_
            refine aD (aF (aS ?_))
            refine cG (.bool (decide _)) rfl ?_
            exact ⟨by unfold qU; unfold dY at *; first | exact bF (by omega) | exact bT (by omega) | exact bD (by omega), M4.below⟩
          · refine aN rfl rfl ?_
            refine aN rfl rfl ?_
            refine aN rfl rfl ?_
            refine aN rfl rfl ?_
            refine aN rfl rfl ?_
            refine aA (bI false (.bool false) rfl rfl) rfl rfl ?_
            refine aA (aE (.bool false) rfl) rfl rfl ?_
            refine aD (aF (aS ?_))
            refine cG (.bool false) rfl ?_
            exact ⟨by unfold qU; unfold dY at *; first | exact bF (by omega) | exact bT (by omega) | exact bD (by omega), M4.below⟩
        · refine aN rfl rfl ?_
          refine aN rfl rfl ?_
          refine aN rfl rfl ?_
          refine aN rfl rfl ?_
          refine aN rfl rfl ?_
          refine aA (bI false (.bool false) rfl rfl) rfl rfl ?_
          refine aA (aC (.bool false) rfl) rfl rfl ?_
          refine aN rfl rfl ?_
          refine aN rfl rfl ?_
          refine aN rfl rfl ?_
          refine aN rfl rfl ?_
          refine aN rfl rfl ?_
          refine aA (bI false (.bool false) rfl rfl) rfl rfl ?_
          refine aA (aE (.bool false) rfl) rfl rfl ?_
          refine aD (aF (aS ?_))
          refine cG (.bool false) rfl ?_
          exact ⟨by unfold qU; unfold dY at *; first | exact bF (by omega) | exact bT (by omega) | exact bD (by omega), M4.below⟩
      · refine aN rfl rfl ?_
        refine aN rfl rfl ?_
        refine aN rfl rfl ?_
        refine aN rfl rfl ?_
        refine aN rfl rfl ?_
        refine aA (bI false (.bool false) rfl rfl) rfl rfl ?_
        refine aA (aC (.bool false) rfl) rfl rfl ?_
        refine aN rfl rfl ?_
        refine aN rfl rfl ?_
        refine aN rfl rfl ?_
        refine aN rfl rfl ?_
        refine aN rfl rfl ?_
        refine aA (bI false (.bool false) rfl rfl) rfl rfl ?_
        refine aA (aC (.bool false) rfl) rfl rfl ?_
        refine aN rfl rfl ?_
        refine aN rfl rfl ?_
        refine aN rfl rfl ?_
        refine aN rfl rfl ?_
        refine aN rfl rfl ?_
        refine aA (bI false (.bool false) rfl rfl) rfl rfl ?_
        refine aA (aE (.bool false) rfl) rfl rfl ?_
        refine aD (aF (aS ?_))
        refine cG (.bool false) rfl ?_
        exact ⟨by unfold qU; unfold dY at *; first | exact bF (by omega) | exact bT (by omega) | exact bD (by omega), M4.below⟩
end Go.Proofs.YtlmcphcgiclanaaGreatDoor

namespace Go.Proofs.YtlmcphcgiclanaaGreatDoor
open Go.Bil
open Go.RowKit (Below)
open Go.Proofs
set_option maxHeartbeats 4000000 in
theorem aGw (w : World) (x y : Int) :
    Calls Tryz.prog 229 #[.agg [.int .i32 x, .int .i32 y].toArray] w (fun ex w' => ∃ v, ex = .returned v ∧ (fun v w' => v = (.agg (bY (kG x, kG y)).toArray) ∧ Below w.heap.size w w') v w') := by
  refine aK #[.cell 2 226] 10 Tryz.func229 rfl Tryz.results229 Tryz.ntmps229 rfl ?_
  have M0 := Mem.refl w
  refine aH (aB ?_)
  refine bM (.agg (List.toArray _)) M0 rfl rfl rfl (fun b1 w1 M1 => ?_)
  refine aU mD M1 rfl rfl (fun b2 w2 M2 => ?_)
  refine aD (aF (aH (aB ?_)))
  refine aA (aI 0 dO rfl) rfl rfl ?_
  refine aA (aV 0 (.int _ _) aZ M2 rfl rfl rfl) rfl rfl ?_
  refine aA (iG rfl rfl (by decide)) rfl rfl ?_
  refine aQ 5 (.int .i32 (kG x)) (iE (aTw x)) ?_
  refine aA (aI 1 dJ rfl) rfl rfl ?_
  refine aA (aV 0 (.int _ _) aZ M2 rfl rfl rfl) rfl rfl ?_
  refine aA (iG rfl rfl (by decide)) rfl rfl ?_
  refine aQ 8 (.int .i32 (kG y)) (iE (aTw y)) ?_
  refine aA (cI [(0, .int _ _), (1, .int _ _)] _ yX rfl rfl) rfl rfl ?_
  refine bL 1 _ fW M2 rfl rfl rfl rfl rfl (aW rfl) rfl (fun w3 M3 => ?_)
  refine aD (aF (aS ?_))
  refine kC 1 fW M3 rfl rfl rfl ?_
  exact ⟨rfl, M3.below⟩
set_option maxHeartbeats 4000000 in
theorem aKs (w : World) (a : Bx) :
    Calls Tryz.prog 216 #[(.agg (cT a).toArray)] w (fun ex w' => ∃ v, ex = .returned v ∧ (fun v w' => v = .tuple #[(.agg (bY (loC a)).toArray), (.agg (bY (hiC a)).toArray), .bool (decide (¬ dY a))] ∧ Below w.heap.size w w') v w') := by
  refine aK #[.cell 2 226, .cell 3 226, .tmp 4] 21 Tryz.func216 rfl Tryz.results216 Tryz.ntmps216 rfl ?_
  have M0 := Mem.refl w
  refine aH (aB ?_)
  refine bM (.agg (List.toArray _)) M0 rfl rfl rfl (fun b1 w1 M1 => ?_)
  refine aU mD M1 rfl rfl (fun b2 w2 M2 => ?_)
  refine aU mD M2 rfl rfl (fun b3 w3 M3 => ?_)
  refine aA (aE (.bool false) rfl) rfl rfl ?_
  refine aD (aF (aH (aH (aB ?_))))
  refine aA (bE 0 gK M3 rfl rfl rfl) rfl rfl ?_
  refine aL aFt rfl rfl rfl ?_
  refine (qX _ a).mono ?_
  rintro _ w4 ⟨v4, rfl, ⟨rfl, hb4⟩⟩
  refine ⟨_, rfl, ?_⟩
  have M4 := M3.callB hb4
  refine aD (aF ?_)
  refine aY rfl (fun h6 => ?_) (fun h6 => ?_)
  · refine aH ?_
    refine bP [(0, 1), (1, 1), (2, 2), (3, 2), (4, 0)] mixed rfl (by kernel_rfl) (fun w5 hb5 hh5 => ?_)
    have M5 := M4.drew hb5 hh5
    refine cD rfl rfl rfl (bE 1 fW M5 rfl rfl rfl) ?_
    refine cD rfl rfl rfl (bE 2 fW M5 rfl rfl rfl) ?_
    refine dM [false, true] rfl (by kernel_rfl) ?_
    refine bL 1 _ fW M5 rfl rfl rfl rfl rfl (aW rfl) rfl (fun w6 M6 => ?_)
    refine aD (aF ⟨(iQ (cU rfl (bE 2 fW M6 rfl rfl rfl)) cX), ?_⟩)
    refine dM [true] rfl (by kernel_rfl) ?_
    refine bL 2 _ fW M6 rfl rfl rfl rfl rfl (aW rfl) rfl (fun w7 M7 => ?_)
    refine aD (aF ⟨cX, ?_⟩)
    refine aR rfl rfl rfl (fun _ => aE (.bool false) rfl) ?_
    refine cB ?_
    refine aF (aS (cN ?_))
    refine aTs (v3 := .bool false) 1 2 fW M7 rfl rfl rfl rfl rfl rfl rfl ?_
    exact ⟨by unfold loC hiC; rw [if_pos h6, if_pos h6, decide_eq_false (fun h => h h6)]; rfl, M7.below⟩
  · refine aP (aF (aH ?_))
    refine bP [(0, 0), (1, 1), (2, 0), (3, 1), (4, 0), (6, 0), (7, 1), (8, 0), (9, 1), (10, 0), (5, 2), (11, 2), (12, 2), (13, 2), (14, 0)] mixed rfl (by kernel_rfl) (fun w8 hb8 hh8 => ?_)
    have M8 := M4.drew hb8 hh8
    refine aR rfl rfl rfl (fun _ => aI 0 pO rfl) ?_
    refine cD rfl rfl rfl (aV 0 (.int _ _) aZ M8 rfl rfl rfl) ?_
    refine aR rfl rfl rfl (fun _ => aI 1 pN rfl) ?_
    refine cD rfl rfl rfl (aV 0 (.int _ _) aZ M8 rfl rfl rfl) ?_
    refine aR rfl rfl rfl (fun _ => cI [(0, .int _ _), (1, .int _ _)] _ eI rfl rfl) ?_
    refine aR rfl rfl rfl (fun _ => aI 2 qC rfl) ?_
    refine cD rfl rfl rfl (aV 0 (.int _ _) aZ M8 rfl rfl rfl) ?_
    refine aR rfl rfl rfl (fun _ => aI 3 pU rfl) ?_
    refine cD rfl rfl rfl (aV 0 (.int _ _) aZ M8 rfl rfl rfl) ?_
    refine aR rfl rfl rfl (fun _ => cI [(0, .int _ _), (1, .int _ _)] _ eI rfl rfl) ?_
    refine dM [false, false, true, true] rfl (by kernel_rfl) ?_
    refine aL aOa rfl rfl rfl ?_
    refine (aGw _ a.x0 a.y0).mono ?_
    rintro _ w9 ⟨v9, rfl, ⟨rfl, hb9⟩⟩
    refine ⟨_, rfl, ?_⟩
    have M9 := M8.callB hb9
    refine aD (aF ⟨(iQ (cU rfl (aV 0 (.int _ _) aZ M9 rfl rfl rfl)) (iQ (cU rfl (aV 0 (.int _ _) aZ M9 rfl rfl rfl)) cX)), ?_⟩)
    refine dM [true, true] rfl (by kernel_rfl) ?_
    refine aL aOa rfl rfl rfl ?_
    refine (aGw _ a.x1 a.y1).mono ?_
    rintro _ w10 ⟨v10, rfl, ⟨rfl, hb10⟩⟩
    refine ⟨_, rfl, ?_⟩
    have M10 := M9.callB hb10
    refine aD (aF ⟨cX, ?_⟩)
    refine dM [] rfl (by kernel_rfl) ?_
    refine bL 1 _ fW M10 rfl rfl rfl rfl rfl (aW rfl) rfl (fun w11 M11 => ?_)
    refine aD (aF ⟨cX, ?_⟩)
    refine dM [] rfl (by kernel_rfl) ?_
    refine bL 2 _ fW M11 rfl rfl rfl rfl rfl (aW rfl) rfl (fun w12 M12 => ?_)
    refine aD (aF ⟨cX, ?_⟩)
    refine aR rfl rfl rfl (fun _ => aE (.bool true) rfl) ?_
    refine cB ?_
    refine aF (aS ?_)
    refine aTs (v3 := .bool true) 1 2 fW M12 rfl rfl rfl rfl rfl rfl rfl ?_
    exact ⟨by unfold loC hiC; rw [if_neg h6, if_neg h6, decide_eq_true h6], M12.below⟩
set_option maxHeartbeats 4000000 in
theorem aGb (w : World) (a : Bx) :
    Calls Tryz.prog 191 #[(.agg (cT a).toArray)] w (fun ex w' => ∃ v, ex = .returned v ∧ (fun v w' => ∃ b1 b2 b3, v = .func (.func 217) #[] #[.pointer (some ⟨b1, 0, none⟩), .pointer (some ⟨b2, 0, none⟩), .pointer (some ⟨b3, 0, none⟩)] ∧ Mem w [] [(some b1, bc (bY (loC a)) 226), (some b3, bc (bY (hiC a)) 226), (some b2, bc [.bool (decide (¬ dY a))] 4)] w') v w') := by
  refine aK #[.tmp 2] 13 Tryz.func191 rfl Tryz.results191 Tryz.ntmps191 rfl ?_
  have M0 := Mem.refl w
  refine aH (aB ?_)
  refine bM (.agg (List.toArray _)) M0 rfl rfl rfl (fun b1 w1 M1 => ?_)
  refine aA (aE (_) rfl) rfl rfl ?_
  refine aD (aF (aH (aB ?_)))
  refine aA (bE 0 gK M1 rfl rfl rfl) rfl rfl ?_
  refine aL aWo rfl rfl rfl ?_
  refine (aKs _ a).mono ?_
  rintro _ w2 ⟨v2, rfl, ⟨rfl, hb2⟩⟩
  refine ⟨_, rfl, ?_⟩
  have M2 := M1.callB hb2
  refine aA (aC (.tuple (List.toArray _)) rfl) rfl rfl ?_
  refine aA (bB (.agg (List.toArray _)) rfl rfl) rfl rfl ?_
  refine aA (bB (.agg (List.toArray _)) rfl rfl) rfl rfl ?_
  refine aA (bB (.bool (decide _)) rfl rfl) rfl rfl ?_
  refine aU mD M2 rfl rfl (fun b3 w3 M3 => ?_)
  refine aU mD M3 rfl rfl (fun b4 w4 M4 => ?_)
  refine aU aNq M4 rfl rfl (fun b5 w5 M5 => ?_)
  refine bL 1 _ fW M5 rfl rfl rfl rfl rfl (aW rfl) rfl (fun w6 M6 => ?_)
  refine bL 2 _ fW M6 rfl rfl rfl rfl rfl (aW rfl) rfl (fun w7 M7 => ?_)
  refine eL 3 (.bool (decide _)) mL M7 rfl rfl rfl rfl rfl rfl (fun w8 M8 => ?_)
  refine aD (aF (aH (aB ?_)))
  refine aA (dL [] [.pointer _, .pointer _, .pointer _] rfl rfl) rfl rfl ?_
  refine aA (aE (.func _ _ _) rfl) rfl rfl ?_
  refine aD (aF (aS ?_))
  refine cG (.func _ _ _) rfl ?_
  exact ⟨b3, b5, b4, rfl, M8.keep [false, true, true, true]⟩
set_option maxHeartbeats 4000000 in
theorem aDi (w : World) (lo hi : Int × Int) (ok : Bool) (b1 b2 b3 : Nat) (L1 : Rd w 2 (some ⟨b1, 0, none⟩) 1 [bY lo]) (L2 : Rd w 1 (some ⟨b2, 0, none⟩) 1 [[.bool ok]]) (L3 : Rd w 2 (some ⟨b3, 0, none⟩) 1 [bY hi]) (hlo : Okc lo) (hhi : Okc hi) (lp ob : Nat) (rec : Loop) (hY : pX Tryz.prog lp ob rec 224 226 2 1048576 (fun x => ∃ a b, x = [.int .i32 a, .int .i32 b])) (r0 : Row) (hr0 : aX 226 2 r0.A r0.n r0.c [] r0.e) (hO : Own [(some lp, .loop rec), (some ob, bc [.slice r0.A r0.n r0.c] 224), r0.e] w) (hd1 : 0 < 1 → ∀ q off, (some ⟨b1, 0, none⟩ : Option Addr) = some ⟨q, off, none⟩ → q ∉ bZ [(some lp, .loop rec), (some ob, bc [.slice r0.A r0.n r0.c] 224), r0.e]) (hd2 : 0 < 1 → ∀ q off, (some ⟨b2, 0, none⟩ : Option Addr) = some ⟨q, off, none⟩ → q ∉ bZ [(some lp, .loop rec), (some ob, bc [.slice r0.A r0.n r0.c] 224), r0.e]) (hd3 : 0 < 1 → ∀ q off, (some ⟨b3, 0, none⟩ : Option Addr) = some ⟨q, off, none⟩ → q ∉ bZ [(some lp, .loop rec), (some ob, bc [.slice r0.A r0.n r0.c] 224), r0.e]) :
    Calls Tryz.prog 217 #[.func (.yield lp) #[] #[], .pointer (some ⟨b1, 0, none⟩), .pointer (some ⟨b2, 0, none⟩), .pointer (some ⟨b3, 0, none⟩)] w (fun ex w' => ∃ v, ex = .returned v ∧ (fun v w' => v = .tuple #[] ∧ ∃ r : Row, aX 226 2 r.A r.n r.c ((rD ok lo hi).map bY) r.e ∧ Mem w (bZ [(some lp, .loop rec), (some ob, bc [.slice r0.A r0.n r0.c] 224), r0.e]) [(some lp, .loop rec), (some ob, bc [.slice r.A r.n r.c] 224), r.e] w') v w') := by
  rw [← gB b1, ← gB b2, ← gB b3]
  have hxd : nX lo hi = (hi.1 - lo.1 + 1).toNat := rfl
  have hyd : nY lo hi = (hi.2 - lo.2 + 1).toNat := rfl
  have hlx := hlo.x
  have hly := hlo.y
  have hhx := hhi.x
  have hhy := hhi.y
  have hnx := aTo hlo hhi
  have hny := aTl hlo hhi
  refine aK #[] 32 Tryz.func217 rfl Tryz.results217 Tryz.ntmps217 rfl ?_
  have M0 := hO.mem
  refine aH (aB ?_)
  refine aA (bR 1 uN (L1.memY M0 hd1) (Nat.lt_of_le_of_lt (Nat.zero_le _) ((L1.memY M0 hd1).below_len (show ([bY lo] : List (List Value))[0]? = some (bY lo) from rfl))) rfl) rfl rfl ?_
  refine aA (fB (o := 1) (.int _ _) aZ (L1.memY M0 hd1) (show ([bY lo] : List (List Value))[0]? = some (bY lo) from rfl) rfl rfl) rfl rfl ?_
  refine aA (aE (.int _ _) rfl) rfl rfl ?_
  refine aD (aF (bC ?_))
  refine dT (σ := Nat × Row) [0, 1, 2, 3] (fun (j, r) => [(5, .int .i32 (lo.2 + (j : Int)))]) (fun (j, r) w' => (j ≤ nY lo hi ∧ (ok = false → j = 0) ∧ aX 226 2 r.A r.n r.c ((lG lo hi j).map bY) r.e) ∧ Mem w (bZ [(some lp, .loop rec), (some ob, bc [.slice r0.A r0.n r0.c] 224), r0.e]) [(some lp, .loop rec), (some ob, bc [.slice r.A r.n r.c] 224), r.e] w') (fun (j, r) => nY lo hi - j) (0, r0) (bX (iv rfl (by simp)) fH) (⟨⟨by omega, fun _ => rfl, hr0⟩, M0⟩) ?_
  rintro ⟨j, r⟩ ρ1 w1 ⟨⟨hj, hjz, hr⟩, hM1⟩
  refine aH (aH (aB ?_))
  refine aA (fB (o := 0) (.bool _) mL (L2.memY hM1 hd2) (show ([[.bool ok]] : List (List Value))[0]? = some ([.bool ok]) from rfl) rfl rfl) rfl rfl ?_
  refine aA (aC (.bool _) rfl) rfl rfl ?_
  refine kQ 10 _ rfl (fun g10 => ?_) (fun g10 => ?_)
  · refine aA (aC (.int _ _) rfl) rfl rfl ?_
    refine aA (bR 1 uN (L3.memY hM1 hd3) (Nat.lt_of_le_of_lt (Nat.zero_le _) ((L3.memY hM1 hd3).below_len (show ([bY hi] : List (List Value))[0]? = some (bY hi) from rfl))) rfl) rfl rfl ?_
    refine aA (fB (o := 1) (.int _ _) aZ (L3.memY hM1 hd3) (show ([bY hi] : List (List Value))[0]? = some (bY hi) from rfl) rfl rfl) rfl rfl ?_
    refine aA (aO (.bool (decide _)) rfl rfl rfl) rfl rfl ?_
    refine aA (bI true (.bool (decide _)) rfl rfl) rfl rfl ?_
    refine aD (aF ?_)
    refine aY rfl (fun h15 => ?_) (fun h15 => ?_)
    · refine aP (aF (aH (bC (aH (aB ?_)))))
      refine aA (bR 0 uJ (L1.memY hM1 hd1) (Nat.lt_of_le_of_lt (Nat.zero_le _) ((L1.memY hM1 hd1).below_len (show ([bY lo] : List (List Value))[0]? = some (bY lo) from rfl))) rfl) rfl rfl ?_
      refine aA (fB (o := 0) (.int _ _) aZ (L1.memY hM1 hd1) (show ([bY lo] : List (List Value))[0]? = some (bY lo) from rfl) rfl rfl) rfl rfl ?_
      refine aA (aE (.int _ _) rfl) rfl rfl ?_
      refine aD (aF (bC ?_))
      refine dT (σ := Nat × Row) [0, 1, 2, 3, 5] (fun (i, q0) => [(6, .int .i32 (lo.1 + (i : Int)))]) (fun (i, q0) w' => (i ≤ nX lo hi ∧ aX 226 2 q0.A q0.n q0.c ((lG lo hi j ++ tS lo i j).map bY) q0.e) ∧ Mem w (bZ [(some lp, .loop rec), (some ob, bc [.slice r0.A r0.n r0.c] 224), r0.e]) [(some lp, .loop rec), (some ob, bc [.slice q0.A q0.n q0.c] 224), q0.e] w') (fun (i, q0) => nX lo hi - i) (0, r) (bX (iv rfl (by simp)) fH) (⟨⟨by omega, by simpa [tS] using hr⟩, hM1⟩) ?_
      rintro ⟨i, q0⟩ ρ2 w2 ⟨⟨hi2, hq0⟩, hM2⟩
      have hql : (lG lo hi j).length + i = q0.n := by simpa [aDk] using hq0.1
      refine aH (aH (aB ?_))
      refine aA (aC (.int _ _) rfl) rfl rfl ?_
      refine aA (bR 0 uJ (L3.memY hM2 hd3) (Nat.lt_of_le_of_lt (Nat.zero_le _) ((L3.memY hM2 hd3).below_len (show ([bY hi] : List (List Value))[0]? = some (bY hi) from rfl))) rfl) rfl rfl ?_
      refine aA (fB (o := 0) (.int _ _) aZ (L3.memY hM2 hd3) (show ([bY hi] : List (List Value))[0]? = some (bY hi) from rfl) rfl rfl) rfl rfl ?_
      refine aA (aO (.bool (decide _)) rfl rfl rfl) rfl rfl ?_
      refine aD (aF ?_)
      refine aY rfl (fun h23 => ?_) (fun h23 => ?_)
      · have hlt6 := aNv (lo := lo) (hi := hi) (i := i) (j := j) hnx (by omega) (by omega)
        refine aP (aF (aH (bC (aH ?_))))
        refine xS ?_
        refine xM (aC (.func _ _ _) rfl) rfl rfl ?_
        refine xM (aC (.int _ _) rfl) rfl rfl ?_
        refine xM (aC (.int _ _) rfl) rfl rfl ?_
        refine xM (cI [(0, .int _ _), (1, .int _ _)] _ yX rfl rfl) rfl rfl ?_
        obtain ⟨fy, ty, ay, by1, hy1, hy2⟩ := hY _ q0 ((lG lo hi j ++ tS lo i j).map bY) (bY (lo.1 + (i : Int), lo.2 + (j : Int))) ⟨_, _, rfl⟩ (by omega) hq0 (hM2.ownSeg 0 3)
        refine yZ rfl rfl rfl rfl hy1 (hy2.mono ?_)
        rintro _ w3 ⟨rfl, q3, hqn3, hq3, hM3⟩
        have M3 : Mem _ _ [_, _, _] _ := hM2.seg 0 3 hM3
        refine ⟨_, rfl, ?_⟩
        refine aOl rfl (fun _ _ h => h) ?_
        refine aA (kO false rfl rfl) rfl rfl ?_
        refine aD (aF ?_)
        refine cJ rfl ?_
        refine aP ?_
        refine dU ?_
        refine aF (aB ?_)
        refine aA (aC (.int _ _) rfl) rfl rfl ?_
        refine aA (fG rfl rfl (iP _ (by omega) (by omega))) rfl rfl ?_
        refine aA (aE (.int _ _) rfl) rfl rfl ?_
        refine aD ?_
        refine cK (i + 1, q3) (bX (iv rfl (by omega)) fH) (cQ rfl (cQ rfl (cQ rfl (cQ rfl (cQ rfl jF))))) ?_ ?_
        · exact ⟨⟨by omega, by rw [aKv, ← List.append_assoc, List.map_append]; exact hq3⟩, M3⟩
        · (show nX lo hi - (i + 1) < nX lo hi - i; omega)
      · have hix : i = nX lo hi := by omega
        refine cR ?_
        refine dK ?_
        refine dH ?_
        refine fC ?_
        refine dU ?_
        refine aF (aB ?_)
        refine aA (aC (.int _ _) rfl) rfl rfl ?_
        refine aA (fG rfl rfl (iP _ (by omega) (by omega))) rfl rfl ?_
        refine aA (aE (.int _ _) rfl) rfl rfl ?_
        refine aD ?_
        refine cK (j + 1, q0) (bX (iv rfl (by omega)) fH) (cQ rfl (cQ rfl (cQ rfl (cQ rfl jF)))) ?_ ?_
        · exact ⟨⟨by omega, fun h => (by rw [g10] at h; cases h), by rw [tV, ← hix]; exact hq0⟩, hM2⟩
        · (show nY lo hi - (j + 1) < nY lo hi - j; omega)
    · refine cR ?_
      refine dK ?_
      refine dH ?_
      refine fC ?_
      refine iC ?_
      exact ⟨rfl, r, by unfold rD; first | (rw [if_pos g10, show nY lo hi = j by omega]; exact hr) | (rw [if_neg (by rw [g10]; decide)]; rw [hjz g10] at hr; exact hr), hM1⟩
  · refine aN rfl rfl ?_
    refine aN rfl rfl ?_
    refine aN rfl rfl ?_
    refine aN rfl rfl ?_
    refine aA (bI false (.bool false) rfl rfl) rfl rfl ?_
    refine aD (aF ?_)
    refine cJ rfl ?_
    refine cR ?_
    refine dK ?_
    refine dH ?_
    refine fC ?_
    refine iC ?_
    exact ⟨rfl, r, by unfold rD; first | (rw [if_pos g10, show nY lo hi = j by omega]; exact hr) | (rw [if_neg (by rw [g10]; decide)]; rw [hjz g10] at hr; exact hr), hM1⟩
set_option maxHeartbeats 4000000 in
theorem aNj (w : World) (a : Bx) (ha : Okx a) :
    Calls Tryz.prog 161 #[(.agg (cT a).toArray)] w (fun ex w' => ∃ v, ex = .returned v ∧ (fun v w' => ∃ r : Row, v = .slice r.A r.n r.c ∧ aX 226 2 r.A r.n r.c ((fE a).map bY) r.e ∧ Mem w [] [r.e] w') v w') := by
  refine sA #[.tmp 2] 13 Tryz.func161 rfl Tryz.results161 Tryz.ntmps161 rfl ?_
  have M0 := Mem.refl w
  refine mO ?_
  refine kJ ?_
  refine bM (.agg (List.toArray _)) M0 rfl rfl rfl (fun b1 w1 M1 => ?_)
  refine aA (aE (.slice _ _ _) rfl) rfl rfl ?_
  refine aD ?_
  refine mP ?_
  refine mO ?_
  refine kJ ?_
  refine aU aRw M1 rfl rfl (fun b2 w2 M2 => ?_)
  refine aD ?_
  refine mP ?_
  refine mO ?_
  refine mO ?_
  refine kJ ?_
  refine aA (bE 0 gK M2 rfl rfl rfl) rfl rfl ?_
  refine aL aXl rfl rfl rfl ?_
  refine (aGb _ a).mono ?_
  rintro _ w3 ⟨v3, rfl, ⟨bl, bk, bh, rfl, hM3⟩⟩
  refine ⟨_, rfl, ?_⟩
  have M3 : Mem _ _ [_, _, _, _, _] _ := M2.call0 hM3
  refine aD ?_
  refine mP ?_
  refine aCo ?_
  have M4 : Mem _ _ [_, _, _, _, _] _ := ((M3.keep [false, true, true, true, true]).dummy default).perm (List.Perm.cons _ (List.perm_append_comm (l₁ := [_, _, _]) (l₂ := [_])))
  refine aCw aUv M4 rfl (fun fnn B lp tmps w1 hρ hn M1 => ?_)
  refine vE (P := Tryz.prog) (ob := b2) (Tsl := 224) (Te := 226) (sz := 2) (N := 1048576) (ok := (fun x => ∃ a b, x = [.int .i32 a, .int .i32 b])) M1 ?_ (fun hY => ?_)
  · intro wr r ls x hok hlt hrow hO
    obtain ⟨xa, xb, rfl⟩ := hok
    refine ⟨_, _, _, _, aBj hO rfl rfl rfl hn (by decide) hρ ?_⟩
    have MR0 := hO.mem
    refine oJ rfl (fun _ _ h => nomatch h.1) ?_
    refine aU mD MR0 rfl rfl (fun b5 w5 M5 => ?_)
    refine bL 3 _ fW M5 rfl rfl rfl rfl rfl (aW rfl) rfl (fun w6 M6 => ?_)
    refine aD ?_
    refine ⟨rfl, _, M6, rfl, fun w7 M7 => ?_⟩
    refine aEb ?_
    refine oJ rfl (fun _ _ h => nomatch h.1) ?_
    refine aA (aV 1 (.slice _ _ _) aGi M7 rfl rfl rfl) rfl rfl ?_
    refine aA (bE 3 fW M7 rfl rfl rfl) rfl rfl ?_
    refine cF [.agg (List.toArray _)] [[.int .i32 xa, .int .i32 xb]] rfl aOy M7 rfl rfl rfl rfl (cO rfl) (by decide) (fun b8 w8 M8 => ?_)
    refine dV 2 [[.int .i32 xa, .int .i32 xb]] aOy M8 rfl rfl rfl rfl rfl hrow rfl (by simp [Go.Bil.one]) (cV.ofMem 4 M8 rfl) (by omega) (fun A9 c9 e9 w9 M9 hR9 => ?_)
    refine eL 1 (.slice _ _ _) aGi M9 rfl rfl rfl rfl rfl rfl (fun w10 M10 => ?_)
    refine aD ?_
    refine dU ?_
    refine ⟨rfl, _, M10, rfl, fun w11 M11 => ?_⟩
    exact ⟨⟨A9, r.n + 1, c9, e9⟩, rfl, hR9, M11.keep [true, true, true, false, false]⟩
  · refine (aDi _ (loC a) (hiC a) _ bl bk bh (oN 3 M1 rfl rfl) (oN 5 M1 rfl rfl) (oN 4 M1 rfl rfl) (aGj ha) (aGn ha) lp b2 _ hY ⟨none, 0, 0, (none, default)⟩ (aX.nil _ _ _) (M1.ownSeg 0 3) (M1.apartTake 3 3 rfl rfl) (M1.apartTake 3 5 rfl rfl) (M1.apartTake 3 4 rfl rfl)).mono ?_
    rintro _ w5 ⟨v5, rfl, rfl, r, hr, hM⟩
    have M5 : Mem _ _ (_ :: [_, _, _, _, _, _]) _ := M1.seg 0 3 hM
    refine ⟨_, rfl, _, M5, fun w6 M6 => ?_⟩
    refine aTu ?_
    refine mP ?_
    refine mO ?_
    refine yB ?_
    refine aHy (aV 1 (.slice _ _ _) aGi M6 rfl rfl rfl) rfl rfl ?_
    refine aHy (aE (.slice _ _ _) rfl) rfl rfl ?_
    refine aHz ?_
    refine mP ?_
    refine aMc ?_
    refine aUd (i := 6) (.slice _ _ _) rfl M6 rfl (fun w9 M9 => ?_)
    exact ⟨r, rfl, hr, M9.keep [false, false, true, false, false, false, false]⟩
set_option maxHeartbeats 4000000 in
theorem aEh (w : World) (F : Rd w 2 (some ⟨0, 0, none⟩) 1 [[.int .u32 73856093, .int .u32 19349663]]) (c : Int × Int) :
    Calls Tryz.prog 162 #[(.agg (bY c).toArray)] w (fun ex w' => ∃ v, ex = .returned v ∧ (fun v w' => v = .int .i64 (dE c : Int) ∧ Below w.heap.size w w') v w') := by
  refine aK #[.tmp 2] 20 Tryz.func162 rfl Tryz.results162 Tryz.ntmps162 rfl ?_
  have M0 := Mem.refl w
  refine aH (aB ?_)
  refine bM (.agg (List.toArray _)) M0 rfl rfl rfl (fun b1 w1 M1 => ?_)
  refine aA (aE (.int _ _) rfl) rfl rfl ?_
  refine aD (aF (aH (aB ?_)))
  refine aA (aI 0 uJ rfl) rfl rfl ?_
  refine aA (aV 0 (.int _ _) aZ M1 rfl rfl rfl) rfl rfl ?_
  refine aA (fN gA Tryz.underlying36 rfl) rfl rfl ?_
  refine aA (zE (0) aMb rfl rfl rfl (by decide)) rfl rfl ?_
  refine aA (fB (k := 0) (o := 0) (.int _ _) dD (F.mem M1) (show ([[.int .u32 73856093, .int .u32 19349663]] : List (List Value))[0]? = some [.int .u32 73856093, .int .u32 19349663] from rfl) rfl rfl) rfl rfl ?_
  refine aA (aO (.int _ _) rfl rfl rfl) rfl rfl ?_
  refine aA (aI 1 uN rfl) rfl rfl ?_
  refine aA (aV 0 (.int _ _) aZ M1 rfl rfl rfl) rfl rfl ?_
  refine aA (fN gA Tryz.underlying36 rfl) rfl rfl ?_
  refine aA (zE (1) aMb rfl rfl rfl (by decide)) rfl rfl ?_
  refine aA (fB (k := 0) (o := 1) (.int _ _) dD (F.mem M1) (show ([[.int .u32 73856093, .int .u32 19349663]] : List (List Value))[0]? = some [.int .u32 73856093, .int .u32 19349663] from rfl) rfl rfl) rfl rfl ?_
  refine aA (aO (.int _ _) rfl rfl rfl) rfl rfl ?_
  refine aA (aO (.int _ _) rfl rfl rfl) rfl rfl ?_
  refine aA (aE (.int _ _) rfl) rfl rfl ?_
  refine aD (aF (aH (aB ?_)))
  refine aA (aC (.int _ _) rfl) rfl rfl ?_
  refine aA (aO (.int _ _) rfl rfl rfl) rfl rfl ?_
  refine aQ 18 (.int .u32 (oA c)) rfl ?_
  refine aA (bW aZn Tryz.underlying3 rfl (kR _ (by have := jD c; omega) (by have := jD c; omega))) rfl rfl ?_
  refine aA (aE (.int _ _) rfl) rfl rfl ?_
  refine aD (aF (aS ?_))
  refine cG (.int _ _) rfl ?_
  exact ⟨iE (aJv c), M1.below⟩
end Go.Proofs.YtlmcphcgiclanaaGreatDoor

namespace Go.Proofs.YtlmcphcgiclanaaGreatDoor
open Go.Bil
open Go.RowKit (Below)
open Go.Proofs
set_option maxHeartbeats 16000000 in
theorem aCn (w : World) (F : Rd w 2 (some ⟨0, 0, none⟩) 1 [[.int .u32 73856093, .int .u32 19349663]]) (b : Nat) (rs : List Row) (cnt : Int) (g : Nat → List Int) (hG : GridRows 36 rs g) (hcnt : 0 ≤ cnt ∧ cnt ≤ 1048576) (hgl : ∀ j, j < 1024 → (g j).length ≤ 1048576) (key : Int) (a : Bx) (ha : Okx a) (hO : Own ((some b, bc (cY rs cnt) 191) :: rs.map Row.e) w) (hdF : 0 < 1 → ∀ q off, (some ⟨0, 0, none⟩ : Option Addr) = some ⟨q, off, none⟩ → q ∉ bZ ((some b, bc (cY rs cnt) 191) :: rs.map Row.e)) :
    Calls Tryz.prog 133 #[.pointer (some ⟨b, 0, none⟩), .int .u32 key, (.agg (cT a).toArray)] w (fun ex w' => ∃ v, ex = .returned v ∧ (fun v w' => v = .tuple #[] ∧ ∃ rs' : List Row, GridRows 36 rs' (oM g key ((fE a).map dE)) ∧ Mem w (bZ ((some b, bc (cY rs cnt) 191) :: rs.map Row.e)) ((some b, bc (cY rs' (cnt + 1)) 191) :: rs'.map Row.e) w') v w') := by
  refine aK #[] 49 Tryz.func133 rfl Tryz.results133 Tryz.ntmps133 rfl ?_
  have M0 := hO.mem
  refine aH (aB ?_)
  refine bM (.agg (List.toArray _)) M0 rfl rfl rfl (fun b1 w1 M1 => ?_)
  have M2 : Mem _ _ ([_, _] ++ _) _ := Mem.front (L := [_]) M1
  refine aD (aF (aH (aH (aB ?_))))
  refine aA (aC (.pointer _) rfl) rfl rfl ?_
  refine aA (vN false Tryz.underlying222 rfl rfl) rfl rfl ?_
  refine aD (aF ?_)
  refine cJ rfl ?_
  refine aP (aF (aH (aB ?_)))
  refine aA (aC (.pointer _) rfl) rfl rfl ?_
  refine aA (bA rfl) rfl rfl ?_
  refine aA (aI 1024 aDf rfl) rfl rfl ?_
  refine aA (aV 0 (.int .i64 cnt) mA M2 rfl rfl (uH hG.len)) rfl rfl ?_
  refine aA (bS rfl rfl (by omega) (by omega)) rfl rfl ?_
  refine aA (bA rfl) rfl rfl ?_
  refine aA (aI 1024 aDf rfl) rfl rfl ?_
  refine eL 0 (.int _ _) mA M2 rfl rfl rfl rfl rfl (by rw [uH hG.len]; rfl) (fun w3 M3 => ?_)
  have M3b : Mem _ _ ([(some b, bc (cY rs (cnt + 1)) 191), _] ++ rs.map Row.e) _ := Mem.cells0 M3 (xH hG.len)
  refine aD (aF (aH (aB ?_)))
  refine mS M3b rfl rfl (fun b4 w4 M4 => ?_)
  have M5 : Mem _ _ ([_, _, _] ++ _) _ := Mem.front (L := [_, _]) M4
  refine aA (aE (.map _) rfl) rfl rfl ?_
  refine aD (aF (aH (aB ?_)))
  refine aA (bE 1 gK M5 rfl rfl rfl) rfl rfl ?_
  refine aL aWt rfl rfl rfl ?_
  refine (aNj _ a ha).mono ?_
  rintro _ w6 ⟨v6, rfl, ⟨r0, rfl, hR0, hM6⟩⟩
  refine ⟨_, rfl, ?_⟩
  have M6 : Mem _ _ ([_, _, _, _] ++ _) _ := Mem.front (L := [_, _, _]) (M5.call0 hM6)
  have hcl : (fE a).length = r0.n := by simpa using hR0.1
  have hcb := aFm ha
  refine aA (bV Tryz.underlying224 rfl) rfl rfl ?_
  refine aA (aC (.int _ _) rfl) rfl rfl ?_
  refine aD (aF (bC ?_))
  refine dT (σ := Nat × List Row × dW) [0, 1, 6, 21, 22] (fun (i, rs1, em) => [(23, .int .i64 (i : Int))]) (fun (i, rs1, em) w' => (i ≤ r0.n ∧ GridRows 36 rs1 (oM g key (((fE a).map dE).take i)) ∧ iW .i64 Value.bool (nD (((fE a).map dE).take i)) (some b4) em) ∧ Mem w (bZ ((some b, bc (cY rs cnt) 191) :: rs.map Row.e)) ([(some b, bc (cY rs1 (cnt + 1)) 191), (some b1, bc (cT a) 193), em, r0.e] ++ rs1.map Row.e) w') (fun (i, rs1, em) => r0.n - i) (0, rs, (some b4, .map #[] 0)) (bX rfl fH) (⟨⟨by omega, by rw [List.take_zero, aNa]; exact hG, (iW.empty _ _ b4).congr (fun q => by rw [List.take_zero]; exact aLc q)⟩, M6⟩) ?_
  rintro ⟨i, rs1, em⟩ ρ7 w7 ⟨⟨hi, hrs, hme⟩, hM7⟩
  refine aH (aB ?_)
  refine aA (aO (.bool (decide _)) rfl rfl rfl) rfl rfl ?_
  refine aD (aF (aH ?_))
  refine aY rfl (fun h24 => ?_) (fun h24 => ?_)
  · obtain ⟨xc, hxc⟩ := cS (xs := fE a) (k := i) hcl (by omega)
    have hbb : ((fE a).map dE)[i]? = some (dE xc) := by rw [List.getElem?_map, hxc]; rfl
    refine aP (aF (aH (bC (aH (aB ?_)))))
    refine aA (bK (i) aOy rfl rfl rfl ((hR0.rd hM7 (aM (i := 3) rfl)).below_len (aJ bY hxc)) ((hR0.rd hM7 (aM (i := 3) rfl)).someK (aJ bY hxc))) rfl rfl ?_
    refine aA (cM _ fW (hR0.rd hM7 (aM (i := 3) rfl)) (aJ bY hxc) rfl) rfl rfl ?_
    refine aU mD hM7 rfl rfl (fun b8 w8 M8 => ?_)
    have M9 : Mem _ _ ([_, _, _, _, _] ++ _) _ := Mem.front (L := [_, _, _, _]) M8
    refine bL 4 _ fW M9 rfl rfl rfl rfl rfl (aW rfl) rfl (fun w10 M10 => ?_)
    refine aD (aF (aH (aB ?_)))
    refine aA (bE 4 fW M10 rfl rfl rfl) rfl rfl ?_
    refine aL aVm rfl rfl rfl ?_
    refine (aEh _ (F.memY M10 hdF) xc).mono ?_
    rintro _ w11 ⟨v11, rfl, ⟨rfl, hb11⟩⟩
    refine ⟨_, rfl, ?_⟩
    have M11 := M10.callB hb11
    refine aA (aE (.int _ _) rfl) rfl rfl ?_
    refine aD (aF (aH (aH (aB ?_))))
    refine aA (aC (.map _) rfl) rfl rfl ?_
    refine aA (aC (.int _ _) rfl) rfl rfl ?_
    refine aA (iF (enc := Value.bool) false 2 aNu zv4 M11 rfl hme rfl rfl) rfl rfl ?_
    refine aD (aF ?_)
    refine iV _ rfl (fun h31 => ?_) (fun h31 => ?_)
    · refine cR ?_
      refine dK ?_
      refine fC ?_
      refine aF (aB ?_)
      refine aA (bS rfl rfl (by omega) (by omega)) rfl rfl ?_
      refine aA (aC (.int _ _) rfl) rfl rfl ?_
      refine aD ?_
      refine cK (i + 1, rs1, em) (bX rfl fH) (cQ rfl (cQ rfl (cQ rfl (cQ rfl (cQ rfl jF))))) ?_ ?_
      · exact ⟨⟨by omega, by rw [aOe hbb (rR.1 h31)]; exact hrs, by rw [aJl hbb (rR.1 h31)]; exact hme⟩, Mem.keepL (L := [_, _, _, _, _]) [true, true, true, true, false] M11⟩
      · (show r0.n - (i + 1) < r0.n - i; omega)
    · have hnb : dE xc ∉ ((fE a).map dE).take i := fun h => by have h2 := rR.2 h; rw [h2] at h31; cases h31
      refine aP (aF (aH (aB ?_)))
      refine aA (aC (.map _) rfl) rfl rfl ?_
      refine aA (aC (.int _ _) rfl) rfl rfl ?_
      refine mK (enc := Value.bool) 2 aNu M11 rfl rfl hme rfl rfl rfl rfl (fun e12 w12 hm12 M12 => ?_)
      refine aD (aF ?_)
      refine bP [(0, 0), (1, 0), (2, 0), (3, 0), (4, 0), (5, 0), (6, 0), (7, 1), (8, 0), (11, 0), (12, 0), (9, 2), (10, 2), (13, 0), (14, 2)] mixed rfl (by kernel_rfl) (fun w13 hb13 hh13 => ?_)
      have M13 := M12.drew hb13 hh13
      refine aR rfl rfl rfl (fun _ => aC (.pointer _) rfl) ?_
      refine aR rfl rfl rfl (fun _ => aC (.int _ _) rfl) ?_
      refine aR rfl rfl rfl (fun _ => aC (.pointer _) rfl) ?_
      refine aR rfl rfl rfl (fun _ => aC (.int _ _) rfl) ?_
      refine aR rfl rfl rfl (fun _ => bA rfl) ?_
      refine aR rfl rfl rfl (fun _ => aI 0 uO rfl) ?_
      refine aR rfl rfl rfl (fun _ => zE (dE xc) aEs rfl rfl rfl (hJ xc)) ?_
      obtain ⟨rb, hrb⟩ := hrs.get (hJ xc)
      have hrowb := hrs.row _ _ hrb
      have hgb : oM g key (((fE a).map dE).take i) (dE xc) = g (dE xc) := by unfold oM; rw [if_neg hnb]
      have hrn : (oM g key (((fE a).map dE).take i) (dE xc)).length = rb.n := by simpa using hrowb.1
      have hgl := hgl (dE xc) (hJ xc)
      rw [hgb] at hrn
      have M14 : Mem _ _ ([_, _, _, _, _, _] ++ (rs1.eraseIdx (dE xc)).map Row.e) _ := Mem.pull (L := [_, _, _, _, _]) (rs := rs1) M13 hrb
      refine cD rfl rfl rfl (aV 0 (.slice _ _ _) zS M14 rfl rfl (oY hrb)) ?_
      refine aR rfl rfl rfl (fun _ => aC (.int _ _) rfl) ?_
      refine aR rfl rfl rfl (fun _ => bA rfl) ?_
      refine aR rfl rfl rfl (fun _ => aI 0 uO rfl) ?_
      refine dM [false] rfl (by kernel_rfl) ?_
      refine cF [.int _ _] [gS key] rfl aCc M14 rfl rfl rfl rfl (cO rfl) (by decide) (fun b15 w15 M15 => ?_)
      have M16 : Mem _ _ ([_, _, _, _, _, _, _] ++ _) _ := Mem.front (L := [_, _, _, _, _, _]) M15
      refine aD (aF ⟨(iQ (cU rfl (aV 0 (.slice _ _ _) zS M16 rfl rfl (oY hrb))) cX), ?_⟩)
      refine dM [true] rfl (by kernel_rfl) ?_
      refine dV 5 [gS key] aCc M16 rfl rfl rfl rfl rfl hrowb rfl (aFr _) (cV.ofMem 6 M16 rfl) (by omega) (fun A17 c17 e17 w17 M17 hR17 => ?_)
      refine aD (aF ⟨cX, ?_⟩)
      refine aR rfl rfl rfl (fun _ => zE (dE xc) aEs rfl rfl rfl (hJ xc)) ?_
      refine dM [] rfl (by kernel_rfl) ?_
      refine eL 0 (.slice _ _ _) zS M17 rfl rfl rfl rfl rfl (by rw [oY hrb]; rfl) (fun w18 M18 => ?_)
      have M18b : Mem _ _ ([(some b, bc (cY (rs1.set (dE xc) (⟨A17, rb.n + 1, c17, e17⟩ : Row)) (cnt + 1)) 191), _, _, _, _, _, _] ++ (rs1.eraseIdx (dE xc)).map Row.e) _ := Mem.cells0 M18 (wQ (⟨A17, rb.n + 1, c17, e17⟩ : Row) (by rw [hrs.len]; exact hJ xc))
      refine aD (aF ⟨cX, ?_⟩)
      refine cB ?_
      refine dU ?_
      refine aF (aB ?_)
      refine aA (bS rfl rfl (by omega) (by omega)) rfl rfl ?_
      refine aA (aC (.int _ _) rfl) rfl rfl ?_
      refine aD ?_
      refine cK (i + 1, rs1.set (dE xc) (⟨A17, rb.n + 1, c17, e17⟩ : Row), e12) (bX rfl fH) (cQ rfl (cQ rfl (cQ rfl (cQ rfl (cQ rfl jF))))) ?_ ?_
      · exact ⟨⟨by omega, by rw [aPo hbb hnb]; exact hrs.put (r := (⟨A17, rb.n + 1, c17, e17⟩ : Row)) (hJ xc) (by simpa using hR17), hm12.congr (fun q => yL hbb q)⟩, Mem.push (L := [_, _, _, _]) (rs := rs1) (⟨A17, rb.n + 1, c17, e17⟩ : Row) (Mem.keepL (L := [_, _, _, _, _, _, _]) [true, true, true, true, false, true, false] M18b) (by rw [hrs.len]; exact hJ xc)⟩
      · (show r0.n - (i + 1) < r0.n - i; omega)
  · have hin : i = r0.n := by omega
    rw [List.take_of_length_le (by simp; omega)] at hrs
    refine cR ?_
    refine dK ?_
    refine dH ?_
    refine fC ?_
    refine iC ?_
    exact ⟨rfl, rs1, hrs, Mem.keepL (L := [_, _, _, _]) [true, false, false, false] hM7⟩
end Go.Proofs.YtlmcphcgiclanaaGreatDoor
